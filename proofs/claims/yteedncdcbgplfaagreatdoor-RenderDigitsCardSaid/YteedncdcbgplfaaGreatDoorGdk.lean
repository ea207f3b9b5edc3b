import Derived.Test.YteedncdcbgplfaaGreatDoorH1
import Derived.Test.YteedncdcbgplfaaGreatDoorL3
import Derived.Test.YteedncdcbgplfaaGreatDoorCards
import Derived.Test.YteedncdcbgplfaaGreatDoorTie
namespace Go.Proofs.YteedncdcbgplfaaGreatDoor
open Go.Proofs.Tryz
open Go Go.RowKit
set_option maxRecDepth 1000000
theorem akM:prog.closure 7=[7,9,27,20,23,59,60,61,135,212,258,136,213,138,215,259,137,214,85,163,236,174,243,172,139,140,216,182,220,62,143,218,142,217,144,35,82,162,83,84,86,141,12,30,31,33,32,34,37,87,38,91,93,171,240,92,168,193,241,194,281,242,169,170,106,195,109,201,90,167,239,277,278,306,305,307,279,280,308,309,327,328,103,181,249,250,183,251,284,252,285,184,185,186,71,150,108,197,198,199,254,200,255,286,310,311,312,151,227,228,229,260,287,152,230,221,164,237,275,304,326,334,276,88,89,165,166,238,36,39,94,173,95,96,97,175,98,176,99,100,101,177,178,40,102,179,244,263,291,292,180,245,282,246,247,283,248,104,187,189,253,188,190,191,107,196,105,192,41,28,14,17,19,21,47,113,114,50,116,127,158,115,81,159,126,22,58,156,211,80,160,161,205,77,57,132,73,133,134]:=by kernel_rfl
theorem atN:prog.unfollowed 7=true:=by unfold Program.unfollowed;rw[akM];kernel_rfl
theorem bxH:(Rows.renderDigitsRow.inPlace==prog.inPlace 7)=true:=by unfold Program.inPlace;rw[akM];kernel_rfl
theorem bxG:(Rows.renderDigitsRow.named==prog.varsNamed 7)=true:=by unfold Program.varsNamed;rw[akM];kernel_rfl
theorem bxF:prog.recurses 7=true:=by unfold Program.recurses;rw[atN];rfl
theorem ajJ:prog.funcNamed Rows.renderDigitsRow.func=some 7:=by kernel_rfl
theorem bhT:prog.goes 7=false:=by unfold Program.goes;rw[akM,atN];kernel_rfl
theorem azP:prog.goesFrom Rows.renderDigitsRow.func=false:=by
 unfold Program.goesFrom;rw[ajJ,Option.any_some];exact bhT
theorem bhV:false=Rows.renderDigitsRow.goesBy prog:=by
 unfold OpenClaim.goesBy Program.goesAt;rw[azP]
 kernel_rfl
theorem bdI:true=prog.looks []:=by kernel_rfl
theorem bhU:prog.mainIs=some (true,"2746d48b2fe447adbdb2c015641de02e31eb2287da6537fa34eeb98064423fc9".toList):=by kernel_rfl
theorem azQ:joinedFacts prog 7 Tryz.f7 Rows.renderDigitsSpec Rows.renderDigitsRow=true:=by
 unfold joinedFacts;rw[Tryz.laidOut,bxH,bxG,atN,bxF]
 kernel_rfl
open Go Go.ChangeShapes Go.WideShapes Go.ChangeAt Go.RowKit
theorem atO(c0:Int)(hc0: -9223372036854775808≤c0∧c0≤9223372036854775807)(c1:Int)(hc1: -9223372036854775808≤c1∧c1≤9223372036854775807)(n2:Int)(hn2:0≤n2∧n2<18446744073709551616):Fn 7 [.int .i64 c0,.int .i64 c1,.int .u64 n2] (.bool true):=by
 intro H;have h:=bhS c0 hc0 c1 hc1 n2.toNat aA H
 rwa[show((n2.toNat:Nat):Int)=n2 by omega]at h
set_option maxRecDepth 1000000 in
theorem azO(os:Os)(started:os.Started)(H:Type)(enc:TypeId×Value→H):
  ReturnsInHanded {} Tryz.checked os 7 .any (λw args=>(Rows.renderDigitsSpec.pre enc prog Tryz.f7 [] false w args∧laidMetH prog laidL w)∧sizedMet enc prog Tryz.f7 (OpenSpec.ofChange Rows.renderDigitsSpec) false w args)
   (Rows.renderDigitsSpec.post enc prog Tryz.f7 false true false false):=by
 refine bjR (C:=Tryz.checked) (X:=λw _=>laidMetH prog laidL w) (λ_ _ _ hh h=>h.of_heap hh) Tryz.own started (by kernel_rfl) func7
  (ChangeSpec.witness_at (enc:=enc) (C:=Tryz.checked) (os:=os) (X:=λw _=>laidMetH prog laidL w) false (asH os) #[.int .i64 0,.int .i64 0,.int .u64 0] 8 rfl (by kernel_rfl) (by kernel_rfl) (by kernel_rfl) (by kernel_rfl) (by kernel_rfl) (amX os _)) ?_
 intro W base args ds gs before hsh hval0 hW _ _ hL;have hI:=ceZ hsh hL;have hval:∀(j:Nat) t v,Tryz.f7.params[j]?=some t→args[j]?=some v→Value.okWide prog W .any base t v:=hval0;have hW':=hW;obtain⟨p,q,hA0,hV,rfl,_,_⟩:=hW;have hA:DataW.TrodAll enc prog W 0 (λ_=>true) true Tryz.f7.params.toList args.toList ds p:=hA0;rw[Tryz.params7]at hA hval;obtain⟨v0,v1,v2,d0,d1,d2,p0,p1,p2,rfl,rfl,rfl,h0,h1,h2⟩:=trodAll_three hA;obtain⟨rfl,rfl⟩:=trodVars_none hV;clear hA0 hval0;simp only[bU]at hW';obtain⟨n0,rfl⟩:=okWide_int U3 (hval 0 3 v0 rfl rfl);obtain⟨x0,hx0,hr0⟩:=avH (avG (hI:=hI) U3) h0 (λ_=>rfl) rfl;obtain⟨n1,rfl⟩:=okWide_int U3 (hval 1 3 v1 rfl rfl);obtain⟨x1,hx1,hr1⟩:=avH (avG (hI:=hI) U3) h1 (λ_=>rfl) rfl;obtain⟨n2,rfl⟩:=okWide_int U25 (hval 2 25 v2 rfl rfl);obtain⟨x2,hx2,hr2⟩:=avH (avG (hI:=hI) U25) h2 (λ_=>rfl) rfl;have hlt:∀x∈p0++p1++p2,x.block<W.heap.size:=λx hx=>by simpa using hW'.lt x hx
 have hargs:∀{t:TypeId}{v:Value}{d:DataW H}{ps:List MemPlace},DataW.Trod enc prog W 0 (λ_=>true) true t v d ps→(∀x∈ps,x.block<W.heap.size)→prog.readableRec t=true→t<prog.types.size→∀W':World,Below W.heap.size W W'→DataW.Trod enc prog W' 0 (λb=>decide (b<W.heap.size)) true t v d ps:=
  λh hl hr ht W' hn=>Below.trod Tryz.laidOut hr ht h hn hl
 refine(bcF (P:=prog) (f:=7) (λH=>atO x0 (wfi64 hx0) x1 (wfi64 hx1) x2 (wf64 hx2) H) (anS hr0 (anS hr1 (anS hr2 bsI)))).mono λe W' ⟨he,hn⟩=>?_;subst he;exact⟨_,rfl,_,_,_,[],_,[],hW',trodAll_mk1 (shut_bool U4 true),trodAll_mk3 (hargs h0 (λx hx=>hlt x (by simp[hx])) (by kernel_rfl) (of_decide_eq_true (by kernel_rfl)) W' hn) (hargs h1 (λx hx=>hlt x (by simp[hx])) (by kernel_rfl) (of_decide_eq_true (by kernel_rfl)) W' hn) (hargs h2 (λx hx=>hlt x (by simp[hx])) (by kernel_rfl) (of_decide_eq_true (by kernel_rfl)) W' hn),rfl,hn.frame _,λh=>by cases h⟩
theorem bpX:Rows.RenderDigitsSaid:=
 OpenClaim.holds_of_wide 7 Tryz.f7 rfl rfl rfl rfl rfl rfl rfl ⟨rfl,rfl,rfl,rfl,rfl⟩ rfl rfl rfl rfl rfl ajJ func7 azQ
  (of_decide_eq_true (by kernel_rfl)) (by unfold Func.isWrapper;first|(rw[aN aE];kernel_rfl)|(rw[aM aE];exact⟨rfl,rfl⟩))
  (λos started H enc _=>azO os started H enc)
theorem Digits_holds:Rows.RenderDigitsCardSaid:=
 Claim7.holds_tied_plain_at .later [] [.data,.data,.data,.data,.sentinel,.sentinel,.data,.data,.pinned] true (true,"2746d48b2fe447adbdb2c015641de02e31eb2287da6537fa34eeb98064423fc9") true
  bpX (λ_ h=>by cases h) (by kernel_rfl) (λ_ h=>by cases h) renderDigits_row_tie rfl ⟨rfl,rfl⟩ bhU rfl
  (λf fn hf hfn=>by
    obtain rfl:f=7:=Option.some.inj (ajJ.symm.trans hf) |>.symm
    obtain rfl:fn=Tryz.f7:=(Option.some.inj (func7.symm.trans hfn)).symm;exact⟨bdI,λj t ht=>by
      rw[Tryz.params7]at ht;have h3:t=3∨t=25:=by
        rcases j with _|_|_|j
        ·exact .inl (by simpa using ht.symm)
        ·exact .inl (by simpa using ht.symm)
        ·exact .inr (by simpa using ht.symm)
        simp at ht
      rcases h3 with rfl|rfl
      ·exact(show prog.wantsStandIn 3=false by kernel_rfl)
      exact(show prog.wantsStandIn 25=false by kernel_rfl)⟩)
  bhV
end Go.Proofs.YteedncdcbgplfaaGreatDoor
