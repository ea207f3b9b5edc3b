import Derived.Test.YteedncdcbgplfaaGreatDoorH1
import Derived.Test.YteedncdcbgplfaaGreatDoorL4
import Derived.Test.YteedncdcbgplfaaGreatDoorCards
import Derived.Test.YteedncdcbgplfaaGreatDoorTie
namespace Go.Proofs.YteedncdcbgplfaaGreatDoor
open Go.Proofs.Tryz
open Go Go.RowKit
set_option maxRecDepth 1000000
theorem akL:prog.closure 8=[8,9,27,20,23,59,60,61,135,212,258,136,213,138,215,259,137,214,85,163,236,174,243,172,139,140,216,182,220,62,143,218,142,217,144,35,82,162,83,84,86,141,12,30,31,33,32,34,37,87,38,91,93,171,240,92,168,193,241,194,281,242,169,170,106,195,109,201,90,167,239,277,278,306,305,307,279,280,308,309,327,328,103,181,249,250,183,251,284,252,285,184,185,186,71,150,108,197,198,199,254,200,255,286,310,311,312,151,227,228,229,260,287,152,230,221,164,237,275,304,326,334,276,88,89,165,166,238,36,39,94,173,95,96,97,175,98,176,99,100,101,177,178,40,102,179,244,263,291,292,180,245,282,246,247,283,248,104,187,189,253,188,190,191,107,196,105,192,41,28,14,17,19,11,29,24,63,25,64,69,148,145,219,65,66,146,67,147,68,70,149,222,261,288,313,314,289,290,315,329,223,225,224,262,226,72,154,231,232,265,264,294,295,296,297,319,272,293,316,318,317,233,266,298,267,234,268,300,301,274,303,323,324,325,322,299,320,330,321,331,335,339,340,341,342,343,347,348,349,350,351,345,332,336,344,346,352,353,333,338,337,269,302,270,273,271,235,153,21,47,113,114,50,116,127,158,115,81,159,126,22,58,156,211,80,160,161,205,77,57,132,73,133,134,26,74,75,128,78,76,79,155,157]:=by kernel_rfl
theorem atL:prog.unfollowed 8=true:=by unfold Program.unfollowed;rw[akL];kernel_rfl
theorem bxE:(Rows.renderEntersRow.inPlace==prog.inPlace 8)=true:=by unfold Program.inPlace;rw[akL];kernel_rfl
theorem bxD:(Rows.renderEntersRow.named==prog.varsNamed 8)=true:=by unfold Program.varsNamed;rw[akL];kernel_rfl
theorem bxC:prog.recurses 8=true:=by unfold Program.recurses;rw[atL];rfl
theorem ajI:prog.funcNamed Rows.renderEntersRow.func=some 8:=by kernel_rfl
theorem bhO:prog.goes 8=false:=by unfold Program.goes;rw[akL,atL];kernel_rfl
theorem azM:prog.goesFrom Rows.renderEntersRow.func=false:=by
 unfold Program.goesFrom;rw[ajI,Option.any_some];exact bhO
theorem bhQ:false=Rows.renderEntersRow.goesBy prog:=by
 unfold OpenClaim.goesBy Program.goesAt;rw[azM]
 kernel_rfl
theorem bdH:true=prog.looks []:=by kernel_rfl
theorem bhP:prog.mainIs=some (true,"2746d48b2fe447adbdb2c015641de02e31eb2287da6537fa34eeb98064423fc9".toList):=by kernel_rfl
theorem azN:joinedFacts prog 8 Tryz.f8 Rows.renderEntersSpec Rows.renderEntersRow=true:=by
 unfold joinedFacts;rw[Tryz.laidOut,bxE,bxD,atL,bxC]
 kernel_rfl
open Go Go.ChangeShapes Go.WideShapes Go.ChangeAt Go.RowKit
theorem atM(c0:Int)(hc0: -9223372036854775808≤c0∧c0≤9223372036854775807)(n1:Int)(hn1:0≤n1∧n1<18446744073709551616)(c2:Int)(hc2: -9223372036854775808≤c2∧c2≤9223372036854775807):Fn 8 [.int .i64 c0,.int .u64 n1,.int .i64 c2] (.bool true):=by
 intro H;have h:=bhN c0 hc0 n1.toNat aA c2 hc2 H
 rwa[show((n1.toNat:Nat):Int)=n1 by omega]at h
set_option maxRecDepth 1000000 in
theorem azL(os:Os)(started:os.Started)(H:Type)(enc:TypeId×Value→H):
  ReturnsInHanded {} Tryz.checked os 8 .any (λw args=>(Rows.renderEntersSpec.pre enc prog Tryz.f8 [] false w args∧laidMetH prog laidL w)∧sizedMet enc prog Tryz.f8 (OpenSpec.ofChange Rows.renderEntersSpec) false w args)
   (Rows.renderEntersSpec.post enc prog Tryz.f8 false true false false):=by
 refine bjR (C:=Tryz.checked) (X:=λw _=>laidMetH prog laidL w) (λ_ _ _ hh h=>h.of_heap hh) Tryz.own started (by kernel_rfl) func8
  (ChangeSpec.witness_at (enc:=enc) (C:=Tryz.checked) (os:=os) (X:=λw _=>laidMetH prog laidL w) false (asH os) #[.int .i64 0,.int .u64 0,.int .i64 0] 8 rfl (by kernel_rfl) (by kernel_rfl) (by kernel_rfl) (by kernel_rfl) (by kernel_rfl) (amX os _)) ?_
 intro W base args ds gs before hsh hval0 hW _ _ hL;have hI:=ceZ hsh hL;have hval:∀(j:Nat) t v,Tryz.f8.params[j]?=some t→args[j]?=some v→Value.okWide prog W .any base t v:=hval0;have hW':=hW;obtain⟨p,q,hA0,hV,rfl,_,_⟩:=hW;have hA:DataW.TrodAll enc prog W 0 (λ_=>true) true Tryz.f8.params.toList args.toList ds p:=hA0;rw[Tryz.params8]at hA hval;obtain⟨v0,v1,v2,d0,d1,d2,p0,p1,p2,rfl,rfl,rfl,h0,h1,h2⟩:=trodAll_three hA;obtain⟨rfl,rfl⟩:=trodVars_none hV;clear hA0 hval0;simp only[bU]at hW';obtain⟨n0,rfl⟩:=okWide_int U3 (hval 0 3 v0 rfl rfl);obtain⟨x0,hx0,hr0⟩:=avH (avG (hI:=hI) U3) h0 (λ_=>rfl) rfl;obtain⟨n1,rfl⟩:=okWide_int U25 (hval 1 25 v1 rfl rfl);obtain⟨x1,hx1,hr1⟩:=avH (avG (hI:=hI) U25) h1 (λ_=>rfl) rfl;obtain⟨n2,rfl⟩:=okWide_int U3 (hval 2 3 v2 rfl rfl);obtain⟨x2,hx2,hr2⟩:=avH (avG (hI:=hI) U3) h2 (λ_=>rfl) rfl;have hlt:∀x∈p0++p1++p2,x.block<W.heap.size:=λx hx=>by simpa using hW'.lt x hx
 have hargs:∀{t:TypeId}{v:Value}{d:DataW H}{ps:List MemPlace},DataW.Trod enc prog W 0 (λ_=>true) true t v d ps→(∀x∈ps,x.block<W.heap.size)→prog.readableRec t=true→t<prog.types.size→∀W':World,Below W.heap.size W W'→DataW.Trod enc prog W' 0 (λb=>decide (b<W.heap.size)) true t v d ps:=
  λh hl hr ht W' hn=>Below.trod Tryz.laidOut hr ht h hn hl
 refine(bcF (P:=prog) (f:=8) (λH=>atM x0 (wfi64 hx0) x1 (wf64 hx1) x2 (wfi64 hx2) H) (anS hr0 (anS hr1 (anS hr2 bsI)))).mono λe W' ⟨he,hn⟩=>?_;subst he;exact⟨_,rfl,_,_,_,[],_,[],hW',trodAll_mk1 (shut_bool U4 true),trodAll_mk3 (hargs h0 (λx hx=>hlt x (by simp[hx])) (by kernel_rfl) (of_decide_eq_true (by kernel_rfl)) W' hn) (hargs h1 (λx hx=>hlt x (by simp[hx])) (by kernel_rfl) (of_decide_eq_true (by kernel_rfl)) W' hn) (hargs h2 (λx hx=>hlt x (by simp[hx])) (by kernel_rfl) (of_decide_eq_true (by kernel_rfl)) W' hn),rfl,hn.frame _,λh=>by cases h⟩
theorem bpW:Rows.RenderEntersSaid:=
 OpenClaim.holds_of_wide 8 Tryz.f8 rfl rfl rfl rfl rfl rfl rfl ⟨rfl,rfl,rfl,rfl,rfl⟩ rfl rfl rfl rfl rfl ajI func8 azN
  (of_decide_eq_true (by kernel_rfl)) (by unfold Func.isWrapper;first|(rw[aN aE];kernel_rfl)|(rw[aM aE];exact⟨rfl,rfl⟩))
  (λos started H enc _=>azL os started H enc)
theorem Enters_holds:Rows.RenderEntersCardSaid:=
 Claim7.holds_tied_plain_at .later [] [.data,.data,.data,.data,.sentinel,.sentinel,.data,.data,.pinned] true (true,"2746d48b2fe447adbdb2c015641de02e31eb2287da6537fa34eeb98064423fc9") true
  bpW (λ_ h=>by cases h) (by kernel_rfl) (λ_ h=>by cases h) renderEnters_row_tie rfl ⟨rfl,rfl⟩ bhP rfl
  (λf fn hf hfn=>by
    obtain rfl:f=8:=Option.some.inj (ajI.symm.trans hf) |>.symm
    obtain rfl:fn=Tryz.f8:=(Option.some.inj (func8.symm.trans hfn)).symm;exact⟨bdH,λj t ht=>by
      rw[Tryz.params8]at ht;have h3:t=3∨t=25:=by
        rcases j with _|_|_|j
        ·exact .inl (by simpa using ht.symm)
        ·exact .inr (by simpa using ht.symm)
        ·exact .inl (by simpa using ht.symm)
        simp at ht
      rcases h3 with rfl|rfl
      ·exact(show prog.wantsStandIn 3=false by kernel_rfl)
      exact(show prog.wantsStandIn 25=false by kernel_rfl)⟩)
  bhQ
end Go.Proofs.YteedncdcbgplfaaGreatDoor
