import Derived.Test.YteedncdcbgplfaaGreatDoorL2
import Derived.Test.YteedncdcbgplfaaGreatDoorGjSk
namespace Go.Proofs.YteedncdcbgplfaaGreatDoor
open Go.Proofs.Tryz
open Go Go.ChangeShapes Go.WideShapes Go.ChangeAt Go.RowKit
theorem arF(p0:List SecN)(n1:Int)(hn1:0≤n1∧n1<18446744073709551616)(c2:Int)(hc2: -9223372036854775808≤c2∧c2≤9223372036854775807):Fn 5 [.agg [adV p0 .shared],.int .u64 n1,.int .i64 c2] (.bool true):=by
 intro H;have h:=biD p0 .shared n1.toNat aA c2 hc2 H
 rwa[show((n1.toNat:Nat):Int)=n1 by omega]at h
set_option maxRecDepth 1000000 in
theorem ayU(os:Os)(started:os.Started)(H:Type)(enc:TypeId×Value→H):
  ReturnsInHanded {} Tryz.checked os 5 .any (λw args=>(Rows.renderSignsSpec.pre enc prog Tryz.f5 [] false w args∧laidMetH prog laidL w)∧sizedMet enc prog Tryz.f5 (OpenSpec.ofChange Rows.renderSignsSpec) false w args)
   (Rows.renderSignsSpec.post enc prog Tryz.f5 false true false false):=by
 refine aoB (C:=Tryz.checked) (X:=λw _=>laidMetH prog laidL w) (λ_ _ _ hh h=>h.of_heap hh) Tryz.own started (by kernel_rfl) func5
  (ChangeSpec.witness_at (enc:=enc) (C:=Tryz.checked) (os:=os) (X:=λw _=>laidMetH prog laidL w) false (ahT os) #[.agg #[.slice none 0 0],.int .u64 0,.int .i64 0] 8 rfl (by kernel_rfl) (by kernel_rfl) (by kernel_rfl) (by kernel_rfl) (by kernel_rfl) (aeE os _)) ?_
 intro W base args ds gs before hsh hval0 hW _ _ hL;have hI:=beW hsh hL;have hval:∀(j:Nat) t v,Tryz.f5.params[j]?=some t→args[j]?=some v→Value.okWide prog W .any base t v:=hval0;have hW':=hW;obtain⟨p,q,hA0,hV,rfl,_,_⟩:=hW;have hA:DataW.TrodAll enc prog W 0 (λ_=>true) true Tryz.f5.params.toList args.toList ds p:=hA0;rw[Tryz.params5]at hA hval;obtain⟨v0,v1,v2,d0,d1,d2,p0,p1,p2,rfl,rfl,rfl,h0,h1,h2⟩:=trodAll_three hA;obtain⟨rfl,rfl⟩:=trodVars_none hV;clear hA0 hval0;simp only[bJ]at hW';obtain⟨cs0,rfl,_⟩:=okWide_struct U24 (hval 0 24 v0 rfl rfl);obtain⟨x0,hx0,hr0⟩:=apH (fl:=λp=>[adV p .shared]) (bkW (hI:=hI)) h0;obtain⟨n1,rfl⟩:=okWide_int U25 (hval 1 25 v1 rfl rfl);obtain⟨x1,hx1,hr1⟩:=amS (akA (hI:=hI) U25) h1 (λ_=>rfl) rfl;obtain⟨n2,rfl⟩:=okWide_int U3 (hval 2 3 v2 rfl rfl);obtain⟨x2,hx2,hr2⟩:=amS (akA (hI:=hI) U3) h2 (λ_=>rfl) rfl;have hlt:∀x∈p0++p1++p2,x.block<W.heap.size:=λx hx=>by simpa using hW'.lt x hx
 have hargs:∀{t:TypeId}{v:Value}{d:DataW H}{ps:List MemPlace},DataW.Trod enc prog W 0 (λ_=>true) true t v d ps→(∀x∈ps,x.block<W.heap.size)→prog.readableRec t=true→t<prog.types.size→∀W':World,Below W.heap.size W W'→DataW.Trod enc prog W' 0 (λb=>decide (b<W.heap.size)) true t v d ps:=
  λh hl hr ht W' hn=>Below.trod Tryz.laidOut hr ht h hn hl
 refine(akM (P:=prog) (f:=5) (λH=>arF x0 x1 (wf64 hx1) x2 (wfi64 hx2) H) (acY hr0 (acY hr1 (acY hr2 auF)))).mono λe W' ⟨he,hn⟩=>?_;subst he;exact⟨_,rfl,_,_,_,[],_,[],hW',trodAll_mk1 (shut_bool U4 true),trodAll_mk3 (hargs h0 (λx hx=>hlt x (by simp[hx])) (by kernel_rfl) (of_decide_eq_true (by kernel_rfl)) W' hn) (hargs h1 (λx hx=>hlt x (by simp[hx])) (by kernel_rfl) (of_decide_eq_true (by kernel_rfl)) W' hn) (hargs h2 (λx hx=>hlt x (by simp[hx])) (by kernel_rfl) (of_decide_eq_true (by kernel_rfl)) W' hn),rfl,hn.frame _,λh=>by cases h⟩
theorem boC:Rows.RenderSignsSaid:=
 OpenClaim.holds_of_wide 5 Tryz.f5 rfl rfl rfl rfl rfl rfl rfl ⟨rfl,rfl,rfl,rfl,rfl⟩ rfl rfl rfl rfl rfl ajS func5 ayW
  (of_decide_eq_true (by kernel_rfl)) (by unfold Func.isWrapper;first|(rw[aN aE];kernel_rfl)|(rw[aM aE];exact⟨rfl,rfl⟩))
  (λos started H enc _=>ayU os started H enc)
theorem Signs_holds:Rows.RenderSignsCardSaid:=
 Claim7.holds_tied_plain_at .later [] [.data,.data,.data,.data,.sentinel,.sentinel,.data,.data,.pinned] true (true,"2746d48b2fe447adbdb2c015641de02e31eb2287da6537fa34eeb98064423fc9") true
  boC (λ_ h=>by cases h) (by kernel_rfl) (λ_ h=>by cases h) renderSigns_row_tie rfl ⟨rfl,rfl⟩ biF rfl
  (λf fn hf hfn=>by
    obtain rfl:f=5:=Option.some.inj (ajS.symm.trans hf) |>.symm
    obtain rfl:fn=Tryz.f5:=(Option.some.inj (func5.symm.trans hfn)).symm;exact⟨bbW,λj t ht=>by
      rw[Tryz.params5]at ht;have h3:t=24∨t=25∨t=3:=by
        rcases j with _|_|_|j
        ·exact .inl (by simpa using ht.symm)
        ·exact .inr (.inl (by simpa using ht.symm))
        ·exact .inr (.inr (by simpa using ht.symm))
        simp at ht
      rcases h3 with rfl|rfl|rfl
      ·exact(show prog.wantsStandIn 24=false by kernel_rfl)
      ·exact(show prog.wantsStandIn 25=false by kernel_rfl)
      exact(show prog.wantsStandIn 3=false by kernel_rfl)⟩)
  biG
end Go.Proofs.YteedncdcbgplfaaGreatDoor
