import Derived.Test.YteedncdcbgplfaaGreatDoorKlk
import Derived.Test.YteedncdcbgplfaaGreatDoorGjTk
namespace Go.Proofs.YteedncdcbgplfaaGreatDoor
open Go.Proofs.Tryz
open Go Go.ChangeShapes Go.WideShapes Go.ChangeAt Go.RowKit
theorem arE(p0:List SecN)(s1:List UInt8)(c2:Int)(hc2: -9223372036854775808≤c2∧c2≤9223372036854775807):Fn 4 [.agg [adV p0 .shared],.str s1,.int .i64 c2] (.bool true):=λH=>bhZ p0 .shared s1 c2 hc2 H
set_option maxRecDepth 1000000 in
theorem ayR(os:Os)(started:os.Started)(H:Type)(enc:TypeId×Value→H):
  ReturnsInHanded {} Tryz.checked os 4 .any (λw args=>(Rows.renderTextsSpec.pre enc prog Tryz.f4 [] false w args∧laidMetH prog laidL w)∧sizedMet enc prog Tryz.f4 (OpenSpec.ofChange Rows.renderTextsSpec) false w args)
   (Rows.renderTextsSpec.post enc prog Tryz.f4 false true false false):=by
 refine aoB (C:=Tryz.checked) (X:=λw _=>laidMetH prog laidL w) (λ_ _ _ hh h=>h.of_heap hh) Tryz.own started (by kernel_rfl) func4
  (ChangeSpec.witness_at (enc:=enc) (C:=Tryz.checked) (os:=os) (X:=λw _=>laidMetH prog laidL w) false (ahT os) #[.agg #[.slice none 0 0],.string ⟨#[]⟩,.int .i64 0] 8 rfl (by kernel_rfl) (by kernel_rfl) (by kernel_rfl) (by kernel_rfl) (by kernel_rfl) (aeE os _)) ?_
 intro W base args ds gs before hsh hval0 hW _ _ hL;have hI:=beW hsh hL;have hval:∀(j:Nat) t v,Tryz.f4.params[j]?=some t→args[j]?=some v→Value.okWide prog W .any base t v:=hval0;have hW':=hW;obtain⟨p,q,hA0,hV,rfl,_,_⟩:=hW;have hA:DataW.TrodAll enc prog W 0 (λ_=>true) true Tryz.f4.params.toList args.toList ds p:=hA0;rw[Tryz.params4]at hA hval;obtain⟨v0,v1,v2,d0,d1,d2,p0,p1,p2,rfl,rfl,rfl,h0,h1,h2⟩:=trodAll_three hA;obtain⟨rfl,rfl⟩:=trodVars_none hV;clear hA0 hval0;simp only[bJ]at hW';obtain⟨cs0,rfl,_⟩:=okWide_struct U24 (hval 0 24 v0 rfl rfl);obtain⟨x0,hx0,hr0⟩:=apH (fl:=λp=>[adV p .shared]) (bkW (hI:=hI)) h0;obtain⟨s1,rfl⟩:=okWide_string U9 (hval 1 9 v1 rfl rfl);obtain⟨x1,hx1,hr1⟩:=amS (axD (hI:=hI) U9) h1 (λ_=>rfl) rfl;obtain⟨n2,rfl⟩:=okWide_int U3 (hval 2 3 v2 rfl rfl);obtain⟨x2,hx2,hr2⟩:=amS (akA (hI:=hI) U3) h2 (λ_=>rfl) rfl;have hlt:∀x∈p0++p1++p2,x.block<W.heap.size:=λx hx=>by simpa using hW'.lt x hx
 have hargs:∀{t:TypeId}{v:Value}{d:DataW H}{ps:List MemPlace},DataW.Trod enc prog W 0 (λ_=>true) true t v d ps→(∀x∈ps,x.block<W.heap.size)→prog.readableRec t=true→t<prog.types.size→∀W':World,Below W.heap.size W W'→DataW.Trod enc prog W' 0 (λb=>decide (b<W.heap.size)) true t v d ps:=
  λh hl hr ht W' hn=>Below.trod Tryz.laidOut hr ht h hn hl
 refine(akM (P:=prog) (f:=4) (λH=>arE x0 x1 x2 (wfi64 hx2) H) (acY hr0 (acY hr1 (acY hr2 auF)))).mono λe W' ⟨he,hn⟩=>?_;subst he;exact⟨_,rfl,_,_,_,[],_,[],hW',trodAll_mk1 (shut_bool U4 true),trodAll_mk3 (hargs h0 (λx hx=>hlt x (by simp[hx])) (by kernel_rfl) (of_decide_eq_true (by kernel_rfl)) W' hn) (hargs h1 (λx hx=>hlt x (by simp[hx])) (by kernel_rfl) (of_decide_eq_true (by kernel_rfl)) W' hn) (hargs h2 (λx hx=>hlt x (by simp[hx])) (by kernel_rfl) (of_decide_eq_true (by kernel_rfl)) W' hn),rfl,hn.frame _,λh=>by cases h⟩
theorem boB:Rows.RenderTextsSaid:=
 OpenClaim.holds_of_wide 4 Tryz.f4 rfl rfl rfl rfl rfl rfl rfl ⟨rfl,rfl,rfl,rfl,rfl⟩ rfl rfl rfl rfl rfl ajR func4 ayT
  (of_decide_eq_true (by kernel_rfl)) (by unfold Func.isWrapper;first|(rw[aN aE];kernel_rfl)|(rw[aM aE];exact⟨rfl,rfl⟩))
  (λos started H enc _=>ayR os started H enc)
theorem Texts_holds:Rows.RenderTextsCardSaid:=
 Claim7.holds_tied_plain_at .later [] [.data,.data,.data,.data,.sentinel,.sentinel,.data,.data,.pinned] true (true,"2746d48b2fe447adbdb2c015641de02e31eb2287da6537fa34eeb98064423fc9") true
  boB (λ_ h=>by cases h) (by kernel_rfl) (λ_ h=>by cases h) renderTexts_row_tie rfl ⟨rfl,rfl⟩ biB rfl
  (λf fn hf hfn=>by
    obtain rfl:f=4:=Option.some.inj (ajR.symm.trans hf) |>.symm
    obtain rfl:fn=Tryz.f4:=(Option.some.inj (func4.symm.trans hfn)).symm;exact⟨bbU,λj t ht=>by
      rw[Tryz.params4]at ht;have h3:t=24∨t=9∨t=3:=by
        rcases j with _|_|_|j
        ·exact .inl (by simpa using ht.symm)
        ·exact .inr (.inl (by simpa using ht.symm))
        ·exact .inr (.inr (by simpa using ht.symm))
        simp at ht
      rcases h3 with rfl|rfl|rfl
      ·exact(show prog.wantsStandIn 24=false by kernel_rfl)
      ·exact(show prog.wantsStandIn 9=false by kernel_rfl)
      exact(show prog.wantsStandIn 3=false by kernel_rfl)⟩)
  biC
end Go.Proofs.YteedncdcbgplfaaGreatDoor
