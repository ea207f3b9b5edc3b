import Derived.Test.YteedncdcbgplfaaGreatDoorL2
import Derived.Test.YteedncdcbgplfaaGreatDoorGjPk
namespace Go.Proofs.YteedncdcbgplfaaGreatDoor
open Go.Proofs.Tryz
open Go Go.ChangeShapes Go.WideShapes Go.ChangeAt Go.RowKit
theorem arG(q0:SecN)(q1:SecN)(n2:Int)(hn2:0≤n2∧n2<18446744073709551616)(c3:Int)(hc3: -9223372036854775808≤c3∧c3≤9223372036854775807):Fn 6 [.agg (q0.cs .shared),.agg (q1.cs .shared),.int .u64 n2,.int .i64 c3] (.bool true):=by
 intro H;have h:=biH q0 q1 n2.toNat aA c3 hc3 H
 rwa[show((n2.toNat:Nat):Int)=n2 by omega]at h
set_option maxRecDepth 1000000 in
theorem azA(os:Os)(started:os.Started)(H:Type)(enc:TypeId×Value→H):
  ReturnsInHanded {} Tryz.checked os 6 .any (λw args=>(Rows.renderPartsSpec.pre enc prog Tryz.f6 [] false w args∧laidMetH prog laidL w)∧sizedMet enc prog Tryz.f6 (OpenSpec.ofChange Rows.renderPartsSpec) false w args)
   (Rows.renderPartsSpec.post enc prog Tryz.f6 false true false false):=by
 refine aoB (C:=Tryz.checked) (X:=λw _=>laidMetH prog laidL w) (λ_ _ _ hh h=>h.of_heap hh) Tryz.own started (by kernel_rfl) func6
  (ChangeSpec.witness_at (enc:=enc) (C:=Tryz.checked) (os:=os) (X:=λw _=>laidMetH prog laidL w) false (ahT os) #[.agg #[.slice none 0 0,.bool false,.int .i64 0],.agg #[.slice none 0 0,.bool false,.int .i64 0],.int .u64 0,.int .i64 0] 8 rfl (by kernel_rfl) (by kernel_rfl) (by kernel_rfl) (by kernel_rfl) (by kernel_rfl) (aeE os _)) ?_
 intro W base args ds gs before hsh hval0 hW _ _ hL;have hI:=beW hsh hL;have hval:∀(j:Nat) t v,Tryz.f6.params[j]?=some t→args[j]?=some v→Value.okWide prog W .any base t v:=hval0;have hW':=hW;obtain⟨p,q,hA0,hV,rfl,_,_⟩:=hW;have hA:DataW.TrodAll enc prog W 0 (λ_=>true) true Tryz.f6.params.toList args.toList ds p:=hA0;rw[Tryz.params6]at hA hval;obtain⟨v0,v1,v2,v3,d0,d1,d2,d3,p0,p1,p2,p3,rfl,rfl,rfl,h0,h1,h2,h3⟩:=trodAll_four hA;obtain⟨rfl,rfl⟩:=trodVars_none hV;clear hA0 hval0;simp only[bJ]at hW';obtain⟨cs0,rfl,_⟩:=okWide_struct U52 (hval 0 52 v0 rfl rfl);obtain⟨x0,hx0,hr0⟩:=apH (fl:=λq:SecN=>q.cs .shared) (bkV (hI:=hI)) h0;obtain⟨cs1,rfl,_⟩:=okWide_struct U52 (hval 1 52 v1 rfl rfl);obtain⟨x1,hx1,hr1⟩:=apH (fl:=λq:SecN=>q.cs .shared) (bkV (hI:=hI)) h1;obtain⟨n2,rfl⟩:=okWide_int U25 (hval 2 25 v2 rfl rfl);obtain⟨x2,hx2,hr2⟩:=amS (akA (hI:=hI) U25) h2 (λ_=>rfl) rfl;obtain⟨n3,rfl⟩:=okWide_int U3 (hval 3 3 v3 rfl rfl);obtain⟨x3,hx3,hr3⟩:=amS (akA (hI:=hI) U3) h3 (λ_=>rfl) rfl;have hlt:∀x∈p0++p1++p2++p3,x.block<W.heap.size:=λx hx=>by simpa using hW'.lt x hx
 have hargs:∀{t:TypeId}{v:Value}{d:DataW H}{ps:List MemPlace},DataW.Trod enc prog W 0 (λ_=>true) true t v d ps→(∀x∈ps,x.block<W.heap.size)→prog.readableRec t=true→t<prog.types.size→∀W':World,Below W.heap.size W W'→DataW.Trod enc prog W' 0 (λb=>decide (b<W.heap.size)) true t v d ps:=
  λh hl hr ht W' hn=>Below.trod Tryz.laidOut hr ht h hn hl
 refine(akM (P:=prog) (f:=6) (λH=>arG x0 x1 x2 (wf64 hx2) x3 (wfi64 hx3) H) (acY hr0 (acY hr1 (acY hr2 (acY hr3 auF))))).mono λe W' ⟨he,hn⟩=>?_;subst he;exact⟨_,rfl,_,_,_,[],_,[],hW',trodAll_mk1 (shut_bool U4 true),trodAll_mk4 (hargs h0 (λx hx=>hlt x (by simp[hx])) (by kernel_rfl) (of_decide_eq_true (by kernel_rfl)) W' hn) (hargs h1 (λx hx=>hlt x (by simp[hx])) (by kernel_rfl) (of_decide_eq_true (by kernel_rfl)) W' hn) (hargs h2 (λx hx=>hlt x (by simp[hx])) (by kernel_rfl) (of_decide_eq_true (by kernel_rfl)) W' hn) (hargs h3 (λx hx=>hlt x (by simp[hx])) (by kernel_rfl) (of_decide_eq_true (by kernel_rfl)) W' hn),rfl,hn.frame _,λh=>by cases h⟩
theorem boH:Rows.RenderPartsSaid:=
 OpenClaim.holds_of_wide 6 Tryz.f6 rfl rfl rfl rfl rfl rfl rfl ⟨rfl,rfl,rfl,rfl,rfl⟩ rfl rfl rfl rfl rfl ajU func6 azC
  (of_decide_eq_true (by kernel_rfl)) (by unfold Func.isWrapper;first|(rw[aN aE];kernel_rfl)|(rw[aM aE];exact⟨rfl,rfl⟩))
  (λos started H enc _=>azA os started H enc)
theorem Parts_holds:Rows.RenderPartsCardSaid:=
 Claim7.holds_tied_plain_at .later [] [.data,.data,.data,.data,.sentinel,.sentinel,.data,.data,.pinned] true (true,"2746d48b2fe447adbdb2c015641de02e31eb2287da6537fa34eeb98064423fc9") true
  boH (λ_ h=>by cases h) (by kernel_rfl) (λ_ h=>by cases h) renderParts_row_tie rfl ⟨rfl,rfl⟩ biJ rfl
  (λf fn hf hfn=>by
    obtain rfl:f=6:=Option.some.inj (ajU.symm.trans hf) |>.symm
    obtain rfl:fn=Tryz.f6:=(Option.some.inj (func6.symm.trans hfn)).symm;exact⟨bbY,λj t ht=>by
      rw[Tryz.params6]at ht;have h3:t=52∨t=25∨t=3:=by
        rcases j with _|_|_|_|j
        ·exact .inl (by simpa using ht.symm)
        ·exact .inl (by simpa using ht.symm)
        ·exact .inr (.inl (by simpa using ht.symm))
        ·exact .inr (.inr (by simpa using ht.symm))
        simp at ht
      rcases h3 with rfl|rfl|rfl
      ·exact(show prog.wantsStandIn 52=false by kernel_rfl)
      ·exact(show prog.wantsStandIn 25=false by kernel_rfl)
      exact(show prog.wantsStandIn 3=false by kernel_rfl)⟩)
  biL
end Go.Proofs.YteedncdcbgplfaaGreatDoor
