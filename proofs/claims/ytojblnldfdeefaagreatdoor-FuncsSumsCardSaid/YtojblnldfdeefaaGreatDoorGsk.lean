/-
  FuncsSums, as the card says it: called with any number of a function, any bits and any number, in whatever memory in which the package variables hold what the program's text lays, it returns true and its arguments read afterwards as before.
-/
import Derived.Test.YtojblnldfdeefaaGreatDoorG7k
import Derived.Test.YtojblnldfdeefaaGreatDoorGjSk
import Derived.Carry
namespace Go.Proofs.YtojblnldfdeefaaGreatDoor
open Go Go.ChangeShapes Go.WideShapes Go.ChangeAt Go.RowKit
theorem SumsLaw_calls(c0:Int)(hc0: -9223372036854775808≤c0∧c0≤9223372036854775807)(u1:List Int)(hu1:∀n,n∈u1→0≤n∧n<18446744073709551616)(hw1:u1.length≤maxLen)(c2:Int)(hc2: -9223372036854775808≤c2∧c2≤9223372036854775807)(H:Heap):ACall Tryz.prog 3 [.int .i64 c0,.slice 1 (u1.map (AV.int .u64)) .shared,.int .i64 c2] H (λy H'=>y= .bool true∧H'=H):=by
  rw[u_map hu1];exact Sums_step c0 c2 hc0 hc2 (u1.map Int.toNat) .shared (λx hx=>by obtain⟨n,hn,rfl⟩:=List.mem_map.1 hx;have:=hu1 n hn;omega) (by rw[List.length_map];exact hw1) H
set_option maxRecDepth 1000000 in
theorem Sums_lifted(os:Os)(started:os.Started)(H:Type)(enc:TypeId×Value→H):
    ReturnsInHanded {} Tryz.checked os 3 .any (λw args=>(Rows.funcsSumsSpec.pre enc Tryz.prog Tryz.f3 [] false w args∧laidMetH Tryz.prog laidL w)∧sizedMet enc Tryz.prog Tryz.f3 (OpenSpec.ofChange Rows.funcsSumsSpec) false w args)
      (Rows.funcsSumsSpec.post enc Tryz.prog Tryz.f3 false true false false):=by
  refine lift_and (C:=Tryz.checked) (X:=λw _=>laidMetH Tryz.prog laidL w) (λ_ _ _ hh h=>h.of_heap hh) Tryz.own started (by kernel_rfl) Tryz.func3
    (ChangeSpec.witness_at (enc:=enc) (C:=Tryz.checked) (os:=os) (X:=λw _=>laidMetH Tryz.prog laidL w) false (laidWorld os) #[.int .i64 0,.slice none 0 0,.int .i64 0] 8 rfl (by kernel_rfl) (by kernel_rfl) (by kernel_rfl) (by kernel_rfl) (by kernel_rfl) (laidWorld_met os _)) ?_
  intro W base args ds gs before hsh hval0 hW _ _ hL;have hI:=Inv_of hsh hL;have hval:∀(j:Nat) t v,Tryz.f3.params[j]?=some t→args[j]?=some v→Value.okWide Tryz.prog W .any base t v:=hval0;have hW':=hW;obtain⟨p,q,hA0,hV,rfl,_,_⟩:=hW;have hA:DataW.TrodAll enc Tryz.prog W 0 (λ_=>true) true Tryz.f3.params.toList args.toList ds p:=hA0;rw[Tryz.params3]at hA hval;obtain⟨v0,v1,v2,d0,d1,d2,p0,p1,p2,rfl,rfl,rfl,h0,h1,h2⟩:=trodAll_three hA;obtain⟨rfl,rfl⟩:=trodVars_none hV;clear hA0 hval0;simp only[List.append_nil]at hW';obtain⟨n0,rfl⟩:=okWide_int Tryz.underlying3 (hval 0 3 v0 rfl rfl);obtain⟨x0,hx0,hr0⟩:=rd_arg (rd_int (hI:=hI) Tryz.underlying3) h0 (λ_=>rfl) rfl;obtain⟨a1,len1,cap1,rfl⟩:=okWide_slice Tryz.underlying22 (hval 1 22 v1 rfl rfl);obtain⟨x1,hx1,hr1⟩:=rd_arg (rd_u64s (hI:=hI)) h1 (λ_=>rfl) rfl;obtain⟨n2,rfl⟩:=okWide_int Tryz.underlying3 (hval 2 3 v2 rfl rfl);obtain⟨x2,hx2,hr2⟩:=rd_arg (rd_int (hI:=hI) Tryz.underlying3) h2 (λ_=>rfl) rfl;have hlt:∀x∈p0++p1++p2,x.block<W.heap.size:=λx hx=>by simpa using hW'.lt x hx
  have hargs:∀{t:TypeId}{v:Value}{d:DataW H}{ps:List MemPlace},DataW.Trod enc Tryz.prog W 0 (λ_=>true) true t v d ps→(∀x∈ps,x.block<W.heap.size)→Tryz.prog.readableRec t=true→t<Tryz.prog.types.size→∀W':World,Below W.heap.size W W'→DataW.Trod enc Tryz.prog W' 0 (λb=>decide (b<W.heap.size)) true t v d ps:=
    λh hl hr ht W' hn=>Below.trod Tryz.laidOut hr ht h hn hl
  refine(law_calls (P:=Tryz.prog) (f:=3) (λH=>SumsLaw_calls x0 (wfi64 hx0) x1 (λn hn=>wf64 (hx1.2 n hn)) hx1.1 x2 (wfi64 hx2) H) (relvs_c hr0 (relvs_c hr1 (relvs_c hr2 relvs_n)))).mono λe W' ⟨he,hn⟩=>?_;subst he;exact⟨_,rfl,_,_,_,[],_,[],hW',trodAll_mk1 (shut_bool Tryz.underlying4 true),trodAll_mk3 (hargs h0 (λx hx=>hlt x (by simp[hx])) (by kernel_rfl) (of_decide_eq_true (by kernel_rfl)) W' hn) (hargs h1 (λx hx=>hlt x (by simp[hx])) (by kernel_rfl) (of_decide_eq_true (by kernel_rfl)) W' hn) (hargs h2 (λx hx=>hlt x (by simp[hx])) (by kernel_rfl) (of_decide_eq_true (by kernel_rfl)) W' hn),rfl,hn.frame _,λh=>by cases h⟩
theorem Sums_row:Rows.FuncsSumsSaid:=
  OpenClaim.holds_of_wide 3 Tryz.f3 rfl rfl rfl rfl rfl rfl rfl ⟨rfl,rfl,rfl,rfl,rfl⟩ rfl rfl rfl rfl rfl Sums_named Tryz.func3 Sums_closed
    (of_decide_eq_true (by kernel_rfl)) (by unfold Func.isWrapper;first|(rw[if_pos (by decide+kernel)];kernel_rfl)|(rw[if_neg (by decide+kernel)];exact⟨rfl,rfl⟩))
    (λos started H enc _=>Sums_lifted os started H enc)
theorem Sums_holds:Rows.FuncsSumsCardSaid:=
  Claim7.holds_tied_plain_at .later [] [.data,.data,.data,.data,.sentinel,.sentinel,.data,.data,.data,.pinned] true (true,"9c200012d03465ca04c5d429f1d7adde44c53840c41b55793e4b2605a0e2dd46") true
    Sums_row (λ_ h=>by cases h) (by kernel_rfl) (λ_ h=>by cases h) funcsSums_row_tie rfl ⟨rfl,rfl⟩ Sums_main rfl
    (λf fn hf hfn=>by
      obtain rfl:f=3:=Option.some.inj (Sums_named.symm.trans hf) |>.symm
      obtain rfl:fn=Tryz.f3:=(Option.some.inj (Tryz.func3.symm.trans hfn)).symm;exact⟨Sums_looks,λj t ht=>by
        rw[Tryz.params3]at ht;have h3:t=3∨t=22:=by
          rcases j with _|_|_|j
          · exact .inl (by simpa using ht.symm)
          · exact .inr (by simpa using ht.symm)
          · exact .inl (by simpa using ht.symm)
          simp at ht
        rcases h3 with rfl|rfl
        · exact(show Tryz.prog.wantsStandIn 3=false by kernel_rfl)
        exact(show Tryz.prog.wantsStandIn 22=false by kernel_rfl)⟩)
    Sums_goes
end Go.Proofs.YtojblnldfdeefaaGreatDoor
