/-
  FuncsChoice, as the card says it: called with any three values, in whatever memory in which the package variables hold what the program's text lays, it returns true and its arguments read afterwards as before.
-/
import Derived.Test.YtifoddpbmlajfaaGreatDoorCards
import Derived.Test.YtifoddpbmlajfaaGreatDoorTie
import Derived.Test.YtifoddpbmlajfaaGreatDoorG1
import Derived.Test.YtifoddpbmlajfaaGreatDoorHok
import Derived.Test.YtifoddpbmlajfaaGreatDoorGjCk
import Derived.SevenTiedAt
import Derived.Carry
namespace Go.Proofs.YtifoddpbmlajfaaGreatDoor
open Go Go.ChangeShapes Go.WideShapes Go.ChangeAt Go.RowKit

theorem ChoiceLaw_calls (v0 : Val) (hv0 : v0.fits) (v1 : Val) (hv1 : v1.fits) (v2 : Val) (hv2 : v2.fits) (H : Heap) : ACall Tryz.prog 3 [v0.av, v1.av, v2.av] H (fun y H' => y = .bool true ∧ H' = H) := Choice_step v0 v1 v2 hv0.1 hv0.2 hv1.1 hv1.2 hv2.1 hv2.2 H
set_option maxRecDepth 1000000 in
theorem Choice_lifted (os : Os) (started : os.Started) (H : Type) (enc : TypeId × Value → H) :
    ReturnsInHanded {} Tryz.checked os 3 .any (fun w args => (Rows.funcsChoiceSpec.pre enc Tryz.prog Tryz.f3 [] false w args ∧ laidMetH Tryz.prog laidL w) ∧ sizedMet enc Tryz.prog Tryz.f3 (OpenSpec.ofChange Rows.funcsChoiceSpec) false w args)
      (Rows.funcsChoiceSpec.post enc Tryz.prog Tryz.f3 false true false false) := by
  refine lift_and (C := Tryz.checked) (X := fun w _ => laidMetH Tryz.prog laidL w) (fun _ _ _ hh h => h.of_heap hh) Tryz.own started (by kernel_rfl) Tryz.func3
    (ChangeSpec.witness_at (enc := enc) (C := Tryz.checked) (os := os) (X := fun w _ => laidMetH Tryz.prog laidL w) false (laidWorld os) #[.agg #[.int .i64 0, .int .u64 0, .bool false, .string ⟨#[]⟩, .int .i64 0], .agg #[.int .i64 0, .int .u64 0, .bool false, .string ⟨#[]⟩, .int .i64 0], .agg #[.int .i64 0, .int .u64 0, .bool false, .string ⟨#[]⟩, .int .i64 0]] 8 rfl (by kernel_rfl) (by kernel_rfl) (by kernel_rfl) (by kernel_rfl) (by kernel_rfl) (laidWorld_met os _)) ?_
  intro W base args ds gs before hsh hval0 hW _ _ hL
  have hI := Inv_of hsh hL
  have hval : ∀ (j : Nat) t v, Tryz.f3.params[j]? = some t → args[j]? = some v → Value.okWide Tryz.prog W .any base t v := hval0
  have hW' := hW
  obtain ⟨p, q, hA0, hV, rfl, _, _⟩ := hW
  have hA : DataW.TrodAll enc Tryz.prog W 0 (fun _ => true) true Tryz.f3.params.toList args.toList ds p := hA0
  rw [Tryz.params3] at hA hval
  obtain ⟨v0, v1, v2, d0, d1, d2, p0, p1, p2, rfl, rfl, rfl, h0, h1, h2⟩ := trodAll_three hA
  obtain ⟨rfl, rfl⟩ := trodVars_none hV
  clear hA0 hval0
  simp only [List.append_nil] at hW'
  obtain ⟨cs0, rfl, _⟩ := okWide_struct Tryz.underlying24 (hval 0 24 v0 rfl rfl)
  obtain ⟨x0, hx0, hr0⟩ := rd_row (rd_val (hI := hI)) h0 (fun _ => ⟨_, rfl⟩)
  obtain ⟨cs1, rfl, _⟩ := okWide_struct Tryz.underlying24 (hval 1 24 v1 rfl rfl)
  obtain ⟨x1, hx1, hr1⟩ := rd_row (rd_val (hI := hI)) h1 (fun _ => ⟨_, rfl⟩)
  obtain ⟨cs2, rfl, _⟩ := okWide_struct Tryz.underlying24 (hval 2 24 v2 rfl rfl)
  obtain ⟨x2, hx2, hr2⟩ := rd_row (rd_val (hI := hI)) h2 (fun _ => ⟨_, rfl⟩)
  have hlt : ∀ x ∈ p0 ++ p1 ++ p2, x.block < W.heap.size := fun x hx => by simpa using hW'.lt x hx
  have hargs : ∀ {t : TypeId} {v : Value} {d : DataW H} {ps : List MemPlace}, DataW.Trod enc Tryz.prog W 0 (fun _ => true) true t v d ps → (∀ x ∈ ps, x.block < W.heap.size) → Tryz.prog.readableRec t = true → t < Tryz.prog.types.size → ∀ W' : World, Below W.heap.size W W' → DataW.Trod enc Tryz.prog W' 0 (fun b => decide (b < W.heap.size)) true t v d ps :=
    fun h hl hr ht W' hn => Below.trod Tryz.laidOut hr ht h hn hl
  refine (law_calls (P := Tryz.prog) (f := 3) (fun H => ChoiceLaw_calls x0 hx0 x1 hx1 x2 hx2 H) (relvs_c hr0 (relvs_c hr1 (relvs_c hr2 relvs_n)))).mono fun e W' ⟨he, hn⟩ => ?_
  subst he
  exact ⟨_, rfl, _, _, _, [], _, [], hW', trodAll_mk1 (shut_bool Tryz.underlying4 true), trodAll_mk3 (hargs h0 (fun x hx => hlt x (by simp [hx])) (by kernel_rfl) (of_decide_eq_true (by kernel_rfl)) W' hn) (hargs h1 (fun x hx => hlt x (by simp [hx])) (by kernel_rfl) (of_decide_eq_true (by kernel_rfl)) W' hn) (hargs h2 (fun x hx => hlt x (by simp [hx])) (by kernel_rfl) (of_decide_eq_true (by kernel_rfl)) W' hn), rfl, hn.frame _, fun h => by cases h⟩
theorem Choice_row : Rows.FuncsChoiceSaid :=
  OpenClaim.holds_of_wide 3 Tryz.f3 rfl rfl rfl rfl rfl rfl rfl ⟨rfl, rfl, rfl, rfl, rfl⟩ rfl rfl rfl rfl rfl Choice_named Tryz.func3 Choice_closed
    (of_decide_eq_true (by kernel_rfl)) (by unfold Func.isWrapper; first | (rw [if_pos (by decide +kernel)]; kernel_rfl) | (rw [if_neg (by decide +kernel)]; exact ⟨rfl, rfl⟩))
    (fun os started H enc _ => Choice_lifted os started H enc)
theorem Choice_holds : Rows.FuncsChoiceCardSaid :=
  Claim7.holds_tied_plain_at .later [] [.data, .data, .data, .data, .sentinel, .sentinel, .data, .data, .data, .pinned] true (true, "2e439e6d42ee5c2567b933df5c8e958ca161026b9b8deee592f5b80075035014") true
    Choice_row (fun _ h => by cases h) (by kernel_rfl) (fun _ h => by cases h) funcsChoice_row_tie rfl ⟨rfl, rfl⟩ Choice_main rfl
    (fun f fn hf hfn => by
      obtain rfl : f = 3 := Option.some.inj (Choice_named.symm.trans hf) |>.symm
      obtain rfl : fn = Tryz.f3 := (Option.some.inj (Tryz.func3.symm.trans hfn)).symm
      exact ⟨Choice_looks, fun j t ht => by
        rw [Tryz.params3] at ht
        have h3 : t = 24 := by
          rcases j with _ | _ | _ | j
          · exact (by simpa using ht.symm)
          · exact (by simpa using ht.symm)
          · exact (by simpa using ht.symm)
          · simp at ht
        rcases h3 with rfl
        exact (show Tryz.prog.wantsStandIn 24 = false by kernel_rfl)⟩)
    Choice_goes
end Go.Proofs.YtifoddpbmlajfaaGreatDoor
