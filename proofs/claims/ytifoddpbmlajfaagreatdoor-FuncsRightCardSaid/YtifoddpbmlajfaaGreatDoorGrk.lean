/-
  FuncsRight, as the card says it: called with any arguments, in whatever memory in which the package variables hold what the program's text lays, it returns true and its arguments read afterwards as before.
-/
import Derived.Test.YtifoddpbmlajfaaGreatDoorCards
import Derived.Test.YtifoddpbmlajfaaGreatDoorTie
import Derived.Test.YtifoddpbmlajfaaGreatDoorG1
import Derived.Test.YtifoddpbmlajfaaGreatDoorHbk
import Derived.Test.YtifoddpbmlajfaaGreatDoorGjRk
import Derived.SevenTiedAt
import Derived.Carry
namespace Go.Proofs.YtifoddpbmlajfaaGreatDoor
open Go Go.ChangeShapes Go.WideShapes Go.ChangeAt Go.RowKit

theorem RightLaw_calls (l0 : List ArgN) (hl0 : l0.length ≤ maxLen ∧ ∀ a, a ∈ l0 → a.fits) (H : Heap) : ACall Tryz.prog 4 [argsS l0 .shared] H (fun y H' => y = .bool true ∧ H' = H) := Right_step l0 .shared hl0.2 H
set_option maxRecDepth 1000000 in
theorem Right_lifted (os : Os) (started : os.Started) (H : Type) (enc : TypeId × Value → H) :
    ReturnsInHanded {} Tryz.checked os 4 .any (fun w args => (Rows.funcsRightSpec.pre enc Tryz.prog Tryz.f4 [] false w args ∧ laidMetH Tryz.prog laidL w) ∧ sizedMet enc Tryz.prog Tryz.f4 (OpenSpec.ofChange Rows.funcsRightSpec) false w args)
      (Rows.funcsRightSpec.post enc Tryz.prog Tryz.f4 false true false false) := by
  refine lift_and (C := Tryz.checked) (X := fun w _ => laidMetH Tryz.prog laidL w) (fun _ _ _ hh h => h.of_heap hh) Tryz.own started (by kernel_rfl) Tryz.func4
    (ChangeSpec.witness_at (enc := enc) (C := Tryz.checked) (os := os) (X := fun w _ => laidMetH Tryz.prog laidL w) false (laidWorld os) #[.slice none 0 0] 8 rfl (by kernel_rfl) (by kernel_rfl) (by kernel_rfl) (by kernel_rfl) (by kernel_rfl) (laidWorld_met os _)) ?_
  intro W base args ds gs before hsh hval0 hW _ _ hL
  have hI := Inv_of hsh hL
  have hval : ∀ (j : Nat) t v, Tryz.f4.params[j]? = some t → args[j]? = some v → Value.okWide Tryz.prog W .any base t v := hval0
  have hW' := hW
  obtain ⟨p, q, hA0, hV, rfl, _, _⟩ := hW
  have hA : DataW.TrodAll enc Tryz.prog W 0 (fun _ => true) true Tryz.f4.params.toList args.toList ds p := hA0
  rw [Tryz.params4] at hA hval
  obtain ⟨v0, d0, rfl, rfl, h0⟩ := trodAll_one hA
  obtain ⟨rfl, rfl⟩ := trodVars_none hV
  clear hA0 hval0
  simp only [List.append_nil] at hW'
  obtain ⟨a0, len0, cap0, rfl⟩ := okWide_slice Tryz.underlying40 (hval 0 40 v0 rfl rfl)
  obtain ⟨x0, hx0, hr0⟩ := rd_arg (rd_args (hI := hI)) h0 (fun _ => rfl) rfl
  have hlt : ∀ x ∈ p, x.block < W.heap.size := fun x hx => by simpa using hW'.lt x hx
  have hargs : ∀ {t : TypeId} {v : Value} {d : DataW H} {ps : List MemPlace}, DataW.Trod enc Tryz.prog W 0 (fun _ => true) true t v d ps → (∀ x ∈ ps, x.block < W.heap.size) → Tryz.prog.readableRec t = true → t < Tryz.prog.types.size → ∀ W' : World, Below W.heap.size W W' → DataW.Trod enc Tryz.prog W' 0 (fun b => decide (b < W.heap.size)) true t v d ps :=
    fun h hl hr ht W' hn => Below.trod Tryz.laidOut hr ht h hn hl
  refine (law_calls (P := Tryz.prog) (f := 4) (fun H => RightLaw_calls x0 hx0 H) (relvs_c hr0 relvs_n)).mono fun e W' ⟨he, hn⟩ => ?_
  subst he
  exact ⟨_, rfl, _, _, _, [], _, [], hW', trodAll_mk1 (shut_bool Tryz.underlying4 true), trodAll_mk1 (hargs h0 (fun x hx => hlt x (by simp [hx])) (by kernel_rfl) (of_decide_eq_true (by kernel_rfl)) W' hn), rfl, hn.frame _, fun h => by cases h⟩
theorem Right_row : Rows.FuncsRightSaid :=
  OpenClaim.holds_of_wide 4 Tryz.f4 rfl rfl rfl rfl rfl rfl rfl ⟨rfl, rfl, rfl, rfl, rfl⟩ rfl rfl rfl rfl rfl Right_named Tryz.func4 Right_closed
    (of_decide_eq_true (by kernel_rfl)) (by unfold Func.isWrapper; first | (rw [if_pos (by decide +kernel)]; kernel_rfl) | (rw [if_neg (by decide +kernel)]; exact ⟨rfl, rfl⟩))
    (fun os started H enc _ => Right_lifted os started H enc)
theorem Right_holds : Rows.FuncsRightCardSaid :=
  Claim7.holds_tied_plain_at .later [] [.data, .data, .data, .data, .sentinel, .sentinel, .data, .data, .data, .pinned] true (true, "2e439e6d42ee5c2567b933df5c8e958ca161026b9b8deee592f5b80075035014") true
    Right_row (fun _ h => by cases h) (by kernel_rfl) (fun _ h => by cases h) funcsRight_row_tie rfl ⟨rfl, rfl⟩ Right_main rfl
    (fun f fn hf hfn => by
      obtain rfl : f = 4 := Option.some.inj (Right_named.symm.trans hf) |>.symm
      obtain rfl : fn = Tryz.f4 := (Option.some.inj (Tryz.func4.symm.trans hfn)).symm
      exact ⟨Right_looks, fun j t ht => by
        rw [Tryz.params4] at ht
        have h3 : t = 40 := by
          rcases j with _ | j
          · exact (by simpa using ht.symm)
          · simp at ht
        rcases h3 with rfl
        exact (show Tryz.prog.wantsStandIn 40 = false by kernel_rfl)⟩)
    Right_goes
end Go.Proofs.YtifoddpbmlajfaaGreatDoor
