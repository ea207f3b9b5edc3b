/-
  EvalNeeds, as the card says it: called with any formula as a tree, in whatever memory in which the package variables hold what the program's text lays, it returns true and its arguments read afterwards as before.
-/
import Derived.Test.YthhcdmmihjhipaaGreatDoorCards
import Derived.Test.YthhcdmmihjhipaaGreatDoorTie
import Derived.Test.YthhcdmmihjhipaaGreatDoorG1
import Derived.Test.YthhcdmmihjhipaaGreatDoorH1
import Derived.Test.YthhcdmmihjhipaaGreatDoorV7
import Derived.Test.YthhcdmmihjhipaaGreatDoorGjNk
import Derived.SevenTiedAt
import Derived.Carry
namespace Go.Proofs.YthhcdmmihjhipaaGreatDoor
open Go Go.ChangeShapes Go.WideShapes Go.ChangeAt Go.RowKit

theorem NeedsLaw_calls (e0 : Ex) (he0 : e0.fits) (H : Heap) : ACall Tryz.prog 3 [e0.av] H (fun y H' => y = .bool true ∧ H' = H) := EvalNeeds_step shown_calls e0 he0 H
set_option maxRecDepth 1000000 in
theorem Needs_lifted (os : Os) (started : os.Started) (H : Type) (enc : TypeId × Value → H) :
    ReturnsInHanded {} Tryz.checked os 3 .any (fun w args => (Rows.evalNeedsSpec.pre enc Tryz.prog Tryz.f3 [] false w args ∧ laidMetH Tryz.prog laidL w) ∧ sizedMet enc Tryz.prog Tryz.f3 (OpenSpec.ofChange Rows.evalNeedsSpec) false w args)
      (Rows.evalNeedsSpec.post enc Tryz.prog Tryz.f3 false true false false) := by
  refine lift_and (C := Tryz.checked) (X := fun w _ => laidMetH Tryz.prog laidL w) (fun _ _ _ hh h => h.of_heap hh) Tryz.own started (by kernel_rfl) Tryz.func3
    (ChangeSpec.witness_at (enc := enc) (C := Tryz.checked) (os := os) (X := fun w _ => laidMetH Tryz.prog laidL w) false (laidWorld os) #[.agg #[.int .i64 0, .int .u64 0, .string ⟨#[]⟩, .bool false, .int .i64 0, .int .i64 0, .int .i64 0, .bool false, .bool false, .int .i64 0, .int .i64 0, .bool false, .bool false, .slice none 0 0]] 8 rfl (by kernel_rfl) (by kernel_rfl) (by kernel_rfl) (by kernel_rfl) (by kernel_rfl) (laidWorld_met os _)) ?_
  intro W base args ds gs before hsh hval0 hW _ _ hL
  have hI := Inv_of hsh hL
  have hval : ∀ (j : Nat) t v, Tryz.f3.params[j]? = some t → args[j]? = some v → Value.okWide Tryz.prog W .any base t v := hval0
  have hW' := hW
  obtain ⟨p, q, hA0, hV, rfl, _, _⟩ := hW
  have hA : DataW.TrodAll enc Tryz.prog W 0 (fun _ => true) true Tryz.f3.params.toList args.toList ds p := hA0
  rw [Tryz.params3] at hA hval
  obtain ⟨v0, d0, rfl, rfl, h0⟩ := trodAll_one hA
  obtain ⟨rfl, rfl⟩ := trodVars_none hV
  clear hA0 hval0
  simp only [List.append_nil] at hW'
  obtain ⟨cs0, rfl, _⟩ := okWide_struct Tryz.underlying27 (hval 0 27 v0 rfl rfl)
  obtain ⟨x0, hx0, hr0⟩ := rd_row (rd_ex (hI := hI)) h0 (fun _ => ⟨_, rfl⟩)
  have hlt : ∀ x ∈ p, x.block < W.heap.size := fun x hx => by simpa using hW'.lt x hx
  have hargs : ∀ {t : TypeId} {v : Value} {d : DataW H} {ps : List MemPlace}, DataW.Trod enc Tryz.prog W 0 (fun _ => true) true t v d ps → (∀ x ∈ ps, x.block < W.heap.size) → Tryz.prog.readableRec t = true → t < Tryz.prog.types.size → ∀ W' : World, Below W.heap.size W W' → DataW.Trod enc Tryz.prog W' 0 (fun b => decide (b < W.heap.size)) true t v d ps :=
    fun h hl hr ht W' hn => Below.trod Tryz.laidOut hr ht h hn hl
  refine (law_calls (P := Tryz.prog) (f := 3) (fun H => NeedsLaw_calls x0 hx0 H) (relvs_c hr0 relvs_n)).mono fun e W' ⟨he, hn⟩ => ?_
  subst he
  exact ⟨_, rfl, _, _, _, [], _, [], hW', trodAll_mk1 (shut_bool Tryz.underlying4 true), trodAll_mk1 (hargs h0 (fun x hx => hlt x (by simp [hx])) (by kernel_rfl) (of_decide_eq_true (by kernel_rfl)) W' hn), rfl, hn.frame _, fun h => by cases h⟩
theorem Needs_row : Rows.EvalNeedsSaid :=
  OpenClaim.holds_of_wide 3 Tryz.f3 rfl rfl rfl rfl rfl rfl rfl ⟨rfl, rfl, rfl, rfl, rfl⟩ rfl rfl rfl rfl rfl Needs_named Tryz.func3 Needs_closed
    (of_decide_eq_true (by kernel_rfl)) (by unfold Func.isWrapper; first | (rw [if_pos (by decide +kernel)]; kernel_rfl) | (rw [if_neg (by decide +kernel)]; exact ⟨rfl, rfl⟩))
    (fun os started H enc _ => Needs_lifted os started H enc)
theorem Needs_holds : Rows.EvalNeedsCardSaid :=
  Claim7.holds_tied_plain_at .later [] [.data, .data, .sentinel, .sentinel, .data, .data, .data, .pinned, .data, .data] true (true, "4c7bb278da007780f821faab8259d86923a487d1dd9facaafb1ace535a410064") true
    Needs_row (fun _ h => by cases h) (by kernel_rfl) (fun _ h => by cases h) evalNeeds_row_tie rfl ⟨rfl, rfl⟩ Needs_main rfl
    (fun f fn hf hfn => by
      obtain rfl : f = 3 := Option.some.inj (Needs_named.symm.trans hf) |>.symm
      obtain rfl : fn = Tryz.f3 := (Option.some.inj (Tryz.func3.symm.trans hfn)).symm
      exact ⟨Needs_looks, fun j t ht => by
        rw [Tryz.params3] at ht
        have h3 : t = 27 := by
          rcases j with _ | j
          · exact (by simpa using ht.symm)
          · simp at ht
        rcases h3 with rfl
        exact (show Tryz.prog.wantsStandIn 27 = false by kernel_rfl)⟩)
    Needs_goes
end Go.Proofs.YthhcdmmihjhipaaGreatDoor
