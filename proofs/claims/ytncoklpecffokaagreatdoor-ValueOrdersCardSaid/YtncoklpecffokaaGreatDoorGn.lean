/-
  ValueOrders, as the card says it: called with any three values, in whatever memory in which the package variables hold what the program's text lays, it returns true and its arguments read afterwards as before.
-/
import Derived.Test.YtncoklpecffokaaGreatDoorCards
import Derived.Test.YtncoklpecffokaaGreatDoorTie
import Derived.Test.YtncoklpecffokaaGreatDoorGl
import Derived.Test.YtncoklpecffokaaGreatDoorVx
import Derived.SevenTiedAt
namespace Go.Proofs.YtncoklpecffokaaGreatDoor
open Go Go.ChangeShapes Go.WideShapes Go.ChangeAt Go.RowKit

set_option maxRecDepth 1000000 in
theorem Orders_lifted (os : Os) (started : os.Started) (H : Type) (enc : TypeId × Value → H) :
    ReturnsInHanded {} Tryz.checked os 4 .any (fun w args => (Rows.valueOrdersSpec.pre enc Tryz.prog Tryz.f4 [] false w args ∧ laidMetH Tryz.prog laidL w) ∧ sizedMet enc Tryz.prog Tryz.f4 (OpenSpec.ofChange Rows.valueOrdersSpec) false w args)
      (Rows.valueOrdersSpec.post enc Tryz.prog Tryz.f4 false true false false) := by
  refine lift_and (C := Tryz.checked) (X := fun w _ => laidMetH Tryz.prog laidL w) (fun _ _ _ hh h => h.of_heap hh) Tryz.own started (by kernel_rfl) Tryz.func4
    (ChangeSpec.witness_at (enc := enc) (C := Tryz.checked) (os := os) (X := fun w _ => laidMetH Tryz.prog laidL w) false (laidWorld os) #[.agg #[.int .i64 0, .int .u64 0, .bool false, .string ⟨#[]⟩, .int .i64 0], .agg #[.int .i64 0, .int .u64 0, .bool false, .string ⟨#[]⟩, .int .i64 0], .agg #[.int .i64 0, .int .u64 0, .bool false, .string ⟨#[]⟩, .int .i64 0]] 8 rfl (by kernel_rfl) (by kernel_rfl) (by kernel_rfl) (by kernel_rfl) (by kernel_rfl) (laidWorld_met os _)) ?_
  intro W base args ds gs before hsh hval0 hW _ _ hL
  have hI := Inv_of hsh hL
  have hval : ∀ (j : Nat) t v, Tryz.f4.params[j]? = some t → args[j]? = some v → Value.okWide Tryz.prog W .any base t v := hval0
  have hW' := hW
  obtain ⟨p, q, hA0, hV, rfl, _, _⟩ := hW
  have hA : DataW.TrodAll enc Tryz.prog W 0 (fun _ => true) true Tryz.f4.params.toList args.toList ds p := hA0
  rw [Tryz.params4] at hA hval
  obtain ⟨v0, v1, v2, d0, d1, d2, p0, p1, p2, rfl, rfl, rfl, h0, h1, h2⟩ := trodAll_three hA
  obtain ⟨rfl, rfl⟩ := trodVars_none hV
  clear hA0 hval0
  simp only [List.append_nil] at hW'
  obtain ⟨c0, rfl, _⟩ := okWide_struct Tryz.underlying24 (hval 0 24 v0 rfl rfl)
  obtain ⟨x0, hx0, hr0⟩ := rd_row (rd_val W hI) h0 (fun _ => ⟨_, rfl⟩)
  obtain ⟨c1, rfl, _⟩ := okWide_struct Tryz.underlying24 (hval 1 24 v1 rfl rfl)
  obtain ⟨x1, hx1, hr1⟩ := rd_row (rd_val W hI) h1 (fun _ => ⟨_, rfl⟩)
  obtain ⟨c2, rfl, _⟩ := okWide_struct Tryz.underlying24 (hval 2 24 v2 rfl rfl)
  obtain ⟨x2, hx2, hr2⟩ := rd_row (rd_val W hI) h2 (fun _ => ⟨_, rfl⟩)
  have hlt : ∀ x ∈ p0 ++ p1 ++ p2, x.block < W.heap.size := fun x hx => by simpa using hW'.lt x hx
  have hargs : ∀ {t : TypeId} {v : Value} {d : DataW H} {ps : List MemPlace}, DataW.Trod enc Tryz.prog W 0 (fun _ => true) true t v d ps → (∀ x ∈ ps, x.block < W.heap.size) → Tryz.prog.readableRec t = true → t < Tryz.prog.types.size → ∀ W' : World, Below W.heap.size W W' → DataW.Trod enc Tryz.prog W' 0 (fun b => decide (b < W.heap.size)) true t v d ps :=
    fun h hl hr ht W' hn => Below.trod Tryz.laidOut hr ht h hn hl
  refine (law_calls (P := Tryz.prog) (f := 4) (fun H => Orders_calls x0 x1 x2 hx0.1.1 hx0.1.2 hx0.2 hx1.1.1 hx1.1.2 hx1.2 hx2.1.1 hx2.1.2 hx2.2 H) (relvs_c hr0 (relvs_c hr1 (relvs_c hr2 relvs_n)))).mono fun e W' ⟨he, hn⟩ => ?_
  subst he
  exact ⟨_, rfl, _, _, _, [], _, [], hW', trodAll_mk1 (shut_bool Tryz.underlying4 true), trodAll_mk3 (hargs h0 (fun x hx => hlt x (by simp [hx])) (by kernel_rfl) (of_decide_eq_true (by kernel_rfl)) W' hn) (hargs h1 (fun x hx => hlt x (by simp [hx])) (by kernel_rfl) (of_decide_eq_true (by kernel_rfl)) W' hn) (hargs h2 (fun x hx => hlt x (by simp [hx])) (by kernel_rfl) (of_decide_eq_true (by kernel_rfl)) W' hn), rfl, hn.frame _, fun h => by cases h⟩
theorem Orders_row : Rows.ValueOrdersSaid :=
  OpenClaim.holds_of_wide 4 Tryz.f4 rfl rfl rfl rfl rfl rfl rfl ⟨rfl, rfl, rfl, rfl, rfl⟩ rfl rfl rfl rfl rfl (by kernel_rfl) Tryz.func4 (by kernel_rfl)
    (of_decide_eq_true (by kernel_rfl)) (by unfold Func.isWrapper; first | (rw [if_pos (by decide +kernel)]; kernel_rfl) | (rw [if_neg (by decide +kernel)]; exact ⟨rfl, rfl⟩))
    (fun os started H enc _ => Orders_lifted os started H enc)
theorem Orders_holds : Rows.ValueOrdersCardSaid :=
  Claim7.holds_tied_plain_at .later [] [.data, .data, .data, .data, .sentinel, .sentinel, .data, .data, .pinned] true (true, "f50c4413cb9329d5aa0dec0aa2767959869201473297f1261faeb6fbbee24e42") true
    Orders_row (fun _ h => by cases h) (by kernel_rfl) (fun _ h => by cases h) valueOrders_row_tie rfl ⟨rfl, rfl⟩ (by kernel_rfl) rfl
    (fun f fn hf hfn => by
      obtain rfl : f = 4 := Option.some.inj ((show Tryz.prog.funcNamed Rows.valueOrdersRow.func = some 4 by kernel_rfl).symm.trans hf) |>.symm
      obtain rfl : fn = Tryz.f4 := (Option.some.inj (Tryz.func4.symm.trans hfn)).symm
      exact ⟨by kernel_rfl, fun j t ht => by
        rw [Tryz.params4] at ht
        have h3 : t = 24 := by
          rcases j with _ | _ | _ | j
          · simpa using ht.symm
          · simpa using ht.symm
          · simpa using ht.symm
          · simp at ht
        subst h3
        exact (show Tryz.prog.wantsStandIn 24 = false by kernel_rfl)⟩)
    (by kernel_rfl)
end Go.Proofs.YtncoklpecffokaaGreatDoor
