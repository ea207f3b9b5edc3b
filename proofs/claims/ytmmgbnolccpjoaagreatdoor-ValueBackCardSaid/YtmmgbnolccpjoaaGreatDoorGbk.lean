/- The law ValueBack holds of the program: the text of a number is a number again, rounded to fifteen digits. Conditions: those of the given statement alone. -/
import Derived.Test.YtmmgbnolccpjoaaGreatDoorGvk
import Derived.Test.YtmmgbnolccpjoaaGreatDoorVek
import Derived.Test.YtmmgbnolccpjoaaGreatDoorGjBk
namespace Go.Proofs.YtmmgbnolccpjoaaGreatDoor
open Go Go.ChangeShapes Go.WideShapes Go.ChangeAt Go.RowKit

theorem auI (n0 : Int) (hn0 : 0 ≤ n0 ∧ n0 < 18446744073709551616) (c1 : Int) (hc1 : -9223372036854775808 ≤ c1 ∧ c1 ≤ 9223372036854775807) (H : Heap) : ACall Tryz.prog 6 [.int .u64 n0, .int .i64 c1] H (fun y H' => y = .bool true ∧ H' = H) := by
 have h := bnM ayE n0.toNat (by omega) c1 hc1 H
 rwa [show ((n0.toNat : Nat) : Int) = n0 by omega] at h
set_option maxRecDepth 1000000 in
theorem bbE (os : Os) (started : os.Started) (H : Type) (enc : TypeId × Value → H) :
  ReturnsInHanded {} Tryz.checked os 6 .any (fun w args => (Rows.valueBackSpec.pre enc Tryz.prog Tryz.f6 [] false w args ∧ laidMetH Tryz.prog laidL w) ∧ sizedMet enc Tryz.prog Tryz.f6 (OpenSpec.ofChange Rows.valueBackSpec) false w args)
   (Rows.valueBackSpec.post enc Tryz.prog Tryz.f6 false true false false) := by
 refine lift_and (C := Tryz.checked) (X := fun w _ => laidMetH Tryz.prog laidL w) (fun _ _ _ hh h => h.of_heap hh) Tryz.own started (by kernel_rfl) Tryz.func6
  (ChangeSpec.witness_at (enc := enc) (C := Tryz.checked) (os := os) (X := fun w _ => laidMetH Tryz.prog laidL w) false (awJ os) #[.int .u64 0, .int .i64 0] 8 rfl (by kernel_rfl) (by kernel_rfl) (by kernel_rfl) (by kernel_rfl) (by kernel_rfl) (atM os _)) ?_
 intro W base args ds gs before hsh hval0 hW _ _ hL
 have hI := Inv_of hsh hL
 have hval : ∀ (j : Nat) t v, Tryz.f6.params[j]? = some t → args[j]? = some v → Value.okWide Tryz.prog W .any base t v := hval0
 have hW' := hW
 obtain ⟨p, q, hA0, hV, rfl, _, _⟩ := hW
 have hA : DataW.TrodAll enc Tryz.prog W 0 (fun _ => true) true Tryz.f6.params.toList args.toList ds p := hA0
 rw [Tryz.params6] at hA hval
 obtain ⟨v0, v1, d0, d1, p0, p1, rfl, rfl, rfl, h0, h1⟩ := trodAll_two hA
 obtain ⟨rfl, rfl⟩ := trodVars_none hV
 clear hA0 hval0
 simp only [cS] at hW'
 obtain ⟨n0, rfl⟩ := okWide_int U22 (hval 0 22 v0 rfl rfl)
 obtain ⟨x0, hx0, hr0⟩ := rd_arg (rd_int (hI := hI) U22) h0 (fun _ => rfl) rfl
 obtain ⟨n1, rfl⟩ := okWide_int U3 (hval 1 3 v1 rfl rfl)
 obtain ⟨x1, hx1, hr1⟩ := rd_arg (rd_int (hI := hI) U3) h1 (fun _ => rfl) rfl
 have hlt : ∀ x ∈ p0 ++ p1, x.block < W.heap.size := fun x hx => by simpa using hW'.lt x hx
 have hargs : ∀ {t : TypeId} {v : Value} {d : DataW H} {ps : List MemPlace}, DataW.Trod enc Tryz.prog W 0 (fun _ => true) true t v d ps → (∀ x ∈ ps, x.block < W.heap.size) → Tryz.prog.readableRec t = true → t < Tryz.prog.types.size → ∀ W' : World, Below W.heap.size W W' → DataW.Trod enc Tryz.prog W' 0 (fun b => decide (b < W.heap.size)) true t v d ps :=
  fun h hl hr ht W' hn => Below.trod Tryz.laidOut hr ht h hn hl
 refine (blJ (P := Tryz.prog) (f := 6) (fun H => auI x0 (wf64 hx0) x1 (wfi64 hx1) H) (bjO hr0 (bjO hr1 relvs_n))).mono fun e W' ⟨he, hn⟩ => ?_
 subst he
 exact ⟨_, rfl, _, _, _, [], _, [], hW', trodAll_mk1 (shut_bool U4 true), trodAll_mk2 (hargs h0 (fun x hx => hlt x (by simp [hx])) (by kernel_rfl) (of_decide_eq_true (by kernel_rfl)) W' hn) (hargs h1 (fun x hx => hlt x (by simp [hx])) (by kernel_rfl) (of_decide_eq_true (by kernel_rfl)) W' hn), rfl, hn.frame _, fun h => by cases h⟩
theorem Back_row : Rows.ValueBackSaid :=
 OpenClaim.holds_of_wide 6 Tryz.f6 rfl rfl rfl rfl rfl rfl rfl ⟨rfl, rfl, rfl, rfl, rfl⟩ rfl rfl rfl rfl rfl alA Tryz.func6 bbG
  (of_decide_eq_true (by kernel_rfl)) (by unfold Func.isWrapper; first | (rw [aO (by decide +kernel)]; kernel_rfl) | (rw [aN (by decide +kernel)]; exact ⟨rfl, rfl⟩))
  (fun os started H enc _ => bbE os started H enc)
theorem Back_holds : Rows.ValueBackCardSaid :=
 Claim7.holds_tied_plain_at .later [] [.data, .data, .data, .data, .sentinel, .sentinel, .data, .data, .pinned] true (true, "f704989f6919a0ea7c8883d8e1cb54e6184a9502f3eaac99d17da075bde6860b") true
  Back_row (fun _ h => by cases h) (by kernel_rfl) (fun _ h => by cases h) valueBack_row_tie rfl ⟨rfl, rfl⟩ bnO rfl
  (fun f fn hf hfn => by
    obtain rfl : f = 6 := Option.some.inj (alA.symm.trans hf) |>.symm
    obtain rfl : fn = Tryz.f6 := (Option.some.inj (Tryz.func6.symm.trans hfn)).symm
    exact ⟨bhT, fun j t ht => by
      rw [Tryz.params6] at ht
      have h3 : t = 22 ∨ t = 3 := by
        rcases j with _ | _ | j
        ·exact .inl (by simpa using ht.symm)
        ·exact .inr (by simpa using ht.symm)
        simp at ht
      rcases h3 with rfl | rfl
      ·exact (show Tryz.prog.wantsStandIn 22 = false by kernel_rfl)
      exact (show Tryz.prog.wantsStandIn 3 = false by kernel_rfl)⟩)
  bnP
end Go.Proofs.YtmmgbnolccpjoaaGreatDoor
