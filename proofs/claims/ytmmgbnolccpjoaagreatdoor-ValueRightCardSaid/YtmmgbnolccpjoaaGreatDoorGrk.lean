import Derived.Test.YtmmgbnolccpjoaaGreatDoorCards
import Derived.Test.YtmmgbnolccpjoaaGreatDoorTie
import Derived.Test.YtmmgbnolccpjoaaGreatDoorGvk
import Derived.Test.YtmmgbnolccpjoaaGreatDoorVdk
import Derived.Test.YtmmgbnolccpjoaaGreatDoorGjRk
import Derived.SevenTiedAt
import Derived.Carry
namespace Go.Proofs.YtmmgbnolccpjoaaGreatDoor
open Go Go.ChangeShapes Go.WideShapes Go.ChangeAt Go.RowKit

theorem amZ (c0 : Int) (hc0 : -9223372036854775808 ≤ c0 ∧ c0 ≤ 9223372036854775807) (v1 : Val) (hv1 : v1.bits < 18446744073709551616) (ht1 : v1.text.length ≤ maxLen) (v2 : Val) (hv2 : v2.bits < 18446744073709551616) (ht2 : v2.text.length ≤ maxLen) (c3 : Int) (hc3 : -9223372036854775808 ≤ c3 ∧ c3 ≤ 9223372036854775807) (H : Heap) : ACall Tryz.prog 7 [.int .i64 c0, v1.av, v2.av, .int .i64 c3] H (fun y H' => y = .bool true ∧ H' = H) := bbY auK c0 hc0 v1 hv1 ht1 v2 hv2 ht2 c3 hc3 H
set_option maxRecDepth 1000000 in
theorem atN (os : Os) (started : os.Started) (H : Type) (enc : TypeId × Value → H) :
  ReturnsInHanded {} Tryz.checked os 7 .any (fun w args => (Rows.valueRightSpec.pre enc Tryz.prog Tryz.f7 [] false w args ∧ laidMetH Tryz.prog laidL w) ∧ sizedMet enc Tryz.prog Tryz.f7 (OpenSpec.ofChange Rows.valueRightSpec) false w args)
   (Rows.valueRightSpec.post enc Tryz.prog Tryz.f7 false true false false) := by
 refine lift_and (C := Tryz.checked) (X := fun w _ => laidMetH Tryz.prog laidL w) (fun _ _ _ hh h => h.of_heap hh) Tryz.own started (by kernel_rfl) Tryz.func7
  (ChangeSpec.witness_at (enc := enc) (C := Tryz.checked) (os := os) (X := fun w _ => laidMetH Tryz.prog laidL w) false (asO os) #[.int .i64 0, .agg #[.int .i64 0, .int .u64 0, .bool false, .string ⟨#[]⟩, .int .i64 0], .agg #[.int .i64 0, .int .u64 0, .bool false, .string ⟨#[]⟩, .int .i64 0], .int .i64 0] 8 rfl (by kernel_rfl) (by kernel_rfl) (by kernel_rfl) (by kernel_rfl) (by kernel_rfl) (apX os _)) ?_
 intro W base args ds gs before hsh hval0 hW _ _ hL
 have hI := Inv_of hsh hL
 have hval : ∀ (j : Nat) t v, Tryz.f7.params[j]? = some t → args[j]? = some v → Value.okWide Tryz.prog W .any base t v := hval0
 have hW' := hW
 obtain ⟨p, q, hA0, hV, rfl, _, _⟩ := hW
 have hA : DataW.TrodAll enc Tryz.prog W 0 (fun _ => true) true Tryz.f7.params.toList args.toList ds p := hA0
 rw [Tryz.params7] at hA hval
 obtain ⟨v0, v1, v2, v3, d0, d1, d2, d3, p0, p1, p2, p3, rfl, rfl, rfl, h0, h1, h2, h3⟩ := trodAll_four hA
 obtain ⟨rfl, rfl⟩ := trodVars_none hV
 clear hA0 hval0
 simp only [List.append_nil] at hW'
 obtain ⟨n0, rfl⟩ := okWide_int Tryz.underlying3 (hval 0 3 v0 rfl rfl)
 obtain ⟨x0, hx0, hr0⟩ := rd_arg (arP (hI := hI) Tryz.underlying3) h0 (fun _ => rfl) rfl
 obtain ⟨cs1, rfl, _⟩ := okWide_struct Tryz.underlying24 (hval 1 24 v1 rfl rfl)
 obtain ⟨x1, hx1, hr1⟩ := bdY (fl := Val.cs) (rd_val (hI := hI)) h1
 obtain ⟨cs2, rfl, _⟩ := okWide_struct Tryz.underlying24 (hval 2 24 v2 rfl rfl)
 obtain ⟨x2, hx2, hr2⟩ := bdY (fl := Val.cs) (rd_val (hI := hI)) h2
 obtain ⟨n3, rfl⟩ := okWide_int Tryz.underlying3 (hval 3 3 v3 rfl rfl)
 obtain ⟨x3, hx3, hr3⟩ := rd_arg (arP (hI := hI) Tryz.underlying3) h3 (fun _ => rfl) rfl
 have hlt : ∀ x ∈ p0 ++ p1 ++ p2 ++ p3, x.block < W.heap.size := fun x hx => by simpa using hW'.lt x hx
 have hargs : ∀ {t : TypeId} {v : Value} {d : DataW H} {ps : List MemPlace}, DataW.Trod enc Tryz.prog W 0 (fun _ => true) true t v d ps → (∀ x ∈ ps, x.block < W.heap.size) → Tryz.prog.readableRec t = true → t < Tryz.prog.types.size → ∀ W' : World, Below W.heap.size W W' → DataW.Trod enc Tryz.prog W' 0 (fun b => decide (b < W.heap.size)) true t v d ps :=
  fun h hl hr ht W' hn => Below.trod Tryz.laidOut hr ht h hn hl
 refine (bfI (P := Tryz.prog) (f := 7) (fun H => amZ x0 (wfi64 hx0) x1 hx1.1 hx1.2 x2 hx2.1 hx2.2 x3 (wfi64 hx3) H) (apD hr0 (apD hr1 (apD hr2 (apD hr3 relvs_n))))).mono fun e W' ⟨he, hn⟩ => ?_
 subst he
 exact ⟨_, rfl, _, _, _, [], _, [], hW', trodAll_mk1 (shut_bool Tryz.underlying4 true), trodAll_mk4 (hargs h0 (fun x hx => hlt x (by simp [hx])) (by kernel_rfl) (of_decide_eq_true (by kernel_rfl)) W' hn) (hargs h1 (fun x hx => hlt x (by simp [hx])) (by kernel_rfl) (of_decide_eq_true (by kernel_rfl)) W' hn) (hargs h2 (fun x hx => hlt x (by simp [hx])) (by kernel_rfl) (of_decide_eq_true (by kernel_rfl)) W' hn) (hargs h3 (fun x hx => hlt x (by simp [hx])) (by kernel_rfl) (of_decide_eq_true (by kernel_rfl)) W' hn), rfl, hn.frame _, fun h => by cases h⟩
theorem bhA : Rows.ValueRightSaid :=
 OpenClaim.holds_of_wide 7 Tryz.f7 rfl rfl rfl rfl rfl rfl rfl ⟨rfl, rfl, rfl, rfl, rfl⟩ rfl rfl rfl rfl rfl agV Tryz.func7 atP
  (of_decide_eq_true (by kernel_rfl)) (by unfold Func.isWrapper; first | (rw [if_pos (by decide +kernel)]; kernel_rfl) | (rw [if_neg (by decide +kernel)]; exact ⟨rfl, rfl⟩))
  (fun os started H enc _ => atN os started H enc)
theorem Right_holds : Rows.ValueRightCardSaid :=
 Claim7.holds_tied_plain_at .later [] [.data, .data, .data, .data, .sentinel, .sentinel, .data, .data, .pinned] true (true, "f704989f6919a0ea7c8883d8e1cb54e6184a9502f3eaac99d17da075bde6860b") true
  bhA (fun _ h => by cases h) (by kernel_rfl) (fun _ h => by cases h) valueRight_row_tie rfl ⟨rfl, rfl⟩ bcA rfl
  (fun f fn hf hfn => by
    obtain rfl : f = 7 := Option.some.inj (agV.symm.trans hf) |>.symm
    obtain rfl : fn = Tryz.f7 := (Option.some.inj (Tryz.func7.symm.trans hfn)).symm
    exact ⟨awL, fun j t ht => by
      rw [Tryz.params7] at ht
      have h3 : t = 3 ∨ t = 24 := by
        rcases j with _ | _ | _ | _ | j
        ·exact .inl (by simpa using ht.symm)
        ·exact .inr (by simpa using ht.symm)
        ·exact .inr (by simpa using ht.symm)
        ·exact .inl (by simpa using ht.symm)
        ·simp at ht
      rcases h3 with rfl | rfl
      ·exact (show Tryz.prog.wantsStandIn 3 = false by kernel_rfl)
      ·exact (show Tryz.prog.wantsStandIn 24 = false by kernel_rfl)⟩)
  bcB
end Go.Proofs.YtmmgbnolccpjoaaGreatDoor
