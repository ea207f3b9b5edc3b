/- The law ValueTurns holds of the program: values become numbers, bools and texts as the document says. Conditions: those of the given statement alone. -/
import Derived.Test.YtmmgbnolccpjoaaGreatDoorGvk
import Derived.Test.YtmmgbnolccpjoaaGreatDoorVhk
import Derived.Test.YtmmgbnolccpjoaaGreatDoorGjTk
namespace Go.Proofs.YtmmgbnolccpjoaaGreatDoor
open Go.Proofs.Tryz
open Go Go.ChangeShapes Go.WideShapes Go.ChangeAt Go.RowKit

theorem atG (v0 : Val) (hv0 : v0.bits < 18446744073709551616) (ht0 : v0.text.length ≤ maxLen) (c1 : Int) (hc1 : -9223372036854775808 ≤ c1 ∧ c1 ≤ 9223372036854775807) : Fn 3 [v0.av, .int .i64 c1] (.bool true) := fun H => bnL bdF v0 hv0 ht0 c1 hc1 H
set_option maxRecDepth 1000000 in
theorem bcB (os : Os) (started : os.Started) (H : Type) (enc : TypeId × Value → H) :
  ReturnsInHanded {} Tryz.checked os 3 .any (fun w args => (Rows.valueTurnsSpec.pre enc prog Tryz.f3 [] false w args ∧ laidMetH prog laidL w) ∧ sizedMet enc prog Tryz.f3 (OpenSpec.ofChange Rows.valueTurnsSpec) false w args)
   (Rows.valueTurnsSpec.post enc prog Tryz.f3 false true false false) := by
 refine bxC (C := Tryz.checked) (X := fun w _ => laidMetH prog laidL w) (fun _ _ _ hh h => h.of_heap hh) Tryz.own started (by kernel_rfl) func3
  (ChangeSpec.witness_at (enc := enc) (C := Tryz.checked) (os := os) (X := fun w _ => laidMetH prog laidL w) false (baY os) #[.agg #[.int .i64 0, .int .u64 0, .bool false, .string ⟨#[]⟩, .int .i64 0], .int .i64 0] 8 rfl (by kernel_rfl) (by kernel_rfl) (by kernel_rfl) (by kernel_rfl) (by kernel_rfl) (axN os _)) ?_
 intro W base args ds gs before hsh hval0 hW _ _ hL
 have hI := chF hsh hL
 have hval : ∀ (j : Nat) t v, Tryz.f3.params[j]? = some t → args[j]? = some v → Value.okWide prog W .any base t v := hval0
 have hW' := hW
 obtain ⟨p, q, hA0, hV, rfl, _, _⟩ := hW
 have hA : DataW.TrodAll enc prog W 0 (fun _ => true) true Tryz.f3.params.toList args.toList ds p := hA0
 rw [Tryz.params3] at hA hval
 obtain ⟨v0, v1, d0, d1, p0, p1, rfl, rfl, rfl, h0, h1⟩ := trodAll_two hA
 obtain ⟨rfl, rfl⟩ := trodVars_none hV
 clear hA0 hval0
 simp only [bM] at hW'
 obtain ⟨cs0, rfl, _⟩ := okWide_struct U24 (hval 0 24 v0 rfl rfl)
 obtain ⟨x0, hx0, hr0⟩ := ccH (fl := Val.cs) (cfK (hI := hI)) h0
 obtain ⟨n1, rfl⟩ := okWide_int U3 (hval 1 3 v1 rfl rfl)
 obtain ⟨x1, hx1, hr1⟩ := cfL (bhK (hI := hI) U3) h1 (fun _ => rfl) rfl
 have hlt : ∀ x ∈ p0 ++ p1, x.block < W.heap.size := fun x hx => by simpa using hW'.lt x hx
 have hargs : ∀ {t : TypeId} {v : Value} {d : DataW H} {ps : List MemPlace}, DataW.Trod enc prog W 0 (fun _ => true) true t v d ps → (∀ x ∈ ps, x.block < W.heap.size) → prog.readableRec t = true → t < prog.types.size → ∀ W' : World, Below W.heap.size W W' → DataW.Trod enc prog W' 0 (fun b => decide (b < W.heap.size)) true t v d ps :=
  fun h hl hr ht W' hn => Below.trod Tryz.laidOut hr ht h hn hl
 refine (brW (P := prog) (f := 3) (fun H => atG x0 hx0.1 hx0.2 x1 (wfi64 hx1) H) (bpV hr0 (bpV hr1 ccF))).mono fun e W' ⟨he, hn⟩ => ?_
 subst he
 exact ⟨_, rfl, _, _, _, [], _, [], hW', trodAll_mk1 (shut_bool U4 true), trodAll_mk2 (hargs h0 (fun x hx => hlt x (by simp [hx])) (by kernel_rfl) (of_decide_eq_true (by kernel_rfl)) W' hn) (hargs h1 (fun x hx => hlt x (by simp [hx])) (by kernel_rfl) (of_decide_eq_true (by kernel_rfl)) W' hn), rfl, hn.frame _, fun h => by cases h⟩
theorem buD : Rows.ValueTurnsSaid :=
 OpenClaim.holds_of_wide 3 Tryz.f3 rfl rfl rfl rfl rfl rfl rfl ⟨rfl, rfl, rfl, rfl, rfl⟩ rfl rfl rfl rfl rfl alA func3 bcD
  (of_decide_eq_true (by kernel_rfl)) (by unfold Func.isWrapper; first | (rw [aN aE]; kernel_rfl) | (rw [aL aE]; exact ⟨rfl, rfl⟩))
  (fun os started H enc _ => bcB os started H enc)
theorem Turns_holds : Rows.ValueTurnsCardSaid :=
 Claim7.holds_tied_plain_at .later [] [.data, .data, .data, .data, .sentinel, .sentinel, .data, .data, .pinned] true (true, "f704989f6919a0ea7c8883d8e1cb54e6184a9502f3eaac99d17da075bde6860b") true
  buD (fun _ h => by cases h) (by kernel_rfl) (fun _ h => by cases h) valueTurns_row_tie rfl ⟨rfl, rfl⟩ bnN rfl
  (fun f fn hf hfn => by
    obtain rfl : f = 3 := Option.some.inj (alA.symm.trans hf) |>.symm
    obtain rfl : fn = Tryz.f3 := (Option.some.inj (func3.symm.trans hfn)).symm
    exact ⟨bgJ, fun j t ht => by
      rw [Tryz.params3] at ht
      have h3 : t = 24 ∨ t = 3 := by
        rcases j with _ | _ | j
        ·exact .inl (by simpa using ht.symm)
        ·exact .inr (by simpa using ht.symm)
        simp at ht
      rcases h3 with rfl | rfl
      ·exact (show prog.wantsStandIn 24 = false by kernel_rfl)
      exact (show prog.wantsStandIn 3 = false by kernel_rfl)⟩)
  bnO
end Go.Proofs.YtmmgbnolccpjoaaGreatDoor
