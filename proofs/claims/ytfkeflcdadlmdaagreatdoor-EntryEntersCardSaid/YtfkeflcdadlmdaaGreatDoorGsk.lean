import Derived.Test.YtfkeflcdadlmdaaGreatDoorCards
import Derived.Test.YtfkeflcdadlmdaaGreatDoorTie
import Derived.Test.YtfkeflcdadlmdaaGreatDoorGfk
import Derived.Test.YtfkeflcdadlmdaaGreatDoorB6
import Derived.SevenTiedAt
namespace Go.Proofs.YtfkeflcdadlmdaaGreatDoor
open Go Go.ChangeShapes Go.WideShapes Go.ChangeAt Go.RowKit

theorem wfi64 {n : Int} (h : (Lit.int .i64 n).wf = true) : -9223372036854775808 ≤ n ∧ n ≤ 9223372036854775807 := by
 simp [Lit.wf, IntKind.min, IntKind.max, IntKind.bits, IntKind.signed] at h
 omega
theorem avM (c : Int) (hc : -9223372036854775808 ≤ c ∧ c ≤ 9223372036854775807) (s : List UInt8) (H : Heap) : ACall Tryz.prog 3 [.int .i64 c, .str s] H (fun y H' => y = .bool true ∧ H' = H) := ayZ awH c hc s H
set_option maxRecDepth 1000000 in
theorem asM (os : Os) (started : os.Started) (H : Type) (enc : TypeId × Value → H) :
  ReturnsInHanded {} Tryz.checked os 3 .any (fun w args => (Rows.entryEntersSpec.pre enc Tryz.prog Tryz.f3 [] false w args ∧ laidMetH Tryz.prog laidL w) ∧ sizedMet enc Tryz.prog Tryz.f3 (OpenSpec.ofChange Rows.entryEntersSpec) false w args)
   (Rows.entryEntersSpec.post enc Tryz.prog Tryz.f3 false true false false) := by
 refine lift_and (C := Tryz.checked) (X := fun w _ => laidMetH Tryz.prog laidL w) (fun _ _ _ hh h => h.of_heap hh) Tryz.own started (by kernel_rfl) Tryz.func3
  (ChangeSpec.witness_at (enc := enc) (C := Tryz.checked) (os := os) (X := fun w _ => laidMetH Tryz.prog laidL w) false (auN os) #[.int .i64 0, .string ⟨#[]⟩] 8 rfl (by kernel_rfl) (by kernel_rfl) (by kernel_rfl) (by kernel_rfl) (by kernel_rfl) (arU os _)) ?_
 intro W base args ds gs before hsh hval0 hW _ _ hL
 have hI := Inv_of hsh hL
 have hval : ∀ (j : Nat) t v, Tryz.f3.params[j]? = some t → args[j]? = some v → Value.okWide Tryz.prog W .any base t v := hval0
 have hW' := hW
 obtain ⟨p, q, hA0, hV, rfl, _, _⟩ := hW
 have hA : DataW.TrodAll enc Tryz.prog W 0 (fun _ => true) true Tryz.f3.params.toList args.toList ds p := hA0
 rw [Tryz.params3] at hA hval
 obtain ⟨v0, v1, d0, d1, p0, p1, rfl, rfl, rfl, h0, h1⟩ := trodAll_two hA
 obtain ⟨rfl, rfl⟩ := trodVars_none hV
 clear hA0 hval0
 simp only [List.append_nil] at hW'
 obtain ⟨n0, rfl⟩ := okWide_int Tryz.underlying3 (hval 0 3 v0 rfl rfl)
 obtain ⟨x0, hx0, hr0⟩ := rd_arg (rd_int (hI := hI) Tryz.underlying3) h0 (fun _ => rfl) rfl
 obtain ⟨s1, rfl⟩ := okWide_string Tryz.underlying9 (hval 1 9 v1 rfl rfl)
 obtain ⟨x1, hx1, hr1⟩ := rd_arg (bgV (hI := hI) Tryz.underlying9) h1 (fun _ => rfl) rfl
 have hlt : ∀ x ∈ p0 ++ p1, x.block < W.heap.size := fun x hx => by simpa using hW'.lt x hx
 have hargs : ∀ {t : TypeId} {v : Value} {d : DataW H} {ps : List MemPlace}, DataW.Trod enc Tryz.prog W 0 (fun _ => true) true t v d ps → (∀ x ∈ ps, x.block < W.heap.size) → Tryz.prog.readableRec t = true → t < Tryz.prog.types.size → ∀ W' : World, Below W.heap.size W W' → DataW.Trod enc Tryz.prog W' 0 (fun b => decide (b < W.heap.size)) true t v d ps :=
  fun h hl hr ht W' hn => Below.trod Tryz.laidOut hr ht h hn hl
 refine (biH (P := Tryz.prog) (f := 3) (fun H => avM x0 (wfi64 hx0) x1 H) (bgS hr0 (bgS hr1 relvs_n))).mono fun e W' ⟨he, hn⟩ => ?_
 subst he
 exact ⟨_, rfl, _, _, _, [], _, [], hW', trodAll_mk1 (shut_bool Tryz.underlying4 true), trodAll_mk2 (hargs h0 (fun x hx => hlt x (by simp [hx])) (by kernel_rfl) (of_decide_eq_true (by kernel_rfl)) W' hn) (hargs h1 (fun x hx => hlt x (by simp [hx])) (by kernel_rfl) (of_decide_eq_true (by kernel_rfl)) W' hn), rfl, hn.frame _, fun h => by cases h⟩
theorem beW : Rows.EntryEntersSaid :=
 OpenClaim.holds_of_wide 3 Tryz.f3 rfl rfl rfl rfl rfl rfl rfl ⟨rfl, rfl, rfl, rfl, rfl⟩ rfl rfl rfl rfl rfl (by kernel_rfl) Tryz.func3 (by kernel_rfl)
  (of_decide_eq_true (by kernel_rfl)) (by unfold Func.isWrapper; first | (rw [if_pos (by decide +kernel)]; kernel_rfl) | (rw [if_neg (by decide +kernel)]; exact ⟨rfl, rfl⟩))
  (fun os started H enc _ => asM os started H enc)
theorem Enters_holds : Rows.EntryEntersCardSaid :=
 Claim7.holds_tied_plain_at .later [] [.data, .data, .data, .data, .sentinel, .sentinel, .data, .data, .pinned] true (true, "4ab4727cc84f38c5e75afde52710d4e75b54721a7c56f3a7991c1102d09f5b94") true
  beW (fun _ h => by cases h) (by kernel_rfl) (fun _ h => by cases h) entryEnters_row_tie rfl ⟨rfl, rfl⟩ (by kernel_rfl) rfl
  (fun f fn hf hfn => by
    obtain rfl : f = 3 := Option.some.inj ((show Tryz.prog.funcNamed Rows.entryEntersRow.func = some 3 by kernel_rfl).symm.trans hf) |>.symm
    obtain rfl : fn = Tryz.f3 := (Option.some.inj (Tryz.func3.symm.trans hfn)).symm
    exact ⟨by kernel_rfl, fun j t ht => by
      rw [Tryz.params3] at ht
      have h3 : t = 3 ∨ t = 9 := by
        rcases j with _ | _ | j
        ·exact .inl (by simpa using ht.symm)
        ·exact .inr (by simpa using ht.symm)
        ·simp at ht
      rcases h3 with rfl | rfl
      ·exact (show Tryz.prog.wantsStandIn 3 = false by kernel_rfl)
      ·exact (show Tryz.prog.wantsStandIn 9 = false by kernel_rfl)⟩)
  (by kernel_rfl)
end Go.Proofs.YtfkeflcdadlmdaaGreatDoor
