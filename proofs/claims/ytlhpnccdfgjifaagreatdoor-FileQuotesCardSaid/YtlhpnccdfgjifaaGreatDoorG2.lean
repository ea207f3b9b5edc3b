/-
  FileQuotes, as the card says it: called with any two texts, in whatever memory in which the package variables hold what the program's text lays, it returns true and its arguments read afterwards as before.
-/
import Derived.Test.YtlhpnccdfgjifaaGreatDoorCards
import Derived.Test.YtlhpnccdfgjifaaGreatDoorTie
import Derived.Test.YtlhpnccdfgjifaaGreatDoorG1
import Derived.Test.YtlhpnccdfgjifaaGreatDoorQzk
import Derived.SevenTiedAt
import Derived.Carry
import Derived.Test.YtlhpnccdfgjifaaGreatDoorGjQk
namespace Go.Proofs.YtlhpnccdfgjifaaGreatDoor
open Go Go.ChangeShapes Go.WideShapes Go.ChangeAt Go.RowKit

set_option maxRecDepth 1000000 in
theorem Quotes_lifted (os : Os) (started : os.Started) (H : Type) (enc : TypeId × Value → H) :
    ReturnsInHanded {} Tryz.checked os 3 .any (fun w args => (Rows.fileQuotesSpec.pre enc Tryz.prog Tryz.f3 [] false w args ∧ laidMetH Tryz.prog laidL w) ∧ sizedMet enc Tryz.prog Tryz.f3 (OpenSpec.ofChange Rows.fileQuotesSpec) false w args)
      (Rows.fileQuotesSpec.post enc Tryz.prog Tryz.f3 false true false false) := by
  refine lift_and (C := Tryz.checked) (X := fun w _ => laidMetH Tryz.prog laidL w) (fun _ _ _ hh h => h.of_heap hh) Tryz.own started (by kernel_rfl) Tryz.func3
    (ChangeSpec.witness_shaped (enc := enc) (C := Tryz.checked) (os := os) (X := fun w _ => laidMetH Tryz.prog laidL w) false (laidWorld os) #[.string ⟨#[]⟩, .string ⟨#[]⟩] 8 (World.laidAll_os _ _ _) (World.shaped_of_ZipB (by kernel_rfl) (by kernel_rfl)) (by kernel_rfl) (by kernel_rfl) (by kernel_rfl) (laidWorld_met os _)) ?_
  intro W base args ds gs before hsh hval0 hW _ _ hL
  have hI := Inv_of hsh hL
  have hval : ∀ (j : Nat) t v, Tryz.f3.params[j]? = some t → args[j]? = some v → Value.okWide Tryz.prog W .any base t v := hval0
  have hW' := hW
  obtain ⟨p, q, hA0, hV, rfl, _, _⟩ := hW
  have hA : DataW.TrodAll enc Tryz.prog W 0 (fun _ => true) true Tryz.f3.params.toList args.toList ds p := hA0
  rw [Tryz.params3] at hA hval
  obtain ⟨v0, v1, d0, d1, p0, p1, rfl, rfl, rfl, h0, h1⟩ := trodAll_two hA
  obtain ⟨rfl, rfl⟩ := trodVars_none hV
  clear hA0 hval0
  simp only [List.append_nil] at hW'
  obtain ⟨s0, rfl⟩ := okWide_string Tryz.underlying9 (hval 0 9 v0 rfl rfl)
  obtain ⟨s1, rfl⟩ := okWide_string Tryz.underlying9 (hval 1 9 v1 rfl rfl)
  have hlt : ∀ x ∈ p0 ++ p1, x.block < W.heap.size := fun x hx => by simpa using hW'.lt x hx
  have hargs : ∀ {t : TypeId} {v : Value} {d : DataW H} {ps : List MemPlace}, DataW.Trod enc Tryz.prog W 0 (fun _ => true) true t v d ps → (∀ x ∈ ps, x.block < W.heap.size) → Tryz.prog.readableRec t = true → t < Tryz.prog.types.size → ∀ W' : World, Below W.heap.size W W' → DataW.Trod enc Tryz.prog W' 0 (fun b => decide (b < W.heap.size)) true t v d ps :=
    fun h hl hr ht W' hn => Below.trod Tryz.laidOut hr ht h hn hl
  have e0 : s0 = ⟨s0.data.toList.toArray⟩ := by cases s0; rfl
  have e1 : s1 = ⟨s1.data.toList.toArray⟩ := by cases s1; rfl
  have key := fileQuotes_walk s0.data.toList s1.data.toList W hI
  rw [← e0, ← e1] at key
  refine key.mono fun e W' ⟨he, hn⟩ => ?_
  subst he
  exact ⟨_, rfl, _, _, _, [], _, [], hW', trodAll_mk1 (shut_bool Tryz.underlying4 true), trodAll_mk2 (hargs h0 (fun x hx => hlt x (by simp [hx])) (by kernel_rfl) (of_decide_eq_true (by kernel_rfl)) W' hn) (hargs h1 (fun x hx => hlt x (by simp [hx])) (by kernel_rfl) (of_decide_eq_true (by kernel_rfl)) W' hn), rfl, hn.frame _, fun h => by cases h⟩
end Go.Proofs.YtlhpnccdfgjifaaGreatDoor

namespace Go.Proofs.YtlhpnccdfgjifaaGreatDoor
open Go Go.ChangeShapes Go.WideShapes Go.ChangeAt Go.RowKit

theorem Quotes_row : Rows.FileQuotesSaid :=
  OpenClaim.holds_of_wide 3 Tryz.f3 rfl rfl rfl rfl rfl rfl rfl ⟨rfl, rfl, rfl, rfl, rfl⟩ rfl rfl rfl rfl rfl Quotes_named Tryz.func3 Quotes_closed
    (of_decide_eq_true (by kernel_rfl)) (by unfold Func.isWrapper; first | (rw [if_pos (by decide +kernel)]; kernel_rfl) | (rw [if_neg (by decide +kernel)]; exact ⟨rfl, rfl⟩))
    (fun os started H enc _ => Quotes_lifted os started H enc)
theorem Quotes_holds : Rows.FileQuotesCardSaid :=
  Claim7.holds_tied_plain_at .later [] [.data, .data, .data, .data, .sentinel, .sentinel, .data, .data, .data, .pinned, .pinned] true (true, "ab213fc03f519edb5098ecf1c95890755887c98ed58edcf4826ecf7ae3fa6166") true
    Quotes_row (fun _ h => by cases h) (by kernel_rfl) (fun _ h => by cases h) fileQuotes_row_tie rfl ⟨rfl, rfl⟩ Quotes_main rfl
    (fun f fn hf hfn => by
      obtain rfl : f = 3 := Option.some.inj (Quotes_named.symm.trans hf) |>.symm
      obtain rfl : fn = Tryz.f3 := (Option.some.inj (Tryz.func3.symm.trans hfn)).symm
      exact ⟨Quotes_looks, fun j t ht => by
        rw [Tryz.params3] at ht
        have h3 : t = 9 := by
          rcases j with _ | _ | j
          · exact (by simpa using ht.symm)
          · exact (by simpa using ht.symm)
          · simp at ht
        rcases h3 with rfl
        exact (show Tryz.prog.wantsStandIn 9 = false by kernel_rfl)⟩)
    Quotes_goes
end Go.Proofs.YtlhpnccdfgjifaaGreatDoor
