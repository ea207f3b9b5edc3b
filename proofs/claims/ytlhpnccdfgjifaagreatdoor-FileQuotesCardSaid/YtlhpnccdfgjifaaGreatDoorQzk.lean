/-
  The law: Quote and Unquote are what the reference says.
-/
import Derived.Test.YtlhpnccdfgjifaaGreatDoorH5
import Derived.Test.YtlhpnccdfgjifaaGreatDoorQ3
namespace Go.Proofs.YtlhpnccdfgjifaaGreatDoor
open Go Go.RowKit Go.Shelf

theorem unqR_two (t : List UInt8) : ∃ (u : List UInt8) (b : Bool), unqR t = .tuple #[.string ⟨u.toArray⟩, .bool b] := by
  unfold unqR
  split
  · exact ⟨_, _, rfl⟩
  · exact ⟨[], _, rfl⟩
theorem Inv.below {w w' : World} (h : Inv w) (k : Below w.heap.size w w') : Inv w' := h.grow k.size k.block
theorem Inv.err {w : World} (h : Inv w) : ErrCell w := by
  obtain ⟨te, pe, he⟩ := h.errs 2 (.inl rfl)
  exact ⟨_, he, .inr ⟨te, pe, rfl⟩⟩
theorem quoteS_le (s : List UInt8) : (quoteS s).length ≤ 4 * s.length + 2 := by
  have := (bodyS_len s).2
  simp only [quoteS, List.length_cons, List.length_append, List.length_nil]
  omega
set_option pp.maxSteps 600 in
set_option maxHeartbeats 4000000 in
set_option maxRecDepth 1000000 in
theorem fileQuotes_walk (s t : List UInt8) (w : World) (hI : Inv w) :
    Calls Tryz.prog 3 #[.string ⟨s.toArray⟩, .string ⟨t.toArray⟩] w fun e w' => e = .returned (.bool true) ∧ Below w.heap.size w w' := by
  have hsz : (⟨s.toArray⟩ : ByteArray).size = s.length := rfl
  have htz : (⟨t.toArray⟩ : ByteArray).size = t.length := rfl
  go_enter Tryz.func3, Tryz.ntmps3
  go_wp2_with fail
  refine (head_calls w hI).mono ?_
  rintro e w1 ⟨rfl, b1⟩
  have I1 := Inv.below hI b1
  by_cases h1 : 1500 < s.length
  · go_wp2_with fail
    all_goals first | (exfalso; simp_all; done) | (exfalso; simp_all; omega) | skip
    all_goals go_ret
    all_goals exact ⟨rfl, b1⟩
  by_cases h2 : 1500 < t.length
  · go_wp2_with fail
    all_goals first | (exfalso; simp_all; done) | (exfalso; simp_all; omega) | skip
    all_goals go_ret
    all_goals exact ⟨rfl, b1⟩
  obtain ⟨u, b, hu⟩ := unqR_two t
  have hv : unqR (quoteS s) = .tuple #[.string ⟨s.toArray⟩, .bool true] := unqR_yes rfl
  have hq := quoteS_le s
  go_wp2_with fail
  all_goals first | (exfalso; simp_all; done) | (exfalso; simp_all; omega) | skip
  refine (unquote_walk t w1 (by omega) (Inv.err I1)).mono ?_
  rintro e w2 ⟨rfl, b2⟩
  have I2 := Inv.below I1 b2
  rw [hu]
  go_wp2_with fail
  refine (refUnquote_walk t w2 (by omega)).mono ?_
  rintro e w3 ⟨rfl, b3⟩
  have I3 := Inv.below I2 b3
  rw [hu]
  go_wp2_with fail
  refine (quote_walk s w3 (by omega)).mono ?_
  rintro e w4 ⟨rfl, b4⟩
  have I4 := Inv.below I3 b4
  go_wp2_with fail
  refine (unquote_walk (quoteS s) w4 (by omega) (Inv.err I4)).mono ?_
  rintro e w5 ⟨rfl, b5⟩
  rw [hv]
  go_wp2_with fail
  refine (quote_walk s w5 (by omega)).mono ?_
  rintro e w6 ⟨rfl, b6⟩
  go_wp2_with fail
  refine (refQuote_walk s w6 (by omega)).mono ?_
  rintro e w7 ⟨rfl, b7⟩
  have b12 := b1.trans (b2.mono b1.size)
  have b13 := b12.trans (b3.mono b12.size)
  have b14 := b13.trans (b4.mono b13.size)
  have b15 := b14.trans (b5.mono b14.size)
  have b16 := b15.trans (b6.mono b15.size)
  have b17 := b16.trans (b7.mono b16.size)
  clear hu hv
  go_wp2_with fail
  all_goals first | (exfalso; simp_all; done) | (exfalso; simp_all; omega) | skip
  all_goals go_ret
  all_goals exact ⟨rfl, b17⟩
end Go.Proofs.YtlhpnccdfgjifaaGreatDoor
