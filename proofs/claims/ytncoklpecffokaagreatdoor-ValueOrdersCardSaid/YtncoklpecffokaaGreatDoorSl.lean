/-
  The frame, part 12: what a callee that only adds to memory leaves.
-/
import Derived.Test.YtncoklpecffokaaGreatDoorSk
namespace Go.Proofs.YtncoklpecffokaaGreatDoor
open Go Go.RowKit
theorem Sat.grow {g : G} {H : Heap} {w w' : World} (s : Sat g H w) (hb : Below w.heap.size w w') : Sat g H w' := by
  have old : ∀ {b : Nat} {o : Obj}, w.heap[b]? = some o → w'.heap[b]? = some o := fun {b o} h => (hb.block b (Array.getElem?_eq_some_iff.1 h).1).trans h
  refine ⟨s.below.trans ⟨hb.os, hb.tape, hb.output, hb.size, fun k hk => hb.block k (Nat.lt_of_lt_of_le hk s.below.size)⟩, fun b o v hv => ?_, fun b T cs h => ?_, fun b es h => ?_, fun b o h => old (s.raw b o h), s.own, fun t b lo n ht hk hn => ?_, s.tokLt, s.sep⟩
  · rw [World.cell?_of_block (w := w) (hb.block b (s.imm_lt hv))]; exact s.imm b o v hv
  · obtain ⟨vs, hv, hr⟩ := s.box b T cs h; exact ⟨vs, hv.same old, hr⟩
  · obtain ⟨en, cl, hv, hr⟩ := s.map b es h; exact ⟨en, cl, old hv, hr⟩
  · obtain ⟨h1, h2, h3, c, T, h4, h5⟩ := s.tok t b lo n ht hk hn; exact ⟨h1, h2, h3, c, T, old h4, h5⟩
/-- A new row of numbers that a callee hands back. -/
theorem Sat.ownedRow {g : G} {H : Heap} {w w' : World} (s : Sat g H w) (hb : Below w.heap.size w w') {T : TypeId} {v : Value} {n : Nat} {xs : List Int} (ho : w'.ownsRow w.heap.size T 1 v n (xs.map (Value.int .i64))) :
    ∃ g', g.le g' ∧ RelV g' (.slice 1 (xs.map (AV.int .i64)) .shared) v ∧ Sat g' H w' := by
  obtain ⟨hlen, ⟨rfl, rfl⟩ | ⟨b, cap, cur, rfl, hbase, hw, hcap, hmax, hcur, hx⟩⟩ := ho
  · simp at hlen
    subst hlen
    exact ⟨g, G.le.refl g, .nilSlice _ _, s.grow hb⟩
  · have hn : xs.length = n := by simpa using hlen
    have hcell : ∀ o u, (if o < n then cur[o]? else none) = some u → w'.cell? ⟨b, o, none⟩ = some u := fun o u h => by
      split at h
      · unfold World.cell?; rw [hw]; simpa using h
      · cases h
    have hold : ∀ o u, g.imm b o = some u → (if o < n then cur[o]? else none) = some u := fun o u h => by have := s.imm_lt h; omega
    have hnone : H.objs b = none := by
      cases h : H.objs b with
      | none => rfl
      | some x => have := s.obj_lt h; omega
    have htok : ∀ t lo n' o, H.toks t = true → g.tok t = some (b, lo, n') → n' ≠ 0 → lo ≤ o → (if o < n then cur[o]? else none) = none := fun t lo n' o ht hk hn' _ => by
      obtain ⟨_, _, _, c, T', h4, _⟩ := s.tok t b lo n' ht hk hn'
      have := (Array.getElem?_eq_some_iff.1 h4).1
      omega
    have s' := (s.grow hb).addImm (f := fun o => if o < n then cur[o]? else none) hcell hold hnone htok
    refine ⟨_, G.le_addImm hold, ?_, s'⟩
    have hval : ∀ i, (h : i < n) → cur[i]? = some (.int .i64 (xs[i]'(by omega))) := fun i h => by
      have h1 : (cur.toList.take (n * 1))[i]? = (xs.map (Value.int .i64))[i]? := by rw [hx]
      rw [List.getElem?_take, if_pos (by omega), List.getElem?_map, show xs[i]? = some (xs[i]'(by omega)) from List.getElem?_eq_getElem (by omega)] at h1
      simpa using h1
    have hsl := RelV.slice (g := g.addImm b fun o => if o < n then cur[o]? else none) 1 (xs.map (AV.int .i64)) .shared b 0 cap (fun i => cur.getD i undef) (row_int xs)
      (fun i hi => by
        have hi' : i < n := by simpa [hn] using hi
        rw [G.imm_addImm, Nat.zero_add, if_pos hi', hval i hi']
        simp [hval i hi'])
      (fun i j x c hx' hc => by
        have hi : i < n := by have := (List.getElem?_eq_some_iff.1 hx').1; simpa [hn] using this
        have hxi : x = .int .i64 (xs[i]'(by omega)) := by simpa [show i < xs.length by omega] using hx'.symm
        subst hxi
        cases j with
        | zero =>
          simp [AV.cells] at hc
          subst hc
          have : cur.getD (i * 1 + 0) undef = .int .i64 (xs[i]'(by omega)) := by simp [hval i hi]
          rw [this]; exact .int _ _
        | succ j => simp [AV.cells] at hc)
      (by simp; omega) hmax trivial
    simpa [hn] using hsl
end Go.Proofs.YtncoklpecffokaaGreatDoor
