/-
  The evaluator of closed calls, part 7b: texts as bytes, pointers without a type.
-/
import Derived.Test.YtncoklpecffokaaGreatDoorEg
import Derived.Laws.IdiomStrings
import Derived.Laws.LoneSync
namespace Go.Proofs.YtncoklpecffokaaGreatDoor.Cc
open Go Go.RowKit

section
variable {P : Program} {ti : TI} (ok : TIok P ti) {ng : Con} {e : Lk} {dst : Option Tmp} {ty : TypeId} {pos : String} {af : Array Edge} {gd : Option (Nat × Bool)}
include ok
theorem m_bytes {S D E : TypeId} {i i' j : TyI} {x : Operand} {s : List UInt8} {H : Heap} (hS : ti S = some i) (hD : ti D = some i') (hu : i.und = .string) (hu' : i'.und = .slice E) (hE : ti E = some j) (hju : j.und = .int .u8) (hx : evO ng e x = some (.str s))
    (hl : s.length ≤ 16777216) : AStep P ng ⟨dst, .convert S D x, ty, pos, af, gd⟩ e H (.sl 1 H.nn 0 s.length) (H.new (.cells E (s.map fun b => .int .u8 b.toNat) false false)) := by
  refine AStep.of fun g a w hg k st => ?_
  subst hg
  obtain ⟨v, he, hv⟩ := evO_at hx k
  cases hv with
  | str s hs =>
    have u1 := ok.und _ _ hS
    have u2 := ok.und _ _ hD
    have u3 := ok.und _ _ hE
    rw [hu] at u1
    rw [hu'] at u2
    rw [hju] at u3
    have hrun := run_bytes_of_string (P := P) w S D E ⟨s.toArray⟩ u1 u2 u3
    have hss : (⟨s.toArray⟩ : ByteArray).size = s.length := rfl
    rw [hss] at hrun
    have hnb := st.nn_not_bn
    let nc := grownCap w s.length 0 E
    have hnc : s.length ≤ nc ∧ nc ≤ maxLen := by
      show s.length ≤ s.length + _ % (2 ^ 63 - s.length) ∧ _
      refine ⟨Nat.le_add_right _ _, ?_⟩
      show s.length + w.tape w.drawn (.appendCap s.length 0 E) % (2 ^ 63 - s.length) ≤ maxLen
      have : w.tape w.drawn (.appendCap s.length 0 E) % (2 ^ 63 - s.length) < 2 ^ 63 - s.length := Nat.mod_lt _ (by omega)
      unfold maxLen
      omega
    have hsz : (bytesRow ⟨s.toArray⟩ nc).size = nc := by
      unfold bytesRow
      rw [Array.size_append, Array.size_map, Array.size_replicate]
      show s.length + (nc - s.length) = nc
      omega
    have nm : (g.name H.nn w.heap.size nc hnb).nm H.nn = w.heap.size := if_pos rfl
    refine ⟨.slice (some ⟨w.heap.size, 0, none⟩) s.length nc, _, g.name H.nn w.heap.size nc hnb, ?_, g.le_name _ _ _ _, ?_, st.drew.new (k := nc) (o := .cells (bytesRow ⟨s.toArray⟩ nc) E ((bytesRow ⟨s.toArray⟩ nc).size, (bytesRow ⟨s.toArray⟩ nc).size + 1)) (by simp) hnb ?_⟩
    · simp [execOp, he, hrun]
      exact ⟨rfl, rfl⟩
    · have := RelV.sl (g := g.name H.nn w.heap.size nc hnb) 1 H.nn 0 s.length nc (by simp [G.name]) (by rw [Nat.zero_add, Nat.mul_one]; exact (if_pos rfl).symm) hnc.1 hnc.2
      rwa [nm] at this
    · refine ⟨bytesRow ⟨s.toArray⟩ nc, ((bytesRow ⟨s.toArray⟩ nc).size, (bytesRow ⟨s.toArray⟩ nc).size + 1), ⟨E, ?_, fun _ => rfl⟩, fun _ => .inr (Nat.le_refl _), ?_, ?_, (fun h => by cases h), ?_⟩
      · show (w.heap.push _)[(g.name H.nn w.heap.size nc hnb).nm H.nn]? = _
        rw [nm]; simp
      · rw [hsz]; exact (if_pos rfl).symm
      · rw [hsz]; simpa using hnc.1
      · refine ⟨by simp [hsz]; omega, fun q c v hc hv => ?_⟩
        rw [List.getElem?_map] at hc
        obtain ⟨b, hb, rfl⟩ := Option.map_eq_some_iff.1 hc
        have hq : q < s.length := (List.getElem?_eq_some_iff.1 hb).1
        have : (bytesRow ⟨s.toArray⟩ nc)[q]? = some (.int .u8 b.toNat) := by
          unfold bytesRow
          rw [Array.getElem?_append, if_pos (by simpa using hq)]
          simp [hb]
        simp only [Array.getElem?_extract] at hv
        split at hv
        · rw [Nat.zero_add] at hv
          rw [this] at hv
          cases hv
          exact .int _ _
        · cases hv
theorem m_unsafe {S D t : TypeId} {i i' j : TyI} {x : Operand} {n o : Nat} {cs : List V} {H : Heap} (hS : ti S = some i) (hD : ti D = some i') (hu : i.und = .pointer t) (hu' : i'.und = .unsafePointer) (hE : ti t = some j) (hj : 0 < j.size) (hx : evO ng e x = some (.ptr n o))
    (hn : objCells H n = some cs) (ho : o < cs.length) : AStep P ng ⟨dst, .convert S D x, ty, pos, af, gd⟩ e H (.ptr n o) H := by
  refine AStep.of fun g a w hg k st => ?_
  subst hg
  obtain ⟨v, he, hv⟩ := evO_at hx k
  cases hv with
  | ptr n o hb =>
    obtain ⟨S', ex, ro, hg, _, vs, fz, ⟨T', h1, _⟩, h2, h3, h4, h5, h6⟩ := objCells_spec st hn
    have u1 := ok.und _ _ hS
    have u2 := ok.und _ _ hD
    rw [hu] at u1
    rw [hu'] at u2
    obtain ⟨f, f1, f2, _⟩ := ok.info _ _ hE
    have hc := cell_of (w := w) (o := o) (v := vs[o]'(by omega)) h1 (by simp)
    have hrun := run_convert_to_unsafe (P := P) u1 u2 (by rw [f1]; simp; omega) hc
    exact ⟨_, w, g, by simp [execOp, he, hrun], G.le.refl g, .ptr n o hb, st⟩
theorem m_noText {S D E : TypeId} {i i' j : TyI} {x : Operand} {y : V} {H : Heap} (hS : ti S = some i) (hD : ti D = some i') (hu : i.und = .slice E) (hu' : i'.und = .string) (hE : ti E = some j) (hju : j.und = .int .u8) (hx : evO ng e x = some y) (hy : y = .voidS ∨ y = .nilS) :
    AStep P ng ⟨dst, .convert S D x, ty, pos, af, gd⟩ e H (.str []) H := by
  refine AStep.of fun g a w hg k st => ?_
  subst hg
  obtain ⟨v, he, hv⟩ := evO_at hx k
  have u1 := ok.und _ _ hS
  have u2 := ok.und _ _ hD
  have u3 := ok.und _ _ hE
  rw [hu] at u1
  rw [hu'] at u2
  rw [hju] at u3
  refine ⟨.string ⟨[].toArray⟩, w, g, ?_, G.le.refl g, .str [] (by simp), st⟩
  rcases hy with rfl | rfl
  · cases hv with
    | voidS a =>
      have hrun := run_convert_bytes_string (P := P) w S D E (some a) 0 0 u1 u3 u2
      have h2 : (Conv.bytesToString (.slice (some a) 0 0)).run P w = .ok (.string ⟨[].toArray⟩) w := by
        exact run_bytesToString (P := P) w a 0 0 [] rfl
      simp [execOp, he, hrun, h2]
  · cases hv with
    | nilS =>
      have hrun := run_convert_bytes_string (P := P) w S D E none 0 0 u1 u3 u2
      have h2 : (Conv.bytesToString (.slice none 0 0)).run P w = .ok (.string ⟨[].toArray⟩) w := rfl
      simp [execOp, he, hrun, h2]
theorem conv2_sound {S D : TypeId} {y : Operand} {x : V} {H H' : Heap} (h : evM_conv2 ti ng e H S D y = some (x, H')) : AStep P ng ⟨dst, .convert S D y, ty, pos, af, gd⟩ e H x H' := by
  unfold evM_conv2 at h
  split at h <;> first | (cases h; done) | skip
  rename_i i i' hS hD
  split at h <;> first | (cases h; done) | skip
  · rename_i E s hu hu' hy
    split at h <;> first | (cases h; done) | skip
    rename_i j hE
    split at h <;> first | (cases h; done) | skip
    rename_i hju
    obtain ⟨hb, h⟩ := cond_some h
    cases h
    exact m_bytes ok hS hD hu hu' hE hju hy (Nat.le_of_ble_eq_true hb)
  · rename_i t n o hu hu' hy
    split at h <;> first | (cases h; done) | skip
    rename_i k cs hk hn
    obtain ⟨hb, h⟩ := cond_some h
    cases h
    simp only [Bool.and_eq_true] at hb
    exact m_unsafe ok hS hD hu hu' hk (by simpa [Nat.blt_eq] using hb.1) hy hn (by simpa [Nat.blt_eq] using hb.2)
  · rename_i E hu hu' hy
    split at h <;> first | (cases h; done) | skip
    rename_i j hE
    split at h <;> first | (cases h; done) | skip
    rename_i hju
    cases h
    exact m_noText ok hS hD hu hu' hE hju hy (.inl rfl)
  · rename_i E hu hu' hy
    split at h <;> first | (cases h; done) | skip
    rename_i j hE
    split at h <;> first | (cases h; done) | skip
    rename_i hju
    cases h
    exact m_noText ok hS hD hu hu' hE hju hy (.inr rfl)
end

end Go.Proofs.YtncoklpecffokaaGreatDoor.Cc
