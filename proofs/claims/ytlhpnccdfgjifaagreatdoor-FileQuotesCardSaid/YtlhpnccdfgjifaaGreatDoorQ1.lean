/-
  A text in quotes, as data: what stands for a byte, and for a text; what is read back of it.
-/
import Derived.Test.YtlhpnccdfgjifaaGreatDoorProg
import Derived.Test.YtlhpnccdfgjifaaGreatDoorL1
import Derived.WalkKit
import Derived.BigCall
import Derived.RegionTactic
import Derived.StillTailTactics
import Derived.Laws.IdiomStrings
namespace Go.Proofs.YtlhpnccdfgjifaaGreatDoor
open Go

def hexD (n : Nat) : UInt8 := UInt8.ofNat (if n < 10 then 48 + n else 87 + n)
def q1 (c : UInt8) : List UInt8 := if c.toNat = 34 ∨ c.toNat = 92 then [92, c] else if c.toNat < 32 ∨ 126 < c.toNat then [92, 120, hexD (c.toNat / 16), hexD (c.toNat % 16)] else [c]
def bodyS : List UInt8 → List UInt8
  | [] => []
  | c :: s => q1 c ++ bodyS s
def quoteS (s : List UInt8) : List UInt8 := 34 :: (bodyS s ++ [34])

theorem bodyS_app (s t : List UInt8) : bodyS (s ++ t) = bodyS s ++ bodyS t := by
  induction s with
  | nil => rfl
  | cons c s ih => simp [bodyS, ih]
theorem q1_len (c : UInt8) : 1 ≤ (q1 c).length ∧ (q1 c).length ≤ 4 := by
  unfold q1; split
  · simp
  · split <;> simp
theorem bodyS_len (s : List UInt8) : s.length ≤ (bodyS s).length ∧ (bodyS s).length ≤ 4 * s.length := by
  induction s with
  | nil => simp [bodyS]
  | cons c s ih => have := q1_len c; simp only [bodyS, List.length_append, List.length_cons]; omega
theorem take_next (s : List UInt8) {k : Nat} (h : k < s.length) : bodyS (s.take (k + 1)) = bodyS (s.take k) ++ q1 s[k] := by
  rw [List.take_add_one, List.getElem?_eq_getElem h, bodyS_app]
  simp [bodyS]

/-! read back -/
def orL (n : Nat) : Nat := if n / 32 % 2 = 1 then n else n + 32
def hexV (n : Nat) : Option Nat := if 48 ≤ n ∧ n ≤ 57 then some (n - 48) else if 97 ≤ orL n ∧ orL n ≤ 102 then some (orL n - 87) else none
theorem hexV_le {n x : Nat} (h : hexV n = some x) : x ≤ 15 := by
  unfold hexV at h
  split at h
  · cases h; omega
  · split at h
    · cases h; omega
    · cases h
theorem hexV_D (n : Nat) (h : n < 16) : hexV (hexD n).toNat = some n := by
  have : ∀ n < 16, hexV (hexD n).toNat = some n := by decide
  exact this n h
def unqB : Nat → List UInt8 → List UInt8
  | 0, _ => []
  | _ + 1, [] => []
  | f + 1, c :: r => if c.toNat = 92 then match r with
      | x :: r => if x.toNat = 120 then match r with
          | a :: b :: r => UInt8.ofNat (16 * (hexV a.toNat).getD 0 + (hexV b.toNat).getD 0) :: unqB f r
          | _ => []
        else x :: unqB f r
      | [] => []
    else c :: unqB f r
theorem q1_cases (c : UInt8) : (c.toNat ≠ 92 ∧ q1 c = [c]) ∨ ((c.toNat = 34 ∨ c.toNat = 92) ∧ q1 c = [92, c]) ∨ q1 c = [92, 120, hexD (c.toNat / 16), hexD (c.toNat % 16)] := by
  unfold q1
  by_cases h1 : c.toNat = 34 ∨ c.toNat = 92
  · rw [if_pos h1]; exact .inr (.inl ⟨h1, rfl⟩)
  · rw [if_neg h1]
    by_cases h2 : c.toNat < 32 ∨ 126 < c.toNat
    · rw [if_pos h2]; exact .inr (.inr rfl)
    · rw [if_neg h2]; exact .inl ⟨fun h => h1 (.inr h), rfl⟩
theorem unqB_body : ∀ (f : Nat) (t : List UInt8), (bodyS t).length < f → unqB f (bodyS t) = t
  | 0, _, h => absurd h (Nat.not_lt_zero _)
  | f + 1, [], _ => rfl
  | f + 1, c :: t, h => by
    have hl := q1_len c
    have ih := unqB_body f t (by simp only [bodyS, List.length_append] at h; omega)
    have hc : c.toNat < 256 := c.toNat_lt
    rcases q1_cases c with ⟨h1, h2⟩ | ⟨h1, h2⟩ | h2
    · simp only [bodyS, h2, List.cons_append, List.nil_append, unqB, h1, if_false, ih]
    · have e : (92 : UInt8).toNat = 92 := rfl
      have n120 : c.toNat ≠ 120 := by omega
      simp only [bodyS, h2, List.cons_append, List.nil_append, unqB, e, if_true, n120, if_false, ih]
    · have e : (92 : UInt8).toNat = 92 := rfl
      have e2 : (120 : UInt8).toNat = 120 := rfl
      simp only [bodyS, h2, List.cons_append, List.nil_append, unqB, e, e2, if_true, hexV_D _ (show c.toNat / 16 < 16 by omega), hexV_D _ (show c.toNat % 16 < 16 by omega), Option.getD_some, ih]
      congr 1
      rw [show 16 * (c.toNat / 16) + c.toNat % 16 = c.toNat by omega]
      exact UInt8.ofNat_toNat
def unqS (s : List UInt8) : Option (List UInt8) := if quoteS (unqB (s.length + 1) (s.tail.dropLast)) = s then some (unqB (s.length + 1) (s.tail.dropLast)) else none
theorem unqS_quote (t : List UInt8) : unqS (quoteS t) = some t := by
  have h : unqB ((quoteS t).length + 1) ((quoteS t).tail.dropLast) = t := by
    have : (quoteS t).tail.dropLast = bodyS t := by simp [quoteS]
    rw [this]
    exact unqB_body _ _ (by simp [quoteS]; omega)
  unfold unqS
  rw [h, if_pos rfl]
theorem unqS_iff (s t : List UInt8) : unqS s = some t ↔ quoteS t = s := by
  constructor
  · intro h
    unfold unqS at h
    split at h
    · rename_i e; cases h; exact e
    · cases h
  · rintro rfl; exact unqS_quote t
end Go.Proofs.YtlhpnccdfgjifaaGreatDoor

namespace Go.Proofs.YtlhpnccdfgjifaaGreatDoor
open Go Go.RowKit Go.Shelf

def hexT : ByteArray := ⟨#[48, 49, 50, 51, 52, 53, 54, 55, 56, 57, 97, 98, 99, 100, 101, 102]⟩
theorem hex_slice (i : Nat) (hi : i < 16) (w : World) : (Instr.slice 9 (.string hexT) (some (.int .u8 (i : Int))) (some (.int .u8 ((i : Int) + 1))) none).run Tryz.prog w = .ok (.string ⟨#[hexD i]⟩) w := by
  have h : ∀ i < 16, hexT.extract i (i + 1) = ⟨#[hexD i]⟩ := by decide
  have h1 : (i : Int) + 1 ≤ 16 := by omega
  have h2 : (0 : Int) ≤ (i : Int) + 1 := by omega
  have h4 : ((i : Int) + 1).toNat = i + 1 := by omega
  have h5 : hexT.size = 16 := rfl
  simp [Instr.slice, run_underlying Tryz.underlying9, Instr.sliceBounds, Instr.sliceBound, asIntOf, h5, h1, h2, h4, h i hi]
theorem extract_one (s : List UInt8) {k : Nat} (h : k < s.length) : ByteArray.extract ⟨s.toArray⟩ k (k + 1) = ⟨#[s[k]]⟩ := by
  apply ByteArray.ext
  rw [ByteArray.data_extract]
  apply Array.ext'
  simp
  rw [List.drop_eq_getElem_cons h]
  rfl
theorem and15 (n : Nat) (h : n < 256) : bits .and .u8 (n : Int) 15 = ((n % 16 : Nat) : Int) := by
  have : ((List.range 256).all fun n => decide (bits .and .u8 (n : Int) 15 = ((n % 16 : Nat) : Int))) = true := by kernel_rfl
  rw [List.all_eq_true] at this
  simpa using this n (List.mem_range.2 h)
set_option maxHeartbeats 4000000 in
set_option maxRecDepth 1000000 in
theorem quote_walk (s : List UInt8) (w : World) (hs : s.length ≤ 100000) :
    Calls Tryz.prog 7 #[.string ⟨s.toArray⟩] w fun e w' => e = .returned (.string ⟨(quoteS s).toArray⟩) ∧ Below w.heap.size w w' := by
  have hsz : (⟨s.toArray⟩ : ByteArray).size = s.length := rfl
  go_enter Tryz.func7, Tryz.ntmps7
  go_wp2_with fail
  refine (Tryz.Builder_WriteByte w.heap.size w.heap.size [] _ _ (Lib.fresh_isBuilder 42 5 w) (by simp) (by simp)).mono ?_
  rintro e W ⟨rfl, hI, hB⟩
  go_wp2_with fail
  go_loopw [9] (fun i wr => ∃ k : Nat, i = .int .i64 (k : Int) ∧ k ≤ s.length ∧ Lib.IsBuilder 42 5 w.heap.size w.heap.size (Lib.byteCells (34 :: bodyS (s.take k))) wr ∧ Below w.heap.size w wr) (fun i _ => s.length - (intOf i).toNat)
  case atStart =>
    exact ⟨0, rfl, Nat.zero_le _, .inr hI, ((Below.refl _ w).alloc (Nat.le_refl _) _).trans hB⟩
  case round =>
    obtain ⟨k, rfl, hk, hI, hbw⟩ := hrel
    have hb0 := bodyS_len (s.take k)
    have hl0 : (s.take k).length ≤ s.length := by rw [List.length_take]; omega
    have hbl : (Lib.byteCells (34 :: bodyS (s.take k))).length ≤ 400001 := by
      simp [Lib.byteCells]; omega
    have hsw : w.heap.size ≤ wr.heap.size := hbw.size
    by_cases hk2 : k < s.length
    · have hck : (⟨s.toArray⟩ : ByteArray)[k]'(by rw [hsz]; exact hk2) = s[k] := rfl
      have hnext := take_next s hk2
      have hsl : ∀ w, (Instr.slice 9 (.string ⟨s.toArray⟩) (some (.int .i64 (k : Int))) (some (.int .i64 ((k : Int) + 1))) none).run Tryz.prog w = .ok (.string ⟨#[s[k]]⟩) w := fun w => by
        have h1 : (k : Int) + 1 ≤ (s.length : Int) := by omega
        have h2 : (0 : Int) ≤ (k : Int) + 1 := by omega
        have h4 : ((k : Int) + 1).toNat = k + 1 := by omega
        simp [Instr.slice, run_underlying Tryz.underlying9, Instr.sliceBounds, Instr.sliceBound, asIntOf, hsz, h1, h2, h4]
        exact extract_one s hk2
      generalize hc : s[k] = c at hck hnext hsl
      have add : ∀ t : List UInt8, Lib.byteCells (34 :: bodyS (s.take k)) ++ Lib.byteCells t = Lib.byteCells (34 :: (bodyS (s.take k) ++ t)) := fun t => by simp [Lib.byteCells]
      by_cases h1 : c.toNat = 34 ∨ c.toNat = 92
      · have hq : q1 c = [92, c] := if_pos h1
        go_wp2_with fail
        all_goals first | (exfalso; simp_all; done) | (exfalso; simp_all; omega) | skip
        all_goals
          refine (Tryz.Builder_WriteString w.heap.size w.heap.size _ _ _ hI ?_ hsw).mono ?_
          · first | (simp; omega) | (simp [ByteArray.size]; omega) | omega
          rintro e W1 ⟨rfl, hI1, b1⟩
          go_wp2_with fail
          go_roundw
          case rel => exact ⟨k + 1, by simp, by omega, by rw [hnext, hq]; exact .inr (by rw [← add]; exact hI1), hbw.trans b1⟩
          case measure =>
            show s.length - ((k : Int) + 1).toNat < s.length - ((k : Int)).toNat
            omega
      by_cases h2 : c.toNat < 32 ∨ 126 < c.toNat
      · have hq : q1 c = [92, 120, hexD (c.toNat / 16), hexD (c.toNat % 16)] := by unfold q1; rw [if_neg h1, if_pos h2]
        have f1 : ∀ w, (Instr.slice 9 (.string ⟨#[48, 49, 50, 51, 52, 53, 54, 55, 56, 57, 97, 98, 99, 100, 101, 102]⟩) (some (.int .u8 ((c.toNat : Int) / 16))) (some (.int .u8 (IntKind.u8.wrap ((c.toNat : Int) / 16 + 1)))) none).run Tryz.prog w = .ok (.string ⟨#[hexD (c.toNat / 16)]⟩) w := fun w => by
          have : IntKind.u8.wrap ((c.toNat : Int) / 16 + 1) = (c.toNat / 16 : Nat) + 1 := by
            have := c.toNat_lt
            simp [IntKind.wrap, IntKind.bits, IntKind.signed]; omega
          have f0 : (c.toNat : Int) / 16 = ((c.toNat / 16 : Nat) : Int) := by omega
          rw [this, f0]
          exact hex_slice _ (by have := c.toNat_lt; omega) w
        have f2 : ∀ w, (Instr.slice 9 (.string ⟨#[48, 49, 50, 51, 52, 53, 54, 55, 56, 57, 97, 98, 99, 100, 101, 102]⟩) (some (.int .u8 (bits .and .u8 (c.toNat : Int) 15))) (some (.int .u8 (IntKind.u8.wrap (bits .and .u8 (c.toNat : Int) 15 + 1)))) none).run Tryz.prog w = .ok (.string ⟨#[hexD (c.toNat % 16)]⟩) w := fun w => by
          rw [and15 _ c.toNat_lt]
          have : IntKind.u8.wrap (((c.toNat % 16 : Nat) : Int) + 1) = ((c.toNat % 16 : Nat) : Int) + 1 := by
            simp [IntKind.wrap, IntKind.bits, IntKind.signed]; omega
          rw [this]
          exact hex_slice _ (by omega) w
        go_wp2_with fail
        all_goals first | (exfalso; simp_all; done) | (exfalso; simp_all; omega) | skip
        all_goals
          go_still_tail 14, (by kernel_rfl)
          repeat still_step
          try refine wpStill_nil ?_
          have hI2 : Lib.IsBuilder 42 5 w.heap.size w.heap.size (Lib.byteCells (34 :: bodyS (s.take k))) wr.drew := hI
          have hbw2 : Below w.heap.size w wr.drew := hbw.drew
          have hsw2 : w.heap.size ≤ wr.drew.heap.size := hsw
          go_wp2_with fail
          refine (Tryz.Builder_WriteString w.heap.size w.heap.size _ _ _ hI2 ?_ hsw2).mono ?_
          · first | (simp; omega) | (simp [ByteArray.size]; omega) | omega
          rintro e W1 ⟨rfl, hI1, b1⟩
          go_wp2_with fail
          go_roundw
          case rel => exact ⟨k + 1, by simp, by omega, by rw [hnext, hq]; exact .inr (by rw [← add]; exact hI1), hbw2.trans b1⟩
          case measure =>
            show s.length - ((k : Int) + 1).toNat < s.length - ((k : Int)).toNat
            omega
      · have hq : q1 c = [c] := by unfold q1; rw [if_neg h1, if_neg h2]
        go_wp2_with fail
        all_goals first | (exfalso; simp_all; done) | (exfalso; simp_all; omega) | skip
        all_goals
          refine (Tryz.Builder_WriteByte w.heap.size w.heap.size _ _ _ hI ?_ hsw).mono ?_
          · first | (simp; omega) | (simp [ByteArray.size]; omega) | omega
          rintro e W1 ⟨rfl, hI1, b1⟩
          go_wp2_with fail
          go_roundw
          case rel => exact ⟨k + 1, by simp, by omega, by rw [hnext, hq]; exact .inr (by rw [← add]; exact hI1), hbw.trans b1⟩
          case measure =>
            show s.length - ((k : Int) + 1).toNat < s.length - ((k : Int)).toNat
            omega
    · have hkl : k = s.length := by omega
      subst hkl
      rw [List.take_length] at hI hbl
      go_wp2_with fail
      all_goals first | (exfalso; simp_all; done) | (exfalso; simp_all; omega) | skip
      refine (Tryz.Builder_WriteByte w.heap.size w.heap.size _ _ _ hI ?_ hsw).mono ?_
      · first | (simp; omega) | omega
      rintro e W1 ⟨rfl, hI1, b1⟩
      go_wp2_with fail
      have hI2 : Lib.IsBuilder 42 5 w.heap.size w.heap.size (Lib.byteCells (quoteS s)) W1 := by
        have : Lib.byteCells (quoteS s) = Lib.byteCells (34 :: bodyS s) ++ [.int .u8 34] := by simp [Lib.byteCells, quoteS]
        rw [this]; exact .inr hI1
      refine (Tryz.Builder_String w.heap.size w.heap.size (quoteS s) W1 hI2 (by simp [quoteS])).mono ?_
      rintro e W2 ⟨rfl, b2⟩
      go_wp2_with fail
      go_ret
      exact ⟨rfl, (hbw.trans b1).trans b2⟩
end Go.Proofs.YtlhpnccdfgjifaaGreatDoor

namespace Go.Proofs.YtlhpnccdfgjifaaGreatDoor
open Go Go.RowKit Go.Shelf

def Hide (p : Prop) : Prop := p
theorem Hide.out {p : Prop} (h : Hide p) : p := h
theorem or32 (n : Nat) (h : n < 256) : bits .or .u8 (n : Int) 32 = ((orL n : Nat) : Int) ∧ orL n < 256 := by
  have : ((List.range 256).all fun n => decide (bits .or .u8 (n : Int) 32 = ((orL n : Nat) : Int)) && decide (orL n < 256)) = true := by kernel_rfl
  rw [List.all_eq_true] at this
  simpa using this n (List.mem_range.2 h)
theorem row_cell (w : World) (n : Nat) (a b : UInt8) (j : Nat) (c : UInt8) (hc : [a, b][j]? = some c) (hj : j < 2) (m : Nat) : (w.drew.alloc (.cells (bytesRow ⟨#[a, b]⟩ n) 5 (m, m + 1))).cell? ⟨w.heap.size, j, none⟩ = some (.int .u8 c.toNat) := by
  have h : (w.drew.alloc (.cells (bytesRow ⟨#[a, b]⟩ n) 5 (m, m + 1))).heap[w.heap.size]? = some (.cells (bytesRow ⟨#[a, b]⟩ n) 5 (m, m + 1)) := by
    show (w.heap.push _)[w.heap.size]? = _
    simp
  unfold World.cell?
  rw [h]
  match j, hj with
  | 0, _ => cases hc; simp [bytesRow, Array.getElem?_append]
  | 1, _ => cases hc; simp [bytesRow, Array.getElem?_append]
theorem lower_walk (n : Nat) (hn : n < 256) (w : World) : Calls Tryz.prog 98 #[.int .u8 (n : Int)] w fun e w' => e = .returned (.int .u8 (orL n : Int)) ∧ w' = w := by
  go_enter Tryz.func98, Tryz.ntmps98
  go_wp2
  go_ret
  exact ⟨by rw [(or32 n hn).1]; rfl, rfl⟩

set_option maxHeartbeats 4000000 in
set_option maxRecDepth 1000000 in
theorem parse_walk (a b : UInt8) (w : World) :
    Calls Tryz.prog 52 #[.string ⟨#[a, b]⟩, .int .i64 16, .int .i64 8] w fun e w' => ∃ v u, e = .returned (.tuple #[v, u]) ∧ Below w.heap.size w w' ∧
      ((∃ x y : Nat, hexV a.toNat = some x ∧ hexV b.toNat = some y ∧ v = .int .u64 ((16 * x + y : Nat) : Int) ∧ u = .nilIface) ∨ ((hexV a.toNat = none ∨ hexV b.toNat = none) ∧ v = .int .u64 0 ∧ u = .iface 175 (.int .i64 2))) := by
  go_enter Tryz.func52, Tryz.ntmps52
  have hcv := run_bytes_of_string (P := Tryz.prog) w 9 40 5 ⟨#[a, b]⟩ Tryz.underlying9 Tryz.underlying40 Tryz.underlying5
  have h2 : (⟨#[a, b]⟩ : ByteArray).size = 2 := rfl
  rw [h2] at hcv
  generalize hW : (w.drew.alloc (.cells (bytesRow ⟨#[a, b]⟩ (grownCap w 2 0 5)) 5 ((bytesRow ⟨#[a, b]⟩ (grownCap w 2 0 5)).size, (bytesRow ⟨#[a, b]⟩ (grownCap w 2 0 5)).size + 1))) = W at hcv
  have hB : Below w.heap.size w W := by rw [← hW]; exact ((Below.refl _ w).drew).alloc (Nat.le_refl _) _
  have hc0 : W.cell? ⟨w.heap.size, 0, none⟩ = some (.int .u8 a.toNat) := by
    rw [← hW]; exact row_cell w _ a b 0 _ rfl (by decide) _
  have hc1 : W.cell? ⟨w.heap.size, 1, none⟩ = some (.int .u8 b.toNat) := by
    rw [← hW]; exact row_cell w _ a b 1 _ rfl (by decide) _
  clear hW
  go_wp2_with fail
  have L : ∀ (m : Nat) (W' : World), m < 256 → Calls Tryz.prog 98 #[.int .u8 (m : Int)] W' fun e w' => e = .returned (.int .u8 (orL m : Int)) ∧ w' = W' := fun m W' h => lower_walk m h W'
  go_loopw [12, 13, 101] (fun z n i wr => z = .bool false ∧ wr = W ∧ ((n = .int .u64 0 ∧ i = .int .i64 0) ∨ (∃ x : Nat, hexV a.toNat = some x ∧ n = .int .u64 (x : Int) ∧ i = .int .i64 1) ∨ (∃ x y : Nat, hexV a.toNat = some x ∧ hexV b.toNat = some y ∧ n = .int .u64 ((16 * x + y : Nat) : Int) ∧ i = .int .i64 2))) (fun _ n i _ => 2 - (intOf i).toNat)
  case atStart => exact ⟨rfl, rfl, .inl ⟨rfl, rfl⟩⟩
  case round =>
    obtain ⟨rfl, rfl, hst⟩ := hrel
    have la := a.toNat_lt
    have lb := b.toNat_lt
    rcases hst with ⟨rfl, rfl⟩ | ⟨x, hx, rfl, rfl⟩ | ⟨x, y, hx, hy, rfl, rfl⟩
    · by_cases d1 : 48 ≤ a.toNat ∧ a.toNat ≤ 57
      · have hv : hexV a.toNat = some (a.toNat - 48) := by simp [hexV, d1]
        go_wp2_with fail
        all_goals first | (exfalso; simp_all; done) | (exfalso; simp_all; omega) | skip
        exact ⟨⟨rfl, trivial, .inr (.inl ⟨_, hv, by congr 1; omega, rfl⟩)⟩, by decide⟩
      by_cases d2 : 97 ≤ orL a.toNat ∧ orL a.toNat ≤ 122
      · have n95 : ¬ (a.toNat : Int) = 95 := fun h => by
          have : a.toNat = 95 := by omega
          rw [this] at d2; revert d2; decide
        by_cases d3 : orL a.toNat ≤ 102
        · have hv : hexV a.toNat = some (orL a.toNat - 87) := by unfold hexV; rw [if_neg d1, if_pos ⟨d2.1, d3⟩]
          go_wp2_with (go_at_call 98; refine (L _ _ la).mono ?_; rintro e w' ⟨rfl, rfl⟩)
          all_goals first | (exfalso; simp_all; done) | (exfalso; simp_all; omega) | skip
          all_goals exact ⟨⟨rfl, trivial, .inr (.inl ⟨_, hv, by congr 1; omega, rfl⟩)⟩, by decide⟩
        · have hv : hexV a.toNat = none := by unfold hexV; rw [if_neg d1, if_neg (fun q => d3 q.2)]
          go_wp2_with (go_at_call 98; refine (L _ _ la).mono ?_; rintro e w' ⟨rfl, rfl⟩)
          all_goals first | (exfalso; simp_all; done) | (exfalso; simp_all; omega) | skip
          all_goals
            go_ret2
            first | exact ⟨_, _, rfl, hB, .inr ⟨.inl hv, rfl, rfl⟩⟩ | exact ⟨_, _, rfl, hB, .inr ⟨rfl, rfl⟩⟩ | exact ⟨_, _, rfl, hB, rfl, rfl⟩ | exact ⟨_, _, rfl, hB, .inr ⟨hv, rfl, rfl⟩⟩
      · have hv : hexV a.toNat = none := by unfold hexV; rw [if_neg d1, if_neg (fun q => d2 ⟨q.1, by omega⟩)]
        go_wp2_with (go_at_call 98; first | (refine (L _ _ la).mono ?_; rintro e w' ⟨rfl, rfl⟩) | (refine (L 95 _ (by decide)).mono ?_; rintro e w' ⟨rfl, rfl⟩))
        all_goals first | (exfalso; simp_all; done) | (exfalso; simp_all; omega) | skip
        all_goals
          go_ret2
          first | exact ⟨_, _, rfl, hB, .inr ⟨.inl hv, rfl, rfl⟩⟩ | exact ⟨_, _, rfl, hB, .inr ⟨rfl, rfl⟩⟩ | exact ⟨_, _, rfl, hB, rfl, rfl⟩ | exact ⟨_, _, rfl, hB, .inr ⟨hv, rfl, rfl⟩⟩
    · have hx15 := hexV_le hx
      have hx : Hide (hexV a.toNat = some x) := hx
      have q0 : (15 : Int) < 1152921504606846976 := by decide
      generalize (1152921504606846976 : Int) = BIG at *
      have q2 : (x : Int) < BIG := by omega
      have q1 : ¬ (BIG ≤ (x : Int)) := by omega
      have q3 : IntKind.u64.wrap ((x : Int) * 16) = (x : Int) * 16 := by simp [IntKind.wrap, IntKind.bits, IntKind.signed]; omega
      have q5 : (x : Int) ≤ 15 := by omega
      clear hx15
      by_cases d1 : 48 ≤ b.toNat ∧ b.toNat ≤ 57
      · have hv : Hide (hexV b.toNat = some (b.toNat - 48)) := by simp [Hide, hexV, d1]
        have q4 : IntKind.u64.wrap ((x : Int) * 16 + ((b.toNat : Int) - 48)) = (x : Int) * 16 + ((b.toNat : Int) - 48) := by simp [IntKind.wrap, IntKind.bits, IntKind.signed]; omega
        go_wp2_with fail
        all_goals first | (exfalso; simp_all; done) | (exfalso; simp_all; omega) | skip
        (refine ⟨⟨rfl, trivial, .inr (.inr ⟨x, _, hx, Hide.out hv, ?_, rfl⟩)⟩, by decide⟩; refine congrArg _ ?_; omega)
      by_cases d2 : 97 ≤ orL b.toNat ∧ orL b.toNat ≤ 122
      · have n95 : ¬ (b.toNat : Int) = 95 := fun h => by
          have : b.toNat = 95 := by omega
          rw [this] at d2; revert d2; decide
        by_cases d3 : orL b.toNat ≤ 102
        · have hv : Hide (hexV b.toNat = some (orL b.toNat - 87)) := by unfold Hide hexV; rw [if_neg d1, if_pos ⟨d2.1, d3⟩]
          have q4 : IntKind.u64.wrap ((x : Int) * 16 + ((orL b.toNat : Int) - 97 + 10)) = (x : Int) * 16 + ((orL b.toNat : Int) - 97 + 10) := by simp [IntKind.wrap, IntKind.bits, IntKind.signed]; omega
          go_wp2_with (go_at_call 98; refine (L _ _ lb).mono ?_; rintro e w' ⟨rfl, rfl⟩)
          all_goals first | (exfalso; simp_all; done) | (exfalso; simp_all; omega) | skip
          all_goals (refine ⟨⟨rfl, trivial, .inr (.inr ⟨x, _, hx, Hide.out hv, ?_, rfl⟩)⟩, by decide⟩; refine congrArg _ ?_; omega)
        · have hv : Hide (hexV b.toNat = none) := by unfold Hide hexV; rw [if_neg d1, if_neg (fun q => d3 q.2)]
          go_wp2_with (go_at_call 98; refine (L _ _ lb).mono ?_; rintro e w' ⟨rfl, rfl⟩)
          all_goals first | (exfalso; simp_all; done) | (exfalso; simp_all; omega) | skip
          all_goals
            go_ret2
            first | exact ⟨_, _, rfl, hB, .inr ⟨.inr (Hide.out hv), rfl, rfl⟩⟩ | exact ⟨_, _, rfl, hB, .inr ⟨rfl, rfl⟩⟩ | exact ⟨_, _, rfl, hB, rfl, rfl⟩ | exact ⟨_, _, rfl, hB, .inr ⟨hv, rfl, rfl⟩⟩
      · have hv : Hide (hexV b.toNat = none) := by unfold Hide hexV; rw [if_neg d1, if_neg (fun q => d2 ⟨q.1, by omega⟩)]
        go_wp2_with (go_at_call 98; first | (refine (L _ _ lb).mono ?_; rintro e w' ⟨rfl, rfl⟩) | (refine (L 95 _ (by decide)).mono ?_; rintro e w' ⟨rfl, rfl⟩))
        all_goals first | (exfalso; simp_all; done) | (exfalso; simp_all; omega) | skip
        all_goals
          go_ret2
          first | exact ⟨_, _, rfl, hB, .inr ⟨.inr (Hide.out hv), rfl, rfl⟩⟩ | exact ⟨_, _, rfl, hB, .inr ⟨rfl, rfl⟩⟩ | exact ⟨_, _, rfl, hB, rfl, rfl⟩ | exact ⟨_, _, rfl, hB, .inr ⟨hv, rfl, rfl⟩⟩
    · have hx15 := hexV_le hx
      have hy15 := hexV_le hy
      go_wp2_with fail
      all_goals first | (exfalso; simp_all; done) | (exfalso; simp_all; omega) | skip
      all_goals
        go_ret2
        exact ⟨_, _, rfl, hB, .inl ⟨x, y, hx, hy, by first | rfl | (congr 1), rfl⟩⟩
end Go.Proofs.YtlhpnccdfgjifaaGreatDoor

namespace Go.Proofs.YtlhpnccdfgjifaaGreatDoor
open Go Go.RowKit Go.Shelf

def ErrCell (w : World) : Prop := ∃ ev, w.cell? ⟨2, 0, none⟩ = some ev ∧ (ev = .nilIface ∨ ∃ te pe, ev = .iface te pe)
theorem ErrCell.up {w w' : World} (h : ErrCell w) (k : Below w.heap.size w w') : ErrCell w' := by
  obtain ⟨ev, h1, h2⟩ := h
  exact ⟨ev, (k.cell (Lib.lt_of_cell h1)).trans h1, h2⟩

set_option maxHeartbeats 4000000 in
set_option maxRecDepth 1000000 in
theorem parse16_walk (a b : UInt8) (w : World) (he : ErrCell w) :
    Calls Tryz.prog 18 #[.string ⟨#[a, b]⟩, .int .i64 16, .int .i64 8] w fun e w' => ∃ v u, e = .returned (.tuple #[v, u]) ∧ Below w.heap.size w w' ∧
      ((∃ x y : Nat, hexV a.toNat = some x ∧ hexV b.toNat = some y ∧ v = .int .u64 ((16 * x + y : Nat) : Int) ∧ u = .nilIface) ∨ ((hexV a.toNat = none ∨ hexV b.toNat = none) ∧ ∃ N, u = .iface 178 (.pointer (some ⟨N, 0, none⟩)))) := by
  go_enter Tryz.func18, Tryz.ntmps18
  go_wp2_with fail
  refine (parse_walk a b w).mono ?_
  rintro e W ⟨v, u, rfl, hB, ⟨x, y, hx, hy, rfl, rfl⟩ | ⟨hn, rfl, rfl⟩⟩
  · go_wp2_with fail
    go_ret2
    exact ⟨_, _, rfl, hB, .inl ⟨x, y, hx, hy, rfl, rfl⟩⟩
  · go_wp2_with fail
    obtain ⟨ev, h1, h2⟩ := he.up hB
    refine (Tryz.strconv_toError_syntax _ _ _ _ ev W (by show 2 ≤ _; decide) h1 h2).mono ?_
    rintro e W2 ⟨N, rfl, h3, _, h4⟩
    go_wp2_with fail
    go_ret2
    exact ⟨_, _, rfl, hB.trans (h4.mono hB.size), .inr ⟨hn, N, rfl⟩⟩

def Left (s bs l : List UInt8) : Prop := ∀ t, quoteS t = s → ∃ t2, t = bs ++ t2 ∧ l = bodyS t2

theorem Left.step {s bs l : List UInt8} {c : UInt8} (h : Left s bs (c :: l)) {t : List UInt8} (ht : quoteS t = s) : ∃ d t2, t = bs ++ d :: t2 ∧ c :: l = q1 d ++ bodyS t2 := by
  obtain ⟨t2, h1, h2⟩ := h t ht
  cases t2 with
  | nil => simp [bodyS] at h2
  | cons d t2 => exact ⟨d, t2, h1, h2⟩
theorem Left.one {s bs l : List UInt8} {c : UInt8} (h : Left s bs (c :: l)) (hc : c.toNat ≠ 92) : Left s (bs ++ [c]) l := fun t ht => by
  obtain ⟨d, t2, h1, h2⟩ := h.step ht
  rcases q1_cases d with ⟨_, e⟩ | ⟨_, e⟩ | e <;> rw [e] at h2 <;> simp at h2
  · obtain ⟨rfl, rfl⟩ := h2; exact ⟨t2, by simp [h1], rfl⟩
  · rw [h2.1] at hc; exact absurd rfl hc
  · rw [h2.1] at hc; exact absurd rfl hc
theorem Left.two {s bs r : List UInt8} {c x : UInt8} (h : Left s bs (c :: x :: r)) (hc : c.toNat = 92) (hx : x.toNat ≠ 120 ∨ r.length < 2) : Left s (bs ++ [x]) r := fun t ht => by
  obtain ⟨d, t2, h1, h2⟩ := h.step ht
  rcases q1_cases d with ⟨q, e⟩ | ⟨_, e⟩ | e <;> rw [e] at h2 <;> simp at h2
  · rw [← h2.1] at q; exact absurd hc q
  · obtain ⟨_, rfl, rfl⟩ := h2; exact ⟨t2, by simp [h1], rfl⟩
  · obtain ⟨_, rfl, rfl⟩ := h2
    rcases hx with hx | hx
    · exact absurd rfl hx
    · simp at hx; omega
theorem Left.hex {s bs r : List UInt8} {c k a b : UInt8} (h : Left s bs (c :: k :: a :: b :: r)) (hc : c.toNat = 92) (hk : k.toNat = 120) {t : List UInt8} (ht : quoteS t = s) : ∃ d t2, t = bs ++ d :: t2 ∧ hexV a.toNat = some (d.toNat / 16) ∧ hexV b.toNat = some (d.toNat % 16) ∧ r = bodyS t2 := by
  obtain ⟨d, t2, h1, h2⟩ := h.step ht
  have hd : d.toNat < 256 := d.toNat_lt
  rcases q1_cases d with ⟨q, e⟩ | ⟨q, e⟩ | e <;> rw [e] at h2 <;> simp at h2
  · rw [← h2.1] at q; exact absurd hc q
  · obtain ⟨_, rfl, _⟩ := h2; omega
  · obtain ⟨_, _, rfl, rfl, rfl⟩ := h2
    exact ⟨d, t2, h1, hexV_D _ (by omega), hexV_D _ (by omega), rfl⟩
theorem Left.lone {s bs : List UInt8} {c : UInt8} (h : Left s bs [c]) (hc : c.toNat = 92) (t : List UInt8) : quoteS t ≠ s := fun ht => by
  obtain ⟨d, t2, h1, h2⟩ := h.step ht
  rcases q1_cases d with ⟨q, e⟩ | ⟨_, e⟩ | e <;> rw [e] at h2 <;> simp at h2
  rw [← h2.1] at q; exact absurd hc q
def unqR (s : List UInt8) : Value := match unqS s with | some t => .tuple #[.string ⟨t.toArray⟩, .bool true] | none => .tuple #[.string ⟨#[]⟩, .bool false]
theorem unqR_no {s : List UInt8} (h : ∀ t, quoteS t ≠ s) : unqR s = .tuple #[.string ⟨#[]⟩, .bool false] := by
  have : unqS s = none := by
    cases h2 : unqS s with
    | none => rfl
    | some t => exact absurd ((unqS_iff s t).1 h2) (h t)
  unfold unqR; rw [this]
theorem unqR_yes {s t : List UInt8} (h : quoteS t = s) : unqR s = .tuple #[.string ⟨t.toArray⟩, .bool true] := by unfold unqR; rw [(unqS_iff s t).2 h]
theorem ext_drop (l : List UInt8) (n : Nat) : ByteArray.extract ⟨l.toArray⟩ n l.length = ⟨(l.drop n).toArray⟩ := by
  apply ByteArray.ext
  rw [ByteArray.data_extract]
  apply Array.ext'
  simp
  exact List.take_of_length_le (by simp)
theorem BuilderAt.below {T e : TypeId} {B b : Nat} {p : Value} {bs : List Value} {w w' : World} (h : Lib.BuilderAt T e B b p bs w) (k : Below w.heap.size w w') : Lib.BuilderAt T e B b p bs w' := by
  have hlt := h.lt
  obtain ⟨hB, v, hb, hown, hne⟩ := h
  refine ⟨hB, v, (k.block b hlt).trans hb, hown.kept (row := none) ⟨k.os, k.tape, k.output, k.size, fun j hj _ => k.block j hj⟩ ?_, hne⟩
  cases v.ownBlock with
  | none => exact .inl rfl
  | some x => exact .inr (by simp)
theorem IsBuilder.below {T e : TypeId} {B b : Nat} {bs : List Value} {w w' : World} (h : Lib.IsBuilder T e B b bs w) (k : Below w.heap.size w w') : Lib.IsBuilder T e B b bs w' := h.imp (fun q => BuilderAt.below q k) (fun q => BuilderAt.below q k)
theorem ext_two (x y a b : UInt8) (r : List UInt8) : ByteArray.extract ⟨(x :: y :: a :: b :: r).toArray⟩ 2 4 = ⟨#[a, b]⟩ := by
  apply ByteArray.ext
  rw [ByteArray.data_extract]
  apply Array.ext'
  simp

set_option maxHeartbeats 4000000 in
set_option maxRecDepth 1000000 in
theorem unquote_walk (s : List UInt8) (w : World) (hs : s.length ≤ 100000) (he : ErrCell w) :
    Calls Tryz.prog 5 #[.string ⟨s.toArray⟩] w fun e w' => e = .returned (unqR s) ∧ Below w.heap.size w w' := by
  have hsz : (⟨s.toArray⟩ : ByteArray).size = s.length := rfl
  go_enter Tryz.func5, Tryz.ntmps5
  go_wp2_with fail
  refine (Tryz.strings_CutPrefix _ _ w).mono ?_
  rintro e w1 ⟨rfl, rfl⟩
  have e1 : (⟨s.toArray⟩ : ByteArray).data.toList = s := rfl
  have e2 : (⟨#[34]⟩ : ByteArray).data.toList = [34] := rfl
  rw [e1, e2]
  cases h1 : Lib.hasPrefix s [34] with
  | false =>
    have hn := unqR_no (s := s) fun t h => by rw [← h] at h1; simp [Lib.hasPrefix, quoteS] at h1
    go_wp2_with fail
    go_ret2
    exact ⟨by rw [hn]; rfl, Below.refl _ _⟩
  | true =>
    obtain ⟨r, rfl⟩ : ∃ r, s = 34 :: r := by
      cases s with
      | nil => simp [Lib.hasPrefix] at h1
      | cons c r => simp [Lib.hasPrefix] at h1; exact ⟨r, by rw [h1]⟩
    have ht : Lib.trimPrefix (34 :: r) [34] = r := by unfold Lib.trimPrefix; rw [h1]; rfl
    rw [ht]
    go_wp2_with fail
    refine (Tryz.strings_CutSuffix _ _ w1 (by show r.length ≤ _; simp at hs; omega)).mono ?_
    rintro e w2 ⟨rfl, rfl⟩
    have e3 : (⟨r.toArray⟩ : ByteArray).data.toList = r := rfl
    have e4 : (⟨#[34]⟩ : ByteArray).data.toList = [34] := rfl
    rw [e3, e4]
    cases h2 : Lib.hasSuffix r [34] with
    | false =>
      have hn := unqR_no (s := 34 :: r) fun t h => by
        have : r = bodyS t ++ [34] := by simpa [quoteS] using h.symm
        rw [this] at h2
        have : Lib.hasSuffix (bodyS t ++ [34]) [34] = true := List.isSuffixOf_iff_suffix.2 ⟨bodyS t, rfl⟩
        rw [this] at h2; cases h2
      go_wp2_with fail
      go_ret2
      exact ⟨by rw [hn]; rfl, Below.refl _ _⟩
    | true =>
      obtain ⟨m, rfl⟩ : ∃ m, r = m ++ [34] := by
        simp [Lib.hasSuffix] at h2
        obtain ⟨m, hm⟩ := h2
        exact ⟨m, hm.symm⟩
      have ht2 : Lib.trimSuffix (m ++ [34]) [34] = m := by unfold Lib.trimSuffix; rw [h2]; simp
      rw [ht2]
      simp at hs
      go_wp2_with fail
      go_loopw [4] (fun i wr => ∃ l bs : List UInt8, i = .string ⟨l.toArray⟩ ∧ bs.length + l.length ≤ m.length ∧ Left (34 :: (m ++ [34])) bs l ∧ Lib.IsBuilder 42 5 w2.heap.size w2.heap.size (Lib.byteCells bs) wr ∧ Below w2.heap.size w2 wr) (fun i _ => match i with | .string x => x.size | _ => 0)
      case atStart =>
        refine ⟨m, [], rfl, by simp, fun t h => ⟨t, rfl, ?_⟩, Lib.fresh_isBuilder 42 5 w2, (Below.refl _ w2).alloc (Nat.le_refl _) _⟩
        have : bodyS t ++ [34] = m ++ [34] := by simpa [quoteS] using h
        exact (List.append_cancel_right this).symm
      case round =>
        obtain ⟨l, bs, rfl, hlen, hleft, hI, hbw⟩ := hrel
        cases l with
        | nil =>
          have hfin : ∀ t, quoteS t = 34 :: (m ++ [34]) → t = bs := fun t h => by
            obtain ⟨t2, h1, h2⟩ := hleft t h
            cases t2 with
            | nil => simpa using h1
            | cons c t2 => have := (q1_len c).1; simp [bodyS] at h2; have h3 := h2.1; rw [h3] at this; simp at this
          go_wp2_with fail
          refine (Tryz.Builder_String_any w2.heap.size w2.heap.size bs wr hI hbw.size).mono ?_
          rintro e W1 ⟨rfl, b1⟩
          go_wp2_with fail
          refine (quote_walk bs W1 (by simp at hlen; omega)).mono ?_
          rintro e W2 ⟨rfl, b2⟩
          by_cases hq : quoteS bs = 34 :: (m ++ [34])
          · have hn := unqR_yes hq
            rw [hq]
            go_wp2_with fail
            go_ret2
            exact ⟨by rw [hn]; rfl, (hbw.trans b1).trans (b2.mono (hbw.trans b1).size)⟩
          · have hn := unqR_no fun t h => hq (by rw [← hfin t h]; exact h)
            have hq2 : (quoteS bs == 34 :: (m ++ [34])) = false := by simpa using hq
            go_wp2_with fail
            all_goals first | (exfalso; simp_all; done) | skip
            go_ret2
            exact ⟨by rw [hn]; rfl, (hbw.trans b1).trans (b2.mono (hbw.trans b1).size)⟩
        | cons c l =>
          have hbl : (Lib.byteCells bs).length ≤ 100000 := by simp [Lib.byteCells] at hlen ⊢; omega
          have hsw : w2.heap.size ≤ wr.heap.size := hbw.size
          have he2 : ErrCell wr := he.up hbw
          have hck : (⟨(c :: l).toArray⟩ : ByteArray)[0]'(by show 0 < (c :: l).toArray.size; simp) = c := rfl
          have fin : ∀ (W1 : World) (d : UInt8) (n : Nat) (v : Int), v = d.toNat → 1 ≤ n → n ≤ (c :: l).length → Left (34 :: (m ++ [34])) (bs ++ [d]) ((c :: l).drop n) → Lib.BuilderAt 42 5 w2.heap.size w2.heap.size (.pointer (some ⟨w2.heap.size, 0, none⟩)) (Lib.byteCells bs ++ [.int .u8 v]) W1 → Below w2.heap.size wr W1 →
              (∃ l_1 bs, Value.string (ByteArray.extract ⟨(c :: l).toArray⟩ n (l.length + 1)) = Value.string ⟨l_1.toArray⟩ ∧ bs.length + l_1.length ≤ m.length ∧ Left (34 :: (m ++ [34])) bs l_1 ∧ Lib.IsBuilder 42 5 w2.heap.size w2.heap.size (Lib.byteCells bs) W1 ∧ Below w2.heap.size w2 W1) ∧
              (match Value.string (ByteArray.extract ⟨(c :: l).toArray⟩ n (l.length + 1)) with | .string x => x.size | _ => 0) < (match Value.string ⟨(c :: l).toArray⟩ with | .string x => x.size | _ => 0) := by
            intro W1 d n v hv h1 h2 h3 h4 h5
            have e : ByteArray.extract ⟨(c :: l).toArray⟩ n (l.length + 1) = ⟨((c :: l).drop n).toArray⟩ := ext_drop (c :: l) n
            rw [e]
            refine ⟨⟨(c :: l).drop n, bs ++ [d], rfl, ?_, h3, .inr ?_, hbw.trans h5⟩, ?_⟩
            · simp at hlen h2 ⊢; omega
            · have : Lib.byteCells (bs ++ [d]) = Lib.byteCells bs ++ [.int .u8 v] := by rw [hv]; simp [Lib.byteCells]
              rw [this]; exact h4
            · show ((c :: l).drop n).toArray.size < (c :: l).toArray.size
              simp at h2 ⊢; omega
          by_cases d1 : c.toNat = 92
          · have hc92 : c = 92 := UInt8.toNat_inj.1 d1
            subst hc92
            have P17 : ∀ (l : List UInt8) (W : World), Calls Tryz.prog 17 #[.string ⟨l.toArray⟩, .string ⟨#[92, 120]⟩] W fun e w' => e = .returned (.bool (Lib.hasPrefix l [92, 120])) ∧ w' = W := fun l W => Tryz.strings_HasPrefix ⟨l.toArray⟩ ⟨#[92, 120]⟩ W
            cases l with
            | nil =>
              have hno := hleft.lone d1
              have hp : Lib.hasPrefix [92] [92, 120] = false := by decide
              go_wp2_with (first | (go_at_call 17; refine (P17 [92] _).mono ?_; rintro e w' ⟨rfl, hw'⟩; subst w'; rw [hp]) | fail)
              all_goals first | (exfalso; simp_all; done) | skip
              refine (Tryz.Builder_WriteByte w2.heap.size w2.heap.size _ _ wr hI (by omega) hsw).mono ?_
              rintro e W1 ⟨rfl, hI1, b1⟩
              go_wp2_with fail
              exact fin W1 92 1 _ rfl (Nat.le_refl _) (by simp) (fun t ht => absurd ht (hno t)) hI1 b1
            | cons x r =>
              have two : x.toNat ≠ 120 ∨ r.length < 2 → Left (34 :: (m ++ [34])) (bs ++ [x]) r := hleft.two d1
              by_cases dx : x.toNat = 120 ∧ 2 ≤ r.length
              · obtain ⟨dx, dr⟩ := dx
                have hx120 : x = 120 := UInt8.toNat_inj.1 dx
                subst hx120
                obtain ⟨a, b, r, rfl⟩ : ∃ a b r', r = a :: b :: r' := by
                  match r, dr with
                  | a :: b :: r', _ => exact ⟨a, b, r', rfl⟩
                have hex := fun t ht => Left.hex (t := t) hleft d1 dx ht
                have hp : Lib.hasPrefix (92 :: 120 :: a :: b :: r) [92, 120] = true := by simp [Lib.hasPrefix]
                have ex : ByteArray.extract ⟨(92 :: 120 :: a :: b :: r).toArray⟩ 2 4 = ⟨#[a, b]⟩ := ext_two _ _ _ _ _
                go_wp2_with (first | (go_at_call 17; refine (P17 (92 :: 120 :: a :: b :: r) _).mono ?_; rintro e w' ⟨rfl, hw'⟩; subst w'; rw [hp]) | fail)
                all_goals first | (exfalso; simp_all; done) | (exfalso; simp_all; omega) | skip
                refine (parse16_walk a b wr he2).mono ?_
                rintro e W0 ⟨v, u, rfl, hB0, ⟨p, q, hp1, hq1, rfl, rfl⟩ | ⟨hn, N, rfl⟩⟩
                · have hpl := hexV_le hp1
                  have hql := hexV_le hq1
                  have hI0 := IsBuilder.below hI hB0
                  have hw8 : IntKind.u8.wrap (((16 * p + q : Nat) : Int)) = ((16 * p + q : Nat) : Int) := by simp [IntKind.wrap, IntKind.bits, IntKind.signed]; omega
                  have hd : (UInt8.ofNat (16 * p + q)).toNat = 16 * p + q := by simp; omega
                  have hL : Left (34 :: (m ++ [34])) (bs ++ [UInt8.ofNat (16 * p + q)]) r := fun t ht => by
                    obtain ⟨d, t2, q1, q2, q3, q4⟩ := hex t ht
                    rw [hp1] at q2; rw [hq1] at q3
                    have e1 := Option.some.inj q2; have e2 := Option.some.inj q3
                    refine ⟨t2, ?_, q4⟩
                    have : UInt8.ofNat (16 * p + q) = d := by rw [show 16 * p + q = d.toNat by omega]; exact UInt8.ofNat_toNat
                    rw [this]; simp [q1]
                  generalize hV : 16 * p + q = V at *
                  go_wp2_with fail
                  refine (Tryz.Builder_WriteByte w2.heap.size w2.heap.size _ _ W0 hI0 (by omega) (Nat.le_trans hsw hB0.size)).mono ?_
                  rintro e W1 ⟨rfl, hI1, b1⟩
                  go_wp2_with fail
                  exact fin W1 (UInt8.ofNat V) 4 _ (by rw [hd]) (by decide) (by simp) hL hI1 ((hB0.mono hsw).trans b1)
                · have hno := unqR_no (s := 34 :: (m ++ [34])) fun t ht => by
                    obtain ⟨d, t2, _, q2, q3, _⟩ := hex t ht
                    rcases hn with hn | hn
                    · rw [hn] at q2; cases q2
                    · rw [hn] at q3; cases q3
                  go_wp2_with fail
                  all_goals first | (exfalso; simp_all; done) | skip
                  go_ret2
                  exact ⟨by rw [hno]; rfl, hbw.trans (hB0.mono hsw)⟩
              · have h2 := two (by omega)
                have hx1 : (⟨(92 :: x :: r).toArray⟩ : ByteArray)[1]'(by show 1 < (92 :: x :: r).toArray.size; simp) = x := rfl
                have hpl : Lib.hasPrefix (92 :: x :: r) [92, 120] = true → r.length < 2 := fun h => by
                  have : x.toNat = 120 := by
                    simp [Lib.hasPrefix] at h; rw [← h]; rfl
                  omega
                have i1 : (1 : Int) < (r.length : Int) + 1 + 1 := by omega
                have i2 : 1 < r.length + 1 + 1 := by omega
                cases hp : Lib.hasPrefix (92 :: x :: r) [92, 120]
                all_goals
                  go_wp2_with (first | (go_at_call 17; refine (P17 (92 :: x :: r) _).mono ?_; rintro e w' ⟨rfl, hw'⟩; subst w'; rw [hp]) | fail)
                  all_goals first | (exfalso; simp_all; done) | (exfalso; simp_all; omega) | skip
                  go_still (by kernel_rfl)
                  have hI2 : Lib.IsBuilder 42 5 w2.heap.size w2.heap.size (Lib.byteCells bs) wr.drew := hI
                  have hsw2 : w2.heap.size ≤ wr.drew.heap.size := hsw
                  have b0 : Below w2.heap.size wr wr.drew := (Below.refl _ wr).drew
                  go_wp2_with fail
                  refine (Tryz.Builder_WriteByte w2.heap.size w2.heap.size _ _ wr.drew hI2 (by omega) hsw2).mono ?_
                  rintro e W1 ⟨rfl, hI1, b1⟩
                  go_wp2_with fail
                  exact fin W1 x 2 _ rfl (by decide) (by simp) h2 hI1 (b0.trans b1)
          · go_wp2_with fail
            all_goals first | (exfalso; simp_all; done) | skip
            refine (Tryz.Builder_WriteByte w2.heap.size w2.heap.size _ _ wr hI (by omega) hsw).mono ?_
            rintro e W1 ⟨rfl, hI1, b1⟩
            go_wp2_with fail
            exact fin W1 c 1 _ rfl (Nat.le_refl _) (by simp) (hleft.one d1) hI1 b1
end Go.Proofs.YtlhpnccdfgjifaaGreatDoor
