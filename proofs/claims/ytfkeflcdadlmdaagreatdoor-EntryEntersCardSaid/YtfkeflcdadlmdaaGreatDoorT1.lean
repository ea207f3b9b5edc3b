import Derived.Test.YtfkeflcdadlmdaaGreatDoorX1
import Derived.Lib.TrimUEq
import Derived.Shelf.GgClosure.StringsTrimFunc
import Derived.Test.YtfkeflcdadlmdaaGreatDoorQdk
namespace Go.Proofs.YtfkeflcdadlmdaaGreatDoor
open Go Go.RowKit

theorem acK (s p : List UInt8) : (Lib.trimPrefix s p).length ≤ s.length := by
 unfold Lib.trimPrefix
 split
 ·rw [List.length_drop]; omega
 ·exact Nat.le_refl _
theorem acJ (s p : List UInt8) : (Lib.trimSuffix s p).length ≤ s.length := by
 unfold Lib.trimSuffix
 split
 ·rw [List.length_take]; omega
 ·exact Nat.le_refl _
theorem ayG (s p : List UInt8) : (Lib.cut s p).1.length ≤ s.length ∧ (Lib.cut s p).2.1.length ≤ s.length := by
 unfold Lib.cut
 split
 ·simp only [List.length_take, List.length_drop]; omega
 ·exact ⟨Nat.le_refl _, Nat.zero_le _⟩
theorem cutPrefixA (s p : List UInt8) (H : Heap) : ACall Tryz.prog 29 [.str s, .str p] H (fun y H' => y = .tuple [.str (Lib.trimPrefix s p), .bool (Lib.hasPrefix s p)] ∧ H' = H) := by
 refine ACall.lib _ fun g vs w k st => ?_
 obtain ⟨v, u, rfl, hv, hu⟩ := relvs2 k
 cases hv with | str _ hs => ?_
 cases hu
 refine (Tryz.strings_CutPrefix ⟨s.toArray⟩ ⟨p.toArray⟩ w).mono ?_
 rintro e w' ⟨rfl, rfl⟩
 exact ⟨_, rfl, RelV.two (.str _ (Nat.le_trans (acK s p) hs)) (.bool _), Below.refl _ _⟩
theorem cutSuffixA (s p : List UInt8) (H : Heap) : ACall Tryz.prog 30 [.str s, .str p] H (fun y H' => y = .tuple [.str (Lib.trimSuffix s p), .bool (Lib.hasSuffix s p)] ∧ H' = H) := by
 refine ACall.lib _ fun g vs w k st => ?_
 obtain ⟨v, u, rfl, hv, hu⟩ := relvs2 k
 cases hv with | str _ hs => ?_
 cases hu
 refine (Tryz.strings_CutSuffix ⟨s.toArray⟩ ⟨p.toArray⟩ w (by show s.toArray.size ≤ _; rw [zP] at hs; simpa using hs)).mono ?_
 rintro e w' ⟨rfl, rfl⟩
 exact ⟨_, rfl, RelV.two (.str _ (Nat.le_trans (acJ s p) hs)) (.bool _), Below.refl _ _⟩
theorem cutA (s p : List UInt8) (hs : s.length ≤ 1000000) (H : Heap) : ACall Tryz.prog 103 [.str s, .str p] H (fun y H' => y = .tuple [.str (Lib.cut s p).1, .str (Lib.cut s p).2.1, .bool (Lib.cut s p).2.2] ∧ H' = H) := by
 refine ACall.lib _ fun g vs w k st => ?_
 obtain ⟨v, u, rfl, hv, hu⟩ := relvs2 k
 cases hv with | str _ hs2 => ?_
 cases hu
 obtain ⟨m, hm⟩ := st.maxCell
 refine (Tryz.strings_Cut ⟨s.toArray⟩ ⟨p.toArray⟩ m w (by show s.toArray.size < _; rw [List.size_toArray]; omega) hm).mono ?_
 rintro e w' ⟨rfl, n, rfl⟩
 have hl := ayG s p
 refine ⟨_, rfl, .tuple _ _ rfl fun i c z hc hz => ?_, ayQ _ _ _⟩
 match i with
 | 0 => simp at hc hz; subst hc; subst hz; exact .str _ (Nat.le_trans hl.1 hs2)
 | 1 => simp at hc hz; subst hc; subst hz; exact .str _ (Nat.le_trans hl.2 hs2)
 | 2 => simp at hc hz; subst hc; subst hz; exact .bool _
 | _ + 3 => simp at hc
theorem indexByteA (s : List UInt8) (c : Nat) (H : Heap) : ACall Tryz.prog 100 [.str s, .int .u8 (c : Int)] H (fun y H' => y = .int .i64 (Lib.indexByte s c.toUInt8) ∧ H' = H) := by
 refine ACall.lib _ fun g vs w k st => ?_
 obtain ⟨v, u, rfl, hv, hu⟩ := relvs2 k
 cases hv; cases hu
 refine (Tryz.strings_IndexByte ⟨s.toArray⟩ (c : Int) w).mono ?_
 rintro e w' ⟨rfl, rfl⟩
 rw [Int.toNat_natCast]
 exact ⟨_, rfl, .int _ _, Below.refl _ _⟩
section
open Go Go.RowKit Go.Lib

def qE (p : Nat → Bool) : Nat → List UInt8 → List UInt8
 | 0, l => l
 | f + 1, l => if l = [] then [] else if p (decodeL l).1 then qE p f (l.drop (decodeL l).2) else l
def aaO (p : Nat → Bool) : Nat → List UInt8 → List UInt8
 | 0, l => l
 | f + 1, l => if l = [] then [] else if p (decodeLastL l).1 then aaO p f (l.take (l.length - (decodeLastL l).2)) else l
def qM (p : Nat → Bool) (l : List UInt8) : List UInt8 := aaO p l.length (qE p l.length l)
theorem aaF (p : Nat → Bool) : ∀ f, qE p f [] = []
 | 0 => rfl
 | f + 1 => by simp [qE]
theorem aaR (p : Nat → Bool) : ∀ f, aaO p f [] = []
 | 0 => rfl
 | f + 1 => by simp [aaO]
theorem adR (p : Nat → Bool) (f : Nat) {l : List UInt8} (h : l ≠ []) : qE p (f + 1) l = if p (decodeL l).1 = true then qE p f (l.drop (decodeL l).2) else l := by
 simp [qE, h]
theorem ahK (p : Nat → Bool) (f : Nat) {l : List UInt8} (h : l ≠ []) : aaO p (f + 1) l = if p (decodeLastL l).1 = true then aaO p f (l.take (l.length - (decodeLastL l).2)) else l := by
 simp [aaO, h]
theorem baM (p : Nat → Bool) (s : ByteArray) : ∀ (f pos : Nat), s.size ≤ pos + f →
  qE p f (s.data.toList.drop pos) = if idxFuncFrom p false s f pos = -1 then [] else s.data.toList.drop (idxFuncFrom p false s f pos).toNat
 | 0, pos, h => by
  have : s.data.toList.drop pos = [] := List.drop_eq_nil_of_le (by rw [← size_eq]; omega)
  simp [qE, idxFuncFrom, this]
 | f + 1, pos, h => by
  by_cases hp : pos < s.size
  ·have hne : s.data.toList.drop pos ≠ [] := by
    intro h0
    have := congrArg List.length h0
    rw [List.length_drop, ← size_eq] at this
    simp at this
    omega
   have hw := width_pos s pos
   simp only [qE, idxFuncFrom, if_neg hne, if_pos hp, decodeL_drop]
   cases hsp : p (Utf8.decode s pos).1 with
   | true =>
    simp only [if_true, List.drop_drop, Bool.true_eq_false, if_false]
    exact baM p s f _ (by omega)
   | false =>
    simp only [Bool.false_eq_true, if_false, if_true]
    rw [if_neg (by omega), Int.toNat_natCast]
  ·have : s.data.toList.drop pos = [] := List.drop_eq_nil_of_le (by rw [← size_eq]; omega)
   rw [this, aaF, idxFuncFrom_end p false s _ _ hp, if_pos rfl]
theorem afU (p : Nat → Bool) (s : ByteArray) : (trimLeftF p s).data.toList = qE p s.data.toList.length s.data.toList := by
 have h := baM p s s.size 0 (by omega)
 rw [List.drop_zero] at h
 rw [← size_eq, h]
 unfold trimLeftF idxFunc
 split
 ·rfl
 ·rw [extract_data, List.take_of_length_le (by rw [List.length_drop, ← size_eq]; exact Nat.le_refl _)]
theorem abN (p : Nat → Bool) : ∀ (f : Nat) (l : List UInt8), (qE p f l).length ≤ l.length
 | 0, _ => Nat.le_refl _
 | f + 1, l => by
  unfold qE
  split
  ·simp
  ·split
   ·exact Nat.le_trans (abN p f _) (by rw [List.length_drop]; omega)
   ·exact Nat.le_refl _
theorem adQ (p : Nat → Bool) : ∀ (f : Nat) (l : List UInt8), (aaO p f l).length ≤ l.length
 | 0, _ => Nat.le_refl _
 | f + 1, l => by
  unfold aaO
  split
  ·simp
  ·split
   ·exact Nat.le_trans (adQ p f _) (by rw [List.length_take]; omega)
   ·exact Nat.le_refl _
theorem alM (p : Nat → Bool) : ∀ (f g : Nat) (l : List UInt8), l.length ≤ f → l.length ≤ g → qE p f l = qE p g l
 | 0, g, l, hf, _ => by
  have : l = [] := List.eq_nil_of_length_eq_zero (by omega)
  rw [this, aaF, aaF]
 | f + 1, 0, l, _, hg => by
  have : l = [] := List.eq_nil_of_length_eq_zero (by omega)
  rw [this, aaF, aaF]
 | f + 1, g + 1, l, hf, hg => by
  by_cases hne : l = []
  ·rw [hne, aaF, aaF]
  ·have hw := decodeL_width l
   have hlen := List.length_pos_iff.2 hne
   simp only [qE, if_neg hne]
   split
   ·exact alM p f g _ (by rw [List.length_drop]; omega) (by rw [List.length_drop]; omega)
   ·rfl
theorem alL (p : Nat → Bool) : ∀ (f g : Nat) (l : List UInt8), l.length ≤ f → l.length ≤ g → aaO p f l = aaO p g l
 | 0, g, l, hf, _ => by
  have : l = [] := List.eq_nil_of_length_eq_zero (by omega)
  rw [this, aaR, aaR]
 | f + 1, 0, l, _, hg => by
  have : l = [] := List.eq_nil_of_length_eq_zero (by omega)
  rw [this, aaR, aaR]
 | f + 1, g + 1, l, hf, hg => by
  by_cases hne : l = []
  ·rw [hne, aaR, aaR]
  ·have hw := decodeLastL_width l (List.length_pos_iff.2 hne)
   simp only [aaO, if_neg hne]
   split
   ·exact alL p f g _ (by rw [List.length_take]; omega) (by rw [List.length_take]; omega)
   ·rfl
theorem opensP (p : Nat → Bool) (hp : p 65533 = false) (l : List UInt8) (i : Nat) (hi : 0 < i) (hil : i ≤ l.length) (hsp : p (decodeLastL (l.take i)).1 = true) : OpenAt l (i - (decodeLastL (l.take i)).2) := by
 rcases last_cases l i hi hil with ⟨ha, hd⟩ | ⟨ha, hd⟩ | ⟨ha, st, hst, hd, hsum⟩
 ·rw [hd]
  exact .inr (by show (l.getD (i - 1) 0).toNat / 64 ≠ 2; omega)
 ·rw [hd] at hsp
  exact absurd hsp (by rw [hp]; decide)
 ·rw [hd] at hsp ⊢
  rw [show i - (decodeL ((l.take i).drop st)).2 = st by omega]
  refine .inr fun hc => ?_
  rw [decodeL_N, getD_dropU, Nat.add_zero, getD_takeU l i st hst, decodeN_cont _ _ _ _ _ hc] at hsp
  exact absurd hsp (by rw [hp]; decide)
theorem atC (p : Nat → Bool) (hp : p 65533 = false) (s : ByteArray) : ∀ (f i : Nat), i ≤ f → i ≤ s.data.toList.length → OpenAt s.data.toList i →
  aaO p f (s.data.toList.take i) = s.data.toList.take (if 0 ≤ lastIdxFuncFrom p false s f i then (lastIdxFuncFrom p false s f i).toNat + (decodeL (s.data.toList.drop (lastIdxFuncFrom p false s f i).toNat)).2 else 0)
 | 0, i, hf, _, _ => by
  obtain rfl : i = 0 := by omega
  simp [aaO, lastIdxFuncFrom]
 | f + 1, i, hf, hil, ho => by
  by_cases hi : 0 < i
  ·have hlen : (s.data.toList.take i).length = i := by rw [List.length_take]; omega
   have hne : s.data.toList.take i ≠ [] := fun h => by rw [h] at hlen; simp at hlen; omega
   have hw := decodeLastL_width (s.data.toList.take i) (by omega)
   rw [hlen] at hw
   simp only [aaO, lastIdxFuncFrom, if_neg hne, if_pos hi, hlen]
   cases hsp : p (decodeLastL (s.data.toList.take i)).1 with
   | true =>
    simp only [if_true, Bool.true_eq_false, if_false]
    rw [List.take_take, Nat.min_eq_left (by omega)]
    exact atC p hp s f _ (by omega) (by omega) (opensP p hp _ i hi hil hsp)
   | false =>
    simp only [Bool.false_eq_true, if_false, if_true]
    rw [if_pos (by omega), Int.toNat_natCast, fw_width _ i hi hil ho, Nat.sub_add_cancel hw.2]
  ·obtain rfl : i = 0 := by omega
   rw [lastIdxFuncFrom_zero]
   simp [aaR]
theorem apS (p : Nat → Bool) (s : ByteArray) : ∀ (f i : Nat), i ≤ s.size → lastIdxFuncFrom p false s f i = -1 ∨ (0 ≤ lastIdxFuncFrom p false s f i ∧ lastIdxFuncFrom p false s f i < i)
 | 0, _, _ => .inl rfl
 | f + 1, i, hi => by
  unfold lastIdxFuncFrom
  split
  ·rename_i h0
   have hw := decodeLastL_width (s.data.toList.take i) (by rw [List.length_take, ← size_eq]; omega)
   rw [List.length_take, ← size_eq, Nat.min_eq_left hi] at hw
   split
   ·exact .inr ⟨by omega, by omega⟩
   ·rcases apS p s f (i - (decodeLastL (s.data.toList.take i)).2) (by omega) with h | h
    ·exact .inl h
    ·exact .inr ⟨h.1, by omega⟩
  ·exact .inl rfl
theorem aiD (p : Nat → Bool) (hp : p 65533 = false) (s : ByteArray) : (trimRightF p s).data.toList = aaO p s.data.toList.length s.data.toList := by
 have h := atC p hp s s.size s.size (Nat.le_refl _) (by rw [← size_eq]; exact Nat.le_refl _) (.inl (size_eq s))
 rw [List.take_of_length_le (by rw [← size_eq]; exact Nat.le_refl _)] at h
 rw [← size_eq, h]
 unfold trimRightF rightEndF lastIdxFunc
 rw [extract_data, List.drop_zero, Nat.sub_zero]
 congr 1
 split
 ·rename_i h0
  congr 2
  rcases apS p s s.size s.size (Nat.le_refl _) with hm | hlt
  ·omega
  ·have hx : s.extract (lastIdxFuncFrom p false s s.size s.size).toNat s.size = ⟨(s.data.toList.drop (lastIdxFuncFrom p false s s.size s.size).toNat).toArray⟩ := by
    rw [extract_eq, List.take_of_length_le (by rw [List.length_drop, ← size_eq]; exact Nat.le_refl _)]
   have hxs : (⟨(s.data.toList.drop (lastIdxFuncFrom p false s s.size s.size).toNat).toArray⟩ : ByteArray).size ≠ 0 := by
    rw [size_eq]
    simp only [List.length_drop]
    rw [← size_eq]
    omega
   rw [hx]
   unfold decodeGoB decodeL
   rw [if_neg hxs]
 ·rfl
theorem trimF_eq (p : Nat → Bool) (hp : p 65533 = false) (s : ByteArray) : (trimF p s).data.toList = qM p s.data.toList := by
 unfold trimF qM
 rw [aiD p hp, afU]
 exact alL p _ _ _ (Nat.le_refl _) (abN p _ _)
/-! ### the blanks of an entry -/
def zQ (r : Nat) : Bool := r == 32 || r == 9 || r == 160 || r == 8239
def adD (r : Nat) : Bool := decide (48 ≤ r) && decide (r ≤ 57)
end
section
open Go Go.RowKit Go.Lib

set_option maxRecDepth 100000 in
theorem blank_at (x : Nat) (W : World) : Calls Tryz.prog 28 #[.int .i32 (x : Int)] W fun e w' => e = .returned (.bool (zQ x)) ∧ ∃ q, w' = W.drewN q := by
 by_cases h1 : x = 32
 ·subst h1
  go_enter Tryz.func28, Tryz.ntmps28
  go_wp2
  refine ⟨rfl, _, by simp [results, Tryz.results28]; rfl, ?_, 0, rfl⟩
  first | rfl | simp [zQ, *] | (simp only [zQ]; congr 1; simp [*])
 by_cases h2 : x = 9
 ·subst h2
  go_enter Tryz.func28, Tryz.ntmps28
  go_wp2
  refine ⟨rfl, _, by simp [results, Tryz.results28]; rfl, ?_, 0, rfl⟩
  first | rfl | simp [zQ, *] | (simp only [zQ]; congr 1; simp [*])
 by_cases h3 : x = 160
 ·subst h3
  go_enter Tryz.func28, Tryz.ntmps28
  go_wp2
  refine ⟨rfl, _, by simp [results, Tryz.results28]; rfl, ?_, 0, rfl⟩
  first | rfl | simp [zQ, *] | (simp only [zQ]; congr 1; simp [*])
 by_cases h4 : x = 8239
 ·subst h4
  go_enter Tryz.func28, Tryz.ntmps28
  go_wp2
  refine ⟨rfl, _, by simp [results, Tryz.results28]; rfl, ?_, 0, rfl⟩
  first | rfl | simp [zQ, *] | (simp only [zQ]; congr 1; simp [*])
 ·have b1 : ((x : Int) == 32) = false := by simp; omega
  have b2 : ((x : Int) == 9) = false := by simp; omega
  have b3 : ((x : Int) == 160) = false := by simp; omega
  have b4 : ((x : Int) == 8239) = false := by simp; omega
  have c1 : ¬ (x : Int) = 32 := by omega
  have c2 : ¬ (x : Int) = 9 := by omega
  have c3 : ¬ (x : Int) = 160 := by omega
  have c4 : ¬ (x : Int) = 8239 := by omega
  have hb : zQ x = false := by simp [zQ, h1, h2, h3, h4]
  rw [hb]
  go_enter Tryz.func28, Tryz.ntmps28
  go_wp2
  refine ⟨rfl, _, by simp [results, Tryz.results28]; rfl, ?_, 0, rfl⟩
  first | rfl | simp [*]
set_option maxRecDepth 100000 in
theorem digit_at (x : Nat) (W : World) : Calls Tryz.prog 104 #[.int .i32 (x : Int)] W fun e w' => e = .returned (.bool (adD x)) ∧ ∃ q, w' = W.drewN q := by
 have hd : adD x = (decide ((48 : Int) ≤ (x : Int)) && decide ((x : Int) ≤ 57)) := by
  unfold adD
  rw [show decide (48 ≤ x) = decide ((48 : Int) ≤ (x : Int)) from decide_eq_decide.2 (by omega), show decide (x ≤ 57) = decide ((x : Int) ≤ 57) from decide_eq_decide.2 (by omega)]
 rw [hd]
 by_cases h1 : (48 : Int) ≤ (x : Int)
 ·rw [decide_eq_true h1]
  go_enter Tryz.func104, Tryz.ntmps104
  go_wp2
  refine ⟨rfl, _, by simp [results, Tryz.results104]; rfl, ?_, 0, rfl⟩
  first | rfl | simp [*]
 ·rw [decide_eq_false h1]
  go_enter Tryz.func104, Tryz.ntmps104
  go_wp2
  refine ⟨rfl, _, by simp [results, Tryz.results104]; rfl, ?_, 0, rfl⟩
  first | rfl | simp [*]

theorem relfn {g : G} {f : FuncId} {v : Value} (h : RelV g (.func f []) v) : v = .func (.func f) #[] #[] := by
 cases h with
 | func _ _ vs hn _ =>
  have : vs = #[] := Array.eq_empty_of_size_eq_zero (by simpa using hn.symm)
  rw [this]
theorem alZ {W : World} (h : Inv W) {n : Nat} {d : DataW Unit} {xs : List Value} (hn : (n, d) ∈ anG) (hx : agB 4 d = some xs) {i : Nat} {v : Value} (hi : xs[i]? = some v) : W.cell? ⟨n, i, none⟩ = some v := by
 obtain ⟨T, fz, hh⟩ := h.rows n d hn xs hx
 unfold World.cell?
 rw [hh]
 simpa using hi
set_option maxRecDepth 100000 in
theorem beB : agB 4 Rows.laid_unicode_utf8_first = some ((List.range 256).map fun c => Value.int .u8 (Lib.firstT c)) := by kernel_rfl
set_option maxRecDepth 100000 in
theorem anL : agB 4 Rows.laid_unicode_utf8_acceptRanges = some ((List.range 32).map fun c => Value.int .u8 (if c % 2 = 0 then Lib.accLo (c / 2) else Lib.accHi (c / 2))) := by kernel_rfl
theorem Sat.utf8 {g : G} {H : Heap} {w : World} (s : Sat g H w) : Lib.Utf8Tabs 2 3 w := by
 have hl := g.hinv.size
 have key : ∀ (n : Nat), n < 10 → ∀ i, w.cell? ⟨n, i, none⟩ = g.base.cell? ⟨n, i, none⟩ := fun n hn i => World.cell?_of_block (s.below.block n (by omega))
 refine ⟨fun c hc => ?_, fun i hi => ⟨?_, ?_⟩⟩
 ·rw [key 2 (by decide)]
  exact alZ g.hinv (by simp [anG]) beB (by simp [hc])
 ·rw [key 3 (by decide)]
  refine alZ g.hinv (by simp [anG]) anL ?_
  rw [List.getElem?_map, List.getElem?_range (by omega)]
  simp
 ·rw [key 3 (by decide)]
  refine alZ g.hinv (by simp [anG]) anL ?_
  rw [List.getElem?_map, List.getElem?_range (by omega)]
  simp only [Option.map_some]
  rw [if_neg (by omega), show (2 * i + 1) / 2 = i by omega]
theorem alN (p : Nat → Bool) (s : List UInt8) : (qM p s).length ≤ s.length := Nat.le_trans (adQ p _ _) (abN p _ _)
theorem azD {g : G} {b : ByteArray} {l : List UInt8} (h : b.data.toList = l) (hl : l.length ≤ maxLen) : RelV g (.str l) (.string b) := by
 have e : b = ⟨l.toArray⟩ := by subst h; simp
 rw [e]; exact .str l hl
theorem ajW (w : World) : PredAt Tryz.prog 28 #[] encR zQ w := fun W x _ => blank_at x W
theorem beH (w : World) : PredAt Tryz.prog 104 #[] encR adD w := fun W x _ => digit_at x W
theorem trimFuncA (s : List UInt8) (H : Heap) : ACall Tryz.prog 27 [.str s, .func 28 []] H (fun y H' => y = .str (qM zQ s) ∧ H' = H) := by
 refine ACall.lib _ fun g vs w k st => ?_
 obtain ⟨v, u, rfl, hv, hu⟩ := relvs2 k
 cases hv with | str _ hs => ?_
 rw [relfn hu]
 refine (Tryz.strings_TrimFunc 28 #[] Tryz.call28 zQ ⟨s.toArray⟩ w (by show s.toArray.size ≤ _; rw [zP] at hs; simpa using hs) st.utf8 (ajW w)).mono ?_
 rintro e w' ⟨rfl, hb⟩
 exact ⟨_, rfl, azD (trimF_eq zQ (by decide) _) (Nat.le_trans (alN _ _) hs), hb⟩
theorem trimRightFuncA (s : List UInt8) (H : Heap) : ACall Tryz.prog 62 [.str s, .func 28 []] H (fun y H' => y = .str (aaO zQ s.length s) ∧ H' = H) := by
 refine ACall.lib _ fun g vs w k st => ?_
 obtain ⟨v, u, rfl, hv, hu⟩ := relvs2 k
 cases hv with | str _ hs => ?_
 rw [relfn hu]
 refine (Tryz.strings_TrimRightFunc 28 #[] Tryz.call28 zQ ⟨s.toArray⟩ w (by show s.toArray.size ≤ _; rw [zP] at hs; simpa using hs) st.utf8 (ajW w)).mono ?_
 rintro e w' ⟨rfl, hb⟩
 exact ⟨_, rfl, azD (aiD zQ (by decide) _) (Nat.le_trans (adQ _ _ _) hs), hb⟩
theorem trimLeftFuncA (s : List UInt8) (H : Heap) : ACall Tryz.prog 32 [.str s, .func 28 []] H (fun y H' => y = .str (qE zQ s.length s) ∧ H' = H) := by
 refine ACall.lib _ fun g vs w k st => ?_
 obtain ⟨v, u, rfl, hv, hu⟩ := relvs2 k
 cases hv with | str _ hs => ?_
 rw [relfn hu]
 refine (Tryz.strings_TrimLeftFunc 28 #[] Tryz.call28 zQ ⟨s.toArray⟩ w (ajW w)).mono ?_
 rintro e w' ⟨rfl, hb⟩
 exact ⟨_, rfl, azD (afU zQ _) (Nat.le_trans (abN _ _ _) hs), hb⟩
theorem trimDigitsA (s : List UInt8) (H : Heap) : ACall Tryz.prog 32 [.str s, .func 104 []] H (fun y H' => y = .str (qE adD s.length s) ∧ H' = H) := by
 refine ACall.lib _ fun g vs w k st => ?_
 obtain ⟨v, u, rfl, hv, hu⟩ := relvs2 k
 cases hv with | str _ hs => ?_
 rw [relfn hu]
 refine (Tryz.strings_TrimLeftFunc 104 #[] Tryz.call104 adD ⟨s.toArray⟩ w (beH w)).mono ?_
 rintro e w' ⟨rfl, hb⟩
 exact ⟨_, rfl, azD (afU adD _) (Nat.le_trans (abN _ _ _) hs), hb⟩
theorem akH (old new : List UInt8) : ∀ (k : Nat) (s : List UInt8), (Lib.replaceK old new k s).length ≤ s.length + k * new.length
 | 0, s => by rw [Lib.replaceK]; omega
 | k + 1, s => by
  rw [Lib.replaceK]
  split
  ·omega
  ·have h := akH old new k (s.drop ((Lib.index s old).toNat + old.length))
   simp only [List.length_append, List.length_take, List.length_drop] at *
   rw [Nat.add_mul]
   omega
theorem asD (sub : List UInt8) : ∀ (f : Nat) (s : List UInt8), Lib.countFrom sub f s ≤ f
 | 0, s => Nat.le_refl _
 | f + 1, s => by
  rw [Lib.countFrom]
  split
  ·omega
  ·have := asD sub f (s.drop ((Lib.index s sub).toNat + sub.length)); omega
theorem ahE (s old new : List UInt8) : (Lib.replaceAll s old new).length ≤ s.length + (s.length + 1) * new.length := by
 unfold Lib.replaceAll Lib.replace
 split
 ·omega
 ·refine Nat.le_trans (akH _ _ _ _) (Nat.add_le_add_left (Nat.mul_le_mul_right _ ?_) _)
  unfold Lib.replaceNum
  rw [if_pos (.inl (by decide))]
  exact asD _ _ _
theorem replaceA (s old new : List UInt8) (hs : s.length ≤ 100000) (ho : 1 ≤ old.length) (hn : new.length ≤ 10) (H : Heap) : ACall Tryz.prog 101 [.str s, .str old, .str new] H (fun y H' => y = .str (Lib.replaceAll s old new) ∧ H' = H) := by
 refine ACall.lib _ fun g vs w k st => ?_
 obtain ⟨v, u, x, rfl, hv, hu, hx⟩ := relvs3 k
 cases hv with | str _ hs2 => ?_
 cases hu; cases hx
 obtain ⟨m, hm⟩ := st.maxCell
 have hc : Lib.countB ⟨s.toArray⟩ ⟨old.toArray⟩ ≤ s.length + 1 := by
  show Lib.count s old ≤ _
  exact asD _ _ _
 have hcn : Lib.countB ⟨s.toArray⟩ ⟨old.toArray⟩ * new.length ≤ (s.length + 1) * 10 := Nat.mul_le_mul hc hn
 have hl := ahE s old new
 have hl2 : (s.length + 1) * new.length ≤ (s.length + 1) * 10 := Nat.mul_le_mul_left _ hn
 refine (Tryz.strings_ReplaceAll ⟨s.toArray⟩ ⟨old.toArray⟩ ⟨new.toArray⟩ m w (by show s.toArray.size < _; rw [List.size_toArray]; omega) hm (by show 1 ≤ old.toArray.size; rw [List.size_toArray]; omega) (by show s.toArray.size + _ * new.toArray.size ≤ _; rw [List.size_toArray, List.size_toArray]; omega)).mono ?_
 rintro e w' ⟨rfl, hb⟩
 exact ⟨_, rfl, .str _ (by rw [zP]; show (Lib.replaceAll s old new).length ≤ _; omega), hb⟩
def IsErr (b : Bool) (x : AV) : Prop := (b = false ∧ x = .nilIface) ∨ (b = true ∧ ∃ t y, x = .iface t y)
def ajB (s : List UInt8) : Bool := match Lib.atoiAll s with | .ok _ => false | _ => true
theorem ACall.libE {P : Program} {f : FuncId} {xs : List AV} {H : Heap} (Y : AV → Prop) (h : ∀ g vs w, RelVs g xs vs → Sat g H w → Calls P f vs.toArray w (fun e w' => ∃ v y, e = .returned v ∧ RelV g y v ∧ Y y ∧ Below w.heap.size w w')) : ACall P f xs H (fun z H' => Y z ∧ H' = H) :=
 fun g vs w k s => (h g vs w k s).mono fun _ _ ⟨v, y, he, hr, hy, hb⟩ => ⟨v, he, g, y, H, .id, hr, s.grow hb, hy, rfl⟩
theorem atoiAny (s : List UInt8) (hs : s.length ≤ 100000) (H : Heap) : ACall Tryz.prog 140 [.str s] H (fun z H' => (∃ v ev, z = .tuple [.int .i64 v, ev] ∧ IsErr (ajB s) ev ∧ (ajB s = false → Lib.atoiAll s = .ok v)) ∧ H' = H) := by
 refine ACall.libE _ fun g vs w k st => ?_
 obtain ⟨x, rfl, hx⟩ := relvs1 k
 cases hx with | str _ hs2 => ?_
 have cell : ∀ n, n = 6 ∨ n = 7 → ∃ te pe, w.cell? ⟨n, 0, none⟩ = some (.iface te pe) := fun n hn => by
  obtain ⟨te, pe, h⟩ := g.hinv.errs n hn
  have hlt := World.block_lt_of_cell? _ (a := ⟨n, 0, none⟩) h
  exact ⟨te, pe, by rw [World.cell?_of_block (w := g.base) (st.below.block n hlt)]; exact h⟩
 cases hr : Lib.atoiAll s with
 | ok v =>
  refine (Tryz.strconv_Atoi_ok ⟨s.toArray⟩ (by show s.toArray.size ≤ _; rw [List.size_toArray]; omega) v hr w).mono ?_
  rintro e w' ⟨rfl, hw⟩
  refine ⟨_, _, rfl, RelV.two (.int _ _) .nilIface, ⟨v, _, rfl, .inl ⟨by unfold ajB; rw [hr], rfl⟩, fun _ => rfl⟩, ?_⟩
  rcases hw with rfl | ⟨t, rfl⟩
  ·exact Below.refl _ _
  ·exact ⟨rfl, rfl, rfl, by rw [Lib.bytesWorld_size]; omega, fun k hk => Lib.bytesWorld_at_old _ _ _ k hk⟩
 | range =>
  obtain ⟨te, pe, hc⟩ := cell 7 (.inr rfl)
  refine (Tryz.strconv_Atoi_range ⟨s.toArray⟩ (by show s.toArray.size ≤ _; rw [List.size_toArray]; omega) hr _ w hc (.inr ⟨te, pe, rfl⟩)).mono ?_
  rintro e w' ⟨N, rfl, _, _, hb⟩
  exact ⟨_, _, rfl, RelV.two (.int _ _) (.iface _ _ _ (.ptr _)), ⟨_, _, rfl, .inr ⟨by unfold ajB; rw [hr], _, _, rfl⟩, fun h => by unfold ajB at h; rw [hr] at h; cases h⟩, hb⟩
 | _ =>
  obtain ⟨te, pe, hc⟩ := cell 6 (.inl rfl)
  refine (Tryz.strconv_Atoi_syntax ⟨s.toArray⟩ (by show s.toArray.size ≤ _; rw [List.size_toArray]; omega) (by show Lib.atoiAll s = _; rw [hr]; rfl) _ w hc (.inr ⟨te, pe, rfl⟩)).mono ?_
  rintro e w' ⟨N, rfl, _, _, hb⟩
  exact ⟨_, _, rfl, RelV.two (.int _ _) (.iface _ _ _ (.ptr _)), ⟨_, _, rfl, .inr ⟨by unfold ajB; rw [hr], _, _, rfl⟩, fun h => by unfold ajB at h; rw [hr] at h; cases h⟩, hb⟩
section
variable {P : Program} {env : Env} {H : Heap} {dst : Option Tmp} {ty : TypeId} {pos : String} {af : Array Edge} {gd : Option (Nat × Bool)}
theorem aqU {T : TypeId} {ms : Array (String × TypeId)} (hu : P.underlying T = some (.interface ms)) (t : TypeId) (v : Value) (w : World) : (Op.equal T (.iface t v) .nilIface).run P w = .ok false w := by
 have key : ∀ d, (Op.equalIn (d + 1) T (.iface t v) .nilIface).run P w = .ok false w := fun d => by simp [Op.equalIn, underlying, hu]
 exact key 9999
theorem awO {T : TypeId} {ms : Array (String × TypeId)} (hu : P.underlying T = some (.interface ms)) (w : World) : (Op.equal T .nilIface .nilIface).run P w = .ok true w := by
 have key : ∀ d, (Op.equalIn (d + 1) T .nilIface .nilIface).run P w = .ok true w := fun d => by simp [Op.equalIn, underlying, hu]
 exact key 9999
theorem bcX {T T' : TypeId} {ms : Array (String × TypeId)} {x : Operand} {b : Bool} {e : AV} (hu : P.underlying T = some (.interface ms)) (hx : Ev env x e) (hb : IsErr b e) : APure P ⟨dst, .binOp .neq T x (.const .nilIface) T', ty, pos, af, gd⟩ env (.bool b) := by
 intro g n a ka
 obtain ⟨v, he, hv⟩ := ev1 hx ka
 rcases hb with ⟨rfl, rfl⟩ | ⟨rfl, t, z, rfl⟩
 ·cases hv
  exact ⟨_, .bool _, fun w _ => adG he rfl (by cases x <;> rfl) (aoY rfl (awO hu w))⟩
 ·cases hv
  exact ⟨_, .bool _, fun w _ => adG he rfl rfl (aoY rfl (aqU hu _ _ w))⟩
end
/-! ### digits alone -/
theorem decN_big {n b0 b1 b2 b3 : Nat} (h : 128 ≤ b0) : 128 ≤ (decodeN n b0 b1 b2 b3).1 := by
 unfold decodeN
 repeat' split
 all_goals (simp only; omega)
theorem avA {x : UInt8} {l : List UInt8} : adD (decodeL (x :: l)).1 = true ↔ isD x := by
 rw [decodeL_N]
 simp only [List.getD_cons_zero]
 unfold adD isD
 rcases Nat.lt_or_ge x.toNat 128 with h | h
 ·rw [decodeN_ascii _ _ _ _ _ h]; simp
 ·have := @decN_big (x :: l).length x.toNat ((x :: l).getD 1 0).toNat ((x :: l).getD 2 0).toNat ((x :: l).getD 3 0).toNat h
  simp only [Bool.and_eq_true, decide_eq_true_eq]
  omega
theorem bjH {x : UInt8} {l : List UInt8} (h : isD x) : (decodeL (x :: l)).2 = 1 := by
 rw [decodeL_N]
 simp only [List.getD_cons_zero]
 rw [decodeN_ascii _ _ _ _ _ (by unfold isD at h; omega)]
theorem adP : ∀ (f : Nat) (s : List UInt8), s.length ≤ f → (qE adD f s = [] ↔ Digs s)
 | f, [], _ => by rw [aaF]; exact ⟨fun _ _ h => by simp at h, fun _ => rfl⟩
 | 0, x :: l, h => by simp at h
 | f + 1, x :: l, h => by
  rw [adR _ _ (by simp)]
  by_cases hx : isD x
  ·rw [if_pos (avA.2 hx), bjH hx, List.drop_succ_cons, List.drop_zero, adP f l (by simpa using h)]
   exact ⟨fun q b hb => by rcases List.mem_cons.1 hb with rfl | hb; exact hx; exact q b hb, fun q b hb => q b (by simp [hb])⟩
  ·rw [if_neg (fun q => hx (avA.1 q))]
   exact ⟨fun q => by simp at q, fun q => absurd (q x (by simp)) hx⟩

end
end Go.Proofs.YtfkeflcdadlmdaaGreatDoor
