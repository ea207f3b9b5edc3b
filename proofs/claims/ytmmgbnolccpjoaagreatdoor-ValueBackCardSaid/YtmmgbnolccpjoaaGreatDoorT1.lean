import Derived.Test.YtmmgbnolccpjoaaGreatDoorQdk
import Derived.Lib.TrimUEq
namespace Go.Proofs.YtmmgbnolccpjoaaGreatDoor
open Go Go.RowKit

variable {g : G} {T : TypeId} {ms : Array (String × TypeId)}
theorem aeL (s p : List UInt8) : (Lib.trimPrefix s p).length ≤ s.length := by
 unfold Lib.trimPrefix
 split
 ·rw [bS]; omega
 exact aX _
theorem adB (s p : List UInt8) : (Lib.trimSuffix s p).length ≤ s.length := by
 unfold Lib.trimSuffix
 split
 ·rw [aQ]; omega
 exact aX _
theorem baK (s p : List UInt8) : (Lib.cut s p).1.length ≤ s.length ∧ (Lib.cut s p).2.1.length ≤ s.length := by
 unfold Lib.cut
 split
 ·simp only [aQ, bS]; omega
 exact ⟨aX _, Nat.zero_le _⟩
theorem cutPrefixA (s p : List UInt8) (H : Heap) : ACall Tryz.prog 93 [.str s, .str p] H (fun y H' => y = .tuple [.str (Lib.trimPrefix s p), .bool (Lib.hasPrefix s p)] ∧ H' = H) := by
 refine ACall.lib _ fun g vs w k st => ?_
 obtain ⟨v, u, rfl, hv, hu⟩ := relvs2 k
 cases hv with | str _ hs => ?_
 cases hu
 refine (Tryz.strings_CutPrefix ⟨s.toArray⟩ ⟨p.toArray⟩ w).mono ?_
 rintro e w' ⟨rfl, rfl⟩
 exact ⟨_, rfl, RelV.two (.str _ (aZ (aeL s p) hs)) (.bool _), Below.refl _ _⟩
theorem cutSuffixA (s p : List UInt8) (H : Heap) : ACall Tryz.prog 94 [.str s, .str p] H (fun y H' => y = .tuple [.str (Lib.trimSuffix s p), .bool (Lib.hasSuffix s p)] ∧ H' = H) := by
 refine ACall.lib _ fun g vs w k st => ?_
 obtain ⟨v, u, rfl, hv, hu⟩ := relvs2 k
 cases hv with | str _ hs => ?_
 cases hu
 refine (Tryz.strings_CutSuffix ⟨s.toArray⟩ ⟨p.toArray⟩ w (by show s.toArray.size ≤ _; rw [zW] at hs; simpa using hs)).mono ?_
 rintro e w' ⟨rfl, rfl⟩
 exact ⟨_, rfl, RelV.two (.str _ (aZ (adB s p) hs)) (.bool _), Below.refl _ _⟩
theorem cutA (s p : List UInt8) (hs : s.length ≤ 1000000) (H : Heap) : ACall Tryz.prog 212 [.str s, .str p] H (fun y H' => y = .tuple [.str (Lib.cut s p).1, .str (Lib.cut s p).2.1, .bool (Lib.cut s p).2.2] ∧ H' = H) := by
 refine ACall.lib _ fun g vs w k st => ?_
 obtain ⟨v, u, rfl, hv, hu⟩ := relvs2 k
 cases hv with | str _ hs2 => ?_
 cases hu
 obtain ⟨m, hm⟩ := st.maxCell
 refine (Tryz.strings_Cut ⟨s.toArray⟩ ⟨p.toArray⟩ m w (by show s.toArray.size < _; rw [dX]; omega) hm).mono ?_
 rintro e w' ⟨rfl, n, rfl⟩
 have hl := baK s p
 refine ⟨_, rfl, .tuple _ _ rfl fun i c z hc hz => ?_, baU _ _ _⟩
 match i with
 | 0 => simp at hc hz; subst hc; subst hz; exact .str _ (aZ hl.1 hs2)
 | 1 => simp at hc hz; subst hc; subst hz; exact .str _ (aZ hl.2 hs2)
 | 2 => simp at hc hz; subst hc; subst hz; exact .bool _
 | _ + 3 => simp at hc
theorem indexByteA (s : List UInt8) (c : Nat) (H : Heap) : ACall Tryz.prog 209 [.str s, .int .u8 (c : Int)] H (fun y H' => y = .int .i64 (Lib.indexByte s c.toUInt8) ∧ H' = H) := by
 refine ACall.lib _ fun g vs w k st => ?_
 obtain ⟨v, u, rfl, hv, hu⟩ := relvs2 k
 cases hv; cases hu
 refine (Tryz.strings_IndexByte ⟨s.toArray⟩ (c : Int) w).mono ?_
 rintro e w' ⟨rfl, rfl⟩
 rw [eE]
 exact ⟨_, rfl, .int _ _, Below.refl _ _⟩
section
open Go Go.RowKit Go.Lib

def abA (p : Nat → Bool) : Nat → List UInt8 → List UInt8
 | 0, l => l
 | f + 1, l => if l = [] then [] else if p (decodeL l).1 then abA p f (l.drop (decodeL l).2) else l
def abQ (p : Nat → Bool) : Nat → List UInt8 → List UInt8
 | 0, l => l
 | f + 1, l => if l = [] then [] else if p (decodeLastL l).1 then abQ p f (l.take (l.length - (decodeLastL l).2)) else l
def abT (p : Nat → Bool) (l : List UInt8) : List UInt8 := abQ p l.length (abA p l.length l)
theorem akL (p : Nat → Bool) : ∀ f, abA p f [] = []
 | 0 => rfl
 | f + 1 => by simp [abA]
theorem acO (p : Nat → Bool) : ∀ f, abQ p f [] = []
 | 0 => rfl
 | f + 1 => by simp [abQ]
theorem amU (p : Nat → Bool) (f : Nat) {l : List UInt8} (h : l ≠ []) : abA p (f + 1) l = if p (decodeL l).1 = true then abA p f (l.drop (decodeL l).2) else l := by
 simp [abA, h]
theorem axY (p : Nat → Bool) (f : Nat) {l : List UInt8} (h : l ≠ []) : abQ p (f + 1) l = if p (decodeLastL l).1 = true then abQ p f (l.take (l.length - (decodeLastL l).2)) else l := by
 simp [abQ, h]
theorem bcR (p : Nat → Bool) (s : ByteArray) : ∀ (f pos : Nat), s.size ≤ pos + f →
  abA p f (s.data.toList.drop pos) = if idxFuncFrom p false s f pos = -1 then [] else s.data.toList.drop (idxFuncFrom p false s f pos).toNat
 | 0, pos, h => by
  have : s.data.toList.drop pos = [] := fA (by rw [← size_eq]; omega)
  simp [abA, idxFuncFrom, this]
 | f + 1, pos, h => by
  by_cases hp : pos < s.size
  ·have hne : s.data.toList.drop pos ≠ [] := by
    intro h0
    have := congrArg List.length h0
    rw [bS, ← size_eq] at this
    simp at this
    omega
   have hw := width_pos s pos
   simp only [abA, idxFuncFrom, aN hne, aO hp, decodeL_drop]
   cases hsp : p (Utf8.decode s pos).1 with
   | true =>
    simp only [if_true, fU, Bool.true_eq_false, if_false]
    exact bcR p s f _ (by omega)
   | false =>
    simp only [eG, if_false, if_true]
    rw [aN (by omega), eE]
  have : s.data.toList.drop pos = [] := fA (by rw [← size_eq]; omega)
  rw [this, akL, idxFuncFrom_end p false s _ _ hp, aO rfl]
theorem ahF (p : Nat → Bool) (s : ByteArray) : (trimLeftF p s).data.toList = abA p s.data.toList.length s.data.toList := by
 have h := bcR p s s.size 0 (by omega)
 rw [dK] at h
 rw [← size_eq, h]
 unfold trimLeftF idxFunc
 split
 ·rfl
 rw [extract_data, aU (by rw [bS, ← size_eq]; exact aX _)]
theorem adM (p : Nat → Bool) : ∀ (f : Nat) (l : List UInt8), (abA p f l).length ≤ l.length
 | 0, _ => aX _
 | f + 1, l => by
  unfold abA
  split
  ·simp
  split
  ·exact aZ (adM p f _) (by rw [bS]; omega)
  exact aX _
theorem aeK (p : Nat → Bool) : ∀ (f : Nat) (l : List UInt8), (abQ p f l).length ≤ l.length
 | 0, _ => aX _
 | f + 1, l => by
  unfold abQ
  split
  ·simp
  split
  ·exact aZ (aeK p f _) (by rw [aQ]; omega)
  exact aX _
theorem amT (p : Nat → Bool) : ∀ (f g : Nat) (l : List UInt8), l.length ≤ f → l.length ≤ g → abQ p f l = abQ p g l
 | 0, g, l, hf, _ => by
  have : l = [] := List.eq_nil_of_length_eq_zero (by omega)
  rw [this, acO, acO]
 | f + 1, 0, l, _, hg => by
  have : l = [] := List.eq_nil_of_length_eq_zero (by omega)
  rw [this, acO, acO]
 | f + 1, g + 1, l, hf, hg => by
  by_cases hne : l = []
  ·rw [hne, acO, acO]
  have hw := decodeLastL_width l (cI.2 hne)
  simp only [abQ, aN hne]
  split
  ·exact amT p f g _ (by rw [aQ]; omega) (by rw [aQ]; omega)
  rfl
theorem opensP (p : Nat → Bool) (hp : p 65533 = false) (l : List UInt8) (i : Nat) (hi : 0 < i) (hil : i ≤ l.length) (hsp : p (decodeLastL (l.take i)).1 = true) : OpenAt l (i - (decodeLastL (l.take i)).2) := by
 rcases last_cases l i hi hil with ⟨ha, hd⟩ | ⟨ha, hd⟩ | ⟨ha, st, hst, hd, hsum⟩
 ·rw [hd]
  exact .inr (by show (l.getD (i - 1) 0).toNat / 64 ≠ 2; omega)
 ·rw [hd] at hsp
  exact absurd hsp (by rw [hp]; decide)
 rw [hd] at hsp ⊢
 rw [show i - (decodeL ((l.take i).drop st)).2 = st by omega]
 refine .inr fun hc => ?_
 rw [decodeL_N, getD_dropU, cC, getD_takeU l i st hst, decodeN_cont _ _ _ _ _ hc] at hsp
 exact absurd hsp (by rw [hp]; decide)
theorem avD (p : Nat → Bool) (hp : p 65533 = false) (s : ByteArray) : ∀ (f i : Nat), i ≤ f → i ≤ s.data.toList.length → OpenAt s.data.toList i →
  abQ p f (s.data.toList.take i) = s.data.toList.take (if 0 ≤ lastIdxFuncFrom p false s f i then (lastIdxFuncFrom p false s f i).toNat + (decodeL (s.data.toList.drop (lastIdxFuncFrom p false s f i).toNat)).2 else 0)
 | 0, i, hf, _, _ => by
  obtain rfl : i = 0 := by omega
  simp [abQ, lastIdxFuncFrom]
 | f + 1, i, hf, hil, ho => by
  by_cases hi : 0 < i
  ·have hlen : (s.data.toList.take i).length = i := by rw [aQ]; omega
   have hne : s.data.toList.take i ≠ [] := fun h => by rw [h] at hlen; simp at hlen; omega
   have hw := decodeLastL_width (s.data.toList.take i) (by omega)
   rw [hlen] at hw
   simp only [abQ, lastIdxFuncFrom, aN hne, aO hi, hlen]
   cases hsp : p (decodeLastL (s.data.toList.take i)).1 with
   | true =>
    simp only [if_true, Bool.true_eq_false, if_false]
    rw [List.take_take, dE (by omega)]
    exact avD p hp s f _ (by omega) (by omega) (opensP p hp _ i hi hil hsp)
   | false =>
    simp only [eG, if_false, if_true]
    rw [aO (by omega), eE, fw_width _ i hi hil ho, Nat.sub_add_cancel hw.2]
  obtain rfl : i = 0 := by omega
  rw [lastIdxFuncFrom_zero]
  simp [acO]
theorem arJ (p : Nat → Bool) (s : ByteArray) : ∀ (f i : Nat), i ≤ s.size → lastIdxFuncFrom p false s f i = -1 ∨ (0 ≤ lastIdxFuncFrom p false s f i ∧ lastIdxFuncFrom p false s f i < i)
 | 0, _, _ => .inl rfl
 | f + 1, i, hi => by
  unfold lastIdxFuncFrom
  split
  ·rename_i h0
   have hw := decodeLastL_width (s.data.toList.take i) (by rw [aQ, ← size_eq]; omega)
   rw [aQ, ← size_eq, dE hi] at hw
   split
   ·exact .inr ⟨by omega, by omega⟩
   rcases arJ p s f (i - (decodeLastL (s.data.toList.take i)).2) (by omega) with h | h
   ·exact .inl h
   exact .inr ⟨h.1, by omega⟩
  exact .inl rfl
theorem ajH (p : Nat → Bool) (hp : p 65533 = false) (s : ByteArray) : (trimRightF p s).data.toList = abQ p s.data.toList.length s.data.toList := by
 have h := avD p hp s s.size s.size (aX _) (by rw [← size_eq]; exact aX _) (.inl (size_eq s))
 rw [aU (by rw [← size_eq]; exact aX _)] at h
 rw [← size_eq, h]
 unfold trimRightF rightEndF lastIdxFunc
 rw [extract_data, dK, Nat.sub_zero]
 congr 1
 split
 ·rename_i h0
  congr 2
  rcases arJ p s s.size s.size (aX _) with hm | hlt
  ·omega
  have hx : s.extract (lastIdxFuncFrom p false s s.size s.size).toNat s.size = ⟨(s.data.toList.drop (lastIdxFuncFrom p false s s.size s.size).toNat).toArray⟩ := by
   rw [extract_eq, aU (by rw [bS, ← size_eq]; exact aX _)]
  have hxs : (⟨(s.data.toList.drop (lastIdxFuncFrom p false s s.size s.size).toNat).toArray⟩ : ByteArray).size ≠ 0 := by
   rw [size_eq]
   simp only [bS]
   rw [← size_eq]
   omega
  rw [hx]
  unfold decodeGoB decodeL
  rw [aN hxs]
 rfl
theorem trimF_eq (p : Nat → Bool) (hp : p 65533 = false) (s : ByteArray) : (trimF p s).data.toList = abT p s.data.toList := by
 unfold trimF abT
 rw [ajH p hp, ahF]
 exact amT p _ _ _ (aX _) (adM p _ _)
/-! ### the blanks of an entry -/
def yL (r : Nat) : Bool := r == 32 || r == 9 || r == 160 || r == 8239
def adY (r : Nat) : Bool := decide (48 ≤ r) && decide (r ≤ 57)
end
section
open Go Go.RowKit Go.Lib
set_option maxRecDepth 100000

theorem blank_at (x : Nat) (W : World) : Calls Tryz.prog 92 #[.int .i32 (x : Int)] W fun e w' => e = .returned (.bool (yL x)) ∧ ∃ q, w' = W.drewN q := by
 by_cases h1 : x = 32
 ·subst h1
  go_enter Tryz.func92, Tryz.ntmps92
  go_wp2
  refine ⟨rfl, _, by simp [results, Tryz.results92]; rfl, ?_, 0, rfl⟩
  first | rfl | simp [yL, *] | (simp only [yL]; congr 1; simp [*])
 by_cases h2 : x = 9
 ·subst h2
  go_enter Tryz.func92, Tryz.ntmps92
  go_wp2
  refine ⟨rfl, _, by simp [results, Tryz.results92]; rfl, ?_, 0, rfl⟩
  first | rfl | simp [yL, *] | (simp only [yL]; congr 1; simp [*])
 by_cases h3 : x = 160
 ·subst h3
  go_enter Tryz.func92, Tryz.ntmps92
  go_wp2
  refine ⟨rfl, _, by simp [results, Tryz.results92]; rfl, ?_, 0, rfl⟩
  first | rfl | simp [yL, *] | (simp only [yL]; congr 1; simp [*])
 by_cases h4 : x = 8239
 ·subst h4
  go_enter Tryz.func92, Tryz.ntmps92
  go_wp2
  refine ⟨rfl, _, by simp [results, Tryz.results92]; rfl, ?_, 0, rfl⟩
  first | rfl | simp [yL, *] | (simp only [yL]; congr 1; simp [*])
 have b1 : ((x : Int) == 32) = false := by simp; omega
 have b2 : ((x : Int) == 9) = false := by simp; omega
 have b3 : ((x : Int) == 160) = false := by simp; omega
 have b4 : ((x : Int) == 8239) = false := by simp; omega
 have c1 : ¬ (x : Int) = 32 := by omega
 have c2 : ¬ (x : Int) = 9 := by omega
 have c3 : ¬ (x : Int) = 160 := by omega
 have c4 : ¬ (x : Int) = 8239 := by omega
 have hb : yL x = false := by simp [yL, h1, h2, h3, h4]
 rw [hb]
 go_enter Tryz.func92, Tryz.ntmps92
 go_wp2
 refine ⟨rfl, _, by simp [results, Tryz.results92]; rfl, ?_, 0, rfl⟩
 first | rfl | simp [*]
theorem digit_at (x : Nat) (W : World) : Calls Tryz.prog 213 #[.int .i32 (x : Int)] W fun e w' => e = .returned (.bool (adY x)) ∧ ∃ q, w' = W.drewN q := by
 have hd : adY x = (decide ((48 : Int) ≤ (x : Int)) && decide ((x : Int) ≤ 57)) := by
  unfold adY
  rw [show decide (48 ≤ x) = decide ((48 : Int) ≤ (x : Int)) from bA.2 (by omega), show decide (x ≤ 57) = decide ((x : Int) ≤ 57) from bA.2 (by omega)]
 rw [hd]
 by_cases h1 : (48 : Int) ≤ (x : Int)
 ·rw [bH h1]
  go_enter Tryz.func213, Tryz.ntmps213
  go_wp2
  refine ⟨rfl, _, by simp [results, Tryz.results213]; rfl, ?_, 0, rfl⟩
  first | rfl | simp [*]
 rw [bG h1]
 go_enter Tryz.func213, Tryz.ntmps213
 go_wp2
 refine ⟨rfl, _, by simp [results, Tryz.results213]; rfl, ?_, 0, rfl⟩
 first | rfl | simp [*]

theorem relfn {f : FuncId} {v : Value} (h : RelV g (.func f []) v) : v = .func (.func f) #[] #[] := by
 cases h with
 | func _ _ vs hn _ =>
  have : vs = #[] := Array.eq_empty_of_size_eq_zero (by simpa using hn.symm)
  rw [this]
theorem anH {W : World} (h : Inv W) {n : Nat} {d : DataW Unit} {xs : List Value} (hn : (n, d) ∈ aoN) (hx : afB 4 d = some xs) {i : Nat} {v : Value} (hi : xs[i]? = some v) : W.cell? ⟨n, i, none⟩ = some v := by
 obtain ⟨T, fz, hh⟩ := h.rows n d hn xs hx
 unfold World.cell?
 rw [hh]
 simpa using hi
theorem bgL : afB 4 Rows.laid_unicode_utf8_first = some ((List.range 256).map fun c => Value.int .u8 (Lib.firstT c)) := by kernel_rfl
theorem aoU : afB 4 Rows.laid_unicode_utf8_acceptRanges = some ((List.range 32).map fun c => Value.int .u8 (if c % 2 = 0 then Lib.accLo (c / 2) else Lib.accHi (c / 2))) := by kernel_rfl
theorem Sat.utf8 {H : Heap} {w : World} (s : Sat g H w) : Lib.Utf8Tabs 5 6 w := by
 have hl := g.hinv.size
 have key : ∀ (n : Nat), n < 12 → ∀ i, w.cell? ⟨n, i, none⟩ = g.base.cell? ⟨n, i, none⟩ := fun n hn i => World.cell?_of_block (s.below.block n (by omega))
 refine ⟨fun c hc => ?_, fun i hi => ⟨?_, ?_⟩⟩
 ·rw [key 5 (by decide)]
  exact anH g.hinv (by simp [aoN]) bgL (by simp [hc])
 ·rw [key 6 (by decide)]
  refine anH g.hinv (by simp [aoN]) aoU ?_
  rw [dW, List.getElem?_range (by omega)]
  simp
 rw [key 6 (by decide)]
 refine anH g.hinv (by simp [aoN]) aoU ?_
 rw [dW, List.getElem?_range (by omega)]
 simp only [Option.map_some]
 rw [aN (by omega), show (2 * i + 1) / 2 = i by omega]
theorem amV (p : Nat → Bool) (s : List UInt8) : (abT p s).length ≤ s.length := aZ (aeK p _ _) (adM p _ _)
theorem bbO {b : ByteArray} {l : List UInt8} (h : b.data.toList = l) (hl : l.length ≤ maxLen) : RelV g (.str l) (.string b) := by
 have e : b = ⟨l.toArray⟩ := by subst h; simp
 rw [e]; exact .str l hl
theorem akW (w : World) : PredAt Tryz.prog 92 #[] encR yL w := fun W x _ => blank_at x W
theorem bgX (w : World) : PredAt Tryz.prog 213 #[] encR adY w := fun W x _ => digit_at x W
theorem trimFuncA (s : List UInt8) (H : Heap) : ACall Tryz.prog 91 [.str s, .func 92 []] H (fun y H' => y = .str (abT yL s) ∧ H' = H) := by
 refine ACall.lib _ fun g vs w k st => ?_
 obtain ⟨v, u, rfl, hv, hu⟩ := relvs2 k
 cases hv with | str _ hs => ?_
 rw [relfn hu]
 refine (Tryz.strings_TrimFunc 92 #[] Tryz.call92 yL ⟨s.toArray⟩ w (by show s.toArray.size ≤ _; rw [zW] at hs; simpa using hs) st.utf8 (akW w)).mono ?_
 rintro e w' ⟨rfl, hb⟩
 exact ⟨_, rfl, bbO (trimF_eq yL (by decide) _) (aZ (amV _ _) hs), hb⟩
theorem trimRightFuncA (s : List UInt8) (H : Heap) : ACall Tryz.prog 157 [.str s, .func 92 []] H (fun y H' => y = .str (abQ yL s.length s) ∧ H' = H) := by
 refine ACall.lib _ fun g vs w k st => ?_
 obtain ⟨v, u, rfl, hv, hu⟩ := relvs2 k
 cases hv with | str _ hs => ?_
 rw [relfn hu]
 refine (Tryz.strings_TrimRightFunc 92 #[] Tryz.call92 yL ⟨s.toArray⟩ w (by show s.toArray.size ≤ _; rw [zW] at hs; simpa using hs) st.utf8 (akW w)).mono ?_
 rintro e w' ⟨rfl, hb⟩
 exact ⟨_, rfl, bbO (ajH yL (by decide) _) (aZ (aeK _ _ _) hs), hb⟩
theorem trimLeftFuncA (s : List UInt8) (H : Heap) : ACall Tryz.prog 96 [.str s, .func 92 []] H (fun y H' => y = .str (abA yL s.length s) ∧ H' = H) := by
 refine ACall.lib _ fun g vs w k st => ?_
 obtain ⟨v, u, rfl, hv, hu⟩ := relvs2 k
 cases hv with | str _ hs => ?_
 rw [relfn hu]
 refine (Tryz.strings_TrimLeftFunc 92 #[] Tryz.call92 yL ⟨s.toArray⟩ w (akW w)).mono ?_
 rintro e w' ⟨rfl, hb⟩
 exact ⟨_, rfl, bbO (ahF yL _) (aZ (adM _ _ _) hs), hb⟩
theorem trimDigitsA (s : List UInt8) (H : Heap) : ACall Tryz.prog 96 [.str s, .func 213 []] H (fun y H' => y = .str (abA adY s.length s) ∧ H' = H) := by
 refine ACall.lib _ fun g vs w k st => ?_
 obtain ⟨v, u, rfl, hv, hu⟩ := relvs2 k
 cases hv with | str _ hs => ?_
 rw [relfn hu]
 refine (Tryz.strings_TrimLeftFunc 213 #[] Tryz.call213 adY ⟨s.toArray⟩ w (bgX w)).mono ?_
 rintro e w' ⟨rfl, hb⟩
 exact ⟨_, rfl, bbO (ahF adY _) (aZ (adM _ _ _) hs), hb⟩
theorem alG (old new : List UInt8) : ∀ (k : Nat) (s : List UInt8), (Lib.replaceK old new k s).length ≤ s.length + k * new.length
 | 0, s => by rw [Lib.replaceK]; omega
 | k + 1, s => by
  rw [Lib.replaceK]
  split
  ·omega
  have h := alG old new k (s.drop ((Lib.index s old).toNat + old.length))
  simp only [aS, aQ, bS] at *
  rw [bP]
  omega
theorem atW (sub : List UInt8) : ∀ (f : Nat) (s : List UInt8), Lib.countFrom sub f s ≤ f
 | 0, s => aX _
 | f + 1, s => by
  rw [Lib.countFrom]
  split
  ·omega
  have := atW sub f (s.drop ((Lib.index s sub).toNat + sub.length)); omega
theorem aiL (s old new : List UInt8) : (Lib.replaceAll s old new).length ≤ s.length + (s.length + 1) * new.length := by
 unfold Lib.replaceAll Lib.replace
 split
 ·omega
 refine aZ (alG _ _ _ _) (Nat.add_le_add_left (aV _ ?_) _)
 unfold Lib.replaceNum
 rw [aO (.inl (by decide))]
 exact atW _ _ _
theorem replaceA (s old new : List UInt8) (hs : s.length ≤ 100000) (ho : 1 ≤ old.length) (hn : new.length ≤ 10) (H : Heap) : ACall Tryz.prog 210 [.str s, .str old, .str new] H (fun y H' => y = .str (Lib.replaceAll s old new) ∧ H' = H) := by
 refine ACall.lib _ fun g vs w k st => ?_
 obtain ⟨v, u, x, rfl, hv, hu, hx⟩ := relvs3 k
 cases hv with | str _ hs2 => ?_
 cases hu; cases hx
 obtain ⟨m, hm⟩ := st.maxCell
 have hc : Lib.countB ⟨s.toArray⟩ ⟨old.toArray⟩ ≤ s.length + 1 := by
  show Lib.count s old ≤ _
  exact atW _ _ _
 have hcn : Lib.countB ⟨s.toArray⟩ ⟨old.toArray⟩ * new.length ≤ (s.length + 1) * 10 := dZ hc hn
 have hl := aiL s old new
 have hl2 : (s.length + 1) * new.length ≤ (s.length + 1) * 10 := bT _ hn
 refine (Tryz.strings_ReplaceAll ⟨s.toArray⟩ ⟨old.toArray⟩ ⟨new.toArray⟩ m w (by show s.toArray.size < _; rw [dX]; omega) hm (by show 1 ≤ old.toArray.size; rw [dX]; omega) (by show s.toArray.size + _ * new.toArray.size ≤ _; rw [dX, dX]; omega)).mono ?_
 rintro e w' ⟨rfl, hb⟩
 exact ⟨_, rfl, .str _ (by rw [zW]; show (Lib.replaceAll s old new).length ≤ _; omega), hb⟩
def IsErr (b : Bool) (x : AV) : Prop := (b = false ∧ x = .nilIface) ∨ (b = true ∧ ∃ t y, x = .iface t y)
def akC (s : List UInt8) : Bool := match Lib.atoiAll s with | .ok _ => false | _ => true
theorem ACall.libE {P : Program} {f : FuncId} {xs : List AV} {H : Heap} (Y : AV → Prop) (h : ∀ g vs w, RelVs g xs vs → Sat g H w → Calls P f vs.toArray w (fun e w' => ∃ v y, e = .returned v ∧ RelV g y v ∧ Y y ∧ Below w.heap.size w w')) : ACall P f xs H (fun z H' => Y z ∧ H' = H) :=
 fun g vs w k s => (h g vs w k s).mono fun _ _ ⟨v, y, he, hr, hy, hb⟩ => ⟨v, he, g, y, H, .id, hr, s.grow hb, hy, rfl⟩
theorem atoiAny (s : List UInt8) (hs : s.length ≤ 100000) (H : Heap) : ACall Tryz.prog 257 [.str s] H (fun z H' => (∃ v ev, z = .tuple [.int .i64 v, ev] ∧ IsErr (akC s) ev ∧ (akC s = false → Lib.atoiAll s = .ok v)) ∧ H' = H) := by
 refine ACall.libE _ fun g vs w k st => ?_
 obtain ⟨x, rfl, hx⟩ := relvs1 k
 cases hx with | str _ hs2 => ?_
 have cell : ∀ n, n = 8 ∨ n = 9 → ∃ te pe, w.cell? ⟨n, 0, none⟩ = some (.iface te pe) := fun n hn => by
  obtain ⟨te, pe, h⟩ := g.hinv.errs n hn
  have hlt := World.block_lt_of_cell? _ (a := ⟨n, 0, none⟩) h
  exact ⟨te, pe, by rw [World.cell?_of_block (w := g.base) (st.below.block n hlt)]; exact h⟩
 cases hr : Lib.atoiAll s with
 | ok v =>
  refine (Tryz.strconv_Atoi_ok ⟨s.toArray⟩ (by show s.toArray.size ≤ _; rw [dX]; omega) v hr w).mono ?_
  rintro e w' ⟨rfl, hw⟩
  refine ⟨_, _, rfl, RelV.two (.int _ _) .nilIface, ⟨v, _, rfl, .inl ⟨by unfold akC; rw [hr], rfl⟩, fun _ => rfl⟩, ?_⟩
  rcases hw with rfl | ⟨t, rfl⟩
  ·exact Below.refl _ _
  exact ⟨rfl, rfl, rfl, by rw [Lib.bytesWorld_size]; omega, fun k hk => Lib.bytesWorld_at_old _ _ _ k hk⟩
 | range =>
  obtain ⟨te, pe, hc⟩ := cell 9 (.inr rfl)
  refine (Tryz.strconv_Atoi_range ⟨s.toArray⟩ (by show s.toArray.size ≤ _; rw [dX]; omega) hr _ w hc (.inr ⟨te, pe, rfl⟩)).mono ?_
  rintro e w' ⟨N, rfl, _, _, hb⟩
  exact ⟨_, _, rfl, RelV.two (.int _ _) (.iface _ _ _ (.ptr _)), ⟨_, _, rfl, .inr ⟨by unfold akC; rw [hr], _, _, rfl⟩, fun h => by unfold akC at h; rw [hr] at h; cases h⟩, hb⟩
 | _ =>
  obtain ⟨te, pe, hc⟩ := cell 8 (.inl rfl)
  refine (Tryz.strconv_Atoi_syntax ⟨s.toArray⟩ (by show s.toArray.size ≤ _; rw [dX]; omega) (by show Lib.atoiAll s = _; rw [hr]; rfl) _ w hc (.inr ⟨te, pe, rfl⟩)).mono ?_
  rintro e w' ⟨N, rfl, _, _, hb⟩
  exact ⟨_, _, rfl, RelV.two (.int _ _) (.iface _ _ _ (.ptr _)), ⟨_, _, rfl, .inr ⟨by unfold akC; rw [hr], _, _, rfl⟩, fun h => by unfold akC at h; rw [hr] at h; cases h⟩, hb⟩
section
variable {P : Program} {env : Env} {H : Heap} {dst : Option Tmp} {ty : TypeId} {pos : String} {af : Array Edge} {gd : Option (Nat × Bool)}
theorem asO (hu : P.underlying T = some (.interface ms)) (t : TypeId) (v : Value) (w : World) : (Op.equal T (.iface t v) .nilIface).run P w = .ok false w := by
 have key : ∀ d, (Op.equalIn (d + 1) T (.iface t v) .nilIface).run P w = .ok false w := fun d => by simp [Op.equalIn, underlying, hu]
 exact key 9999
theorem ayN (hu : P.underlying T = some (.interface ms)) (w : World) : (Op.equal T .nilIface .nilIface).run P w = .ok true w := by
 have key : ∀ d, (Op.equalIn (d + 1) T .nilIface .nilIface).run P w = .ok true w := fun d => by simp [Op.equalIn, underlying, hu]
 exact key 9999
theorem bfC {T' : TypeId} {x : Operand} {b : Bool} {e : AV} (hu : P.underlying T = some (.interface ms)) (hx : Ev env x e) (hb : IsErr b e) : APure P ⟨dst, .binOp .neq T x (.const .nilIface) T', ty, pos, af, gd⟩ env (.bool b) := by
 intro g n a ka
 obtain ⟨v, he, hv⟩ := ev1 hx ka
 rcases hb with ⟨rfl, rfl⟩ | ⟨rfl, t, z, rfl⟩
 ·cases hv
  exact ⟨_, .bool _, fun w _ => aeB he rfl (by cases x <;> rfl) (aqR rfl (ayN hu w))⟩
 cases hv
 exact ⟨_, .bool _, fun w _ => aeB he rfl rfl (aqR rfl (asO hu _ _ w))⟩
end
/-! ### digits alone -/
theorem decN_big {n b0 b1 b2 b3 : Nat} (h : 128 ≤ b0) : 128 ≤ (decodeN n b0 b1 b2 b3).1 := by
 unfold decodeN
 repeat' split
 all_goals (simp only; omega)
theorem awY {x : UInt8} {l : List UInt8} : adY (decodeL (x :: l)).1 = true ↔ isD x := by
 rw [decodeL_N]
 simp only [dQ]
 unfold adY isD
 rcases bZ x.toNat 128 with h | h
 ·rw [decodeN_ascii _ _ _ _ _ h]; simp
 have := @decN_big (x :: l).length x.toNat ((x :: l).getD 1 0).toNat ((x :: l).getD 2 0).toNat ((x :: l).getD 3 0).toNat h
 simp only [bK, aM]
 omega
theorem bmL {x : UInt8} {l : List UInt8} (h : isD x) : (decodeL (x :: l)).2 = 1 := by
 rw [decodeL_N]
 simp only [dQ]
 rw [decodeN_ascii _ _ _ _ _ (by unfold isD at h; omega)]
theorem aeJ : ∀ (f : Nat) (s : List UInt8), s.length ≤ f → (abA adY f s = [] ↔ Digs s)
 | f, [], _ => by rw [akL]; exact ⟨fun _ _ h => by simp at h, fun _ => rfl⟩
 | 0, x :: l, h => by simp at h
 | f + 1, x :: l, h => by
  rw [amU _ _ (by simp)]
  by_cases hx : isD x
  ·rw [aO (awY.2 hx), bmL hx, List.drop_succ_cons, dK, aeJ f l (by simpa using h)]
   exact ⟨fun q b hb => by rcases cQ.1 hb with rfl | hb; exact hx; exact q b hb, fun q b hb => q b (by simp [hb])⟩
  rw [aN (fun q => hx (awY.1 q))]
  exact ⟨fun q => by simp at q, fun q => absurd (q x (by simp)) hx⟩

end
end Go.Proofs.YtmmgbnolccpjoaaGreatDoor
