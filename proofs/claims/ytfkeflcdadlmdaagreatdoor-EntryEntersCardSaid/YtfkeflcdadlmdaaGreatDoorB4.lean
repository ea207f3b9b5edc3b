import Derived.Test.YtfkeflcdadlmdaaGreatDoorB2
namespace Go.Proofs.YtfkeflcdadlmdaaGreatDoor
open Go Go.RowKit Go.Lib

def aoC : List (List UInt8) := [[32], [9], [194, 160], [226, 128, 175]]
inductive Blanks : List UInt8 → Prop
 | nil : Blanks []
 | cons {e b : List UInt8} (he : e ∈ aoC) (hb : Blanks b) : Blanks (e ++ b)
theorem Blanks.one {e : List UInt8} (he : e ∈ aoC) : Blanks e := by
 have := Blanks.cons he .nil
 rwa [List.append_nil] at this
theorem Blanks.app {a b : List UInt8} (ha : Blanks a) (hb : Blanks b) : Blanks (a ++ b) := by
 induction ha with
 | nil => exact hb
 | cons he _ ih => rw [List.append_assoc]; exact .cons he ih
theorem Blanks.last {b : List UInt8} (h : Blanks b) : b = [] ∨ ∃ e ∈ aoC, ∃ c, Blanks c ∧ b = c ++ e := by
 induction h with
 | nil => exact .inl rfl
 | @cons e b he hb ih =>
  refine .inr ?_
  rcases ih with rfl | ⟨e2, he2, c, hc, rfl⟩
  ·exact ⟨e, he, [], .nil, by simp⟩
  ·exact ⟨e2, he2, e ++ c, .cons he hc, by simp⟩
theorem abP {e : List UInt8} (he : e ∈ aoC) : e = [32] ∨ e = [9] ∨ e = [194, 160] ∨ e = [226, 128, 175] := by
 simpa [aoC] using he
theorem agV {e : List UInt8} (he : e ∈ aoC) (r : List UInt8) : zQ (decodeL (e ++ r)).1 = true ∧ (decodeL (e ++ r)).2 = e.length := by
 rcases abP he with rfl | rfl | rfl | rfl
 ·rw [show decodeL (([32] : List UInt8) ++ r) = (32, 1) by rw [decodeL_N]; exact decodeN_ascii _ _ _ _ _ (show (32 : UInt8).toNat < 128 by decide)]
  exact ⟨by decide, rfl⟩
 ·rw [show decodeL (([9] : List UInt8) ++ r) = (9, 1) by rw [decodeL_N]; exact decodeN_ascii _ _ _ _ _ (show (9 : UInt8).toNat < 128 by decide)]
  exact ⟨by decide, rfl⟩
 ·have : decodeL (([194, 160] : List UInt8) ++ r) = (160, 2) := by
   rw [decodeL_N]
   simp only [List.cons_append, List.nil_append, List.getD_cons_zero, List.getD_cons_succ, List.length_cons]
   unfold decodeN
   simp
  rw [this]; exact ⟨by decide, rfl⟩
 ·have : decodeL (([226, 128, 175] : List UInt8) ++ r) = (8239, 3) := by
   rw [decodeL_N]
   simp only [List.cons_append, List.nil_append, List.getD_cons_zero, List.getD_cons_succ, List.length_cons]
   unfold decodeN
   simp
  rw [this]; exact ⟨by decide, rfl⟩
theorem enc_num {n b0 b1 b2 b3 : Nat} (h0 : b0 < 256) (h1 : b1 < 256) (h2 : b2 < 256) (h : zQ (decodeN n b0 b1 b2 b3).1 = true) : b0 = 32 ∨ b0 = 9 ∨ (1 < n ∧ b0 = 194 ∧ b1 = 160) ∨ (2 < n ∧ b0 = 226 ∧ b1 = 128 ∧ b2 = 175) := by
 unfold zQ at h
 simp only [Bool.or_eq_true, beq_iff_eq] at h
 unfold decodeN at h
 repeat' split at h
 all_goals (simp only at h; omega)
theorem aaI {c d : UInt8} (h : c.toNat = d.toNat) : c = d := UInt8.toNat_inj.1 h
theorem bjA {l : List UInt8} (h : zQ (decodeL l).1 = true) : ∃ e ∈ aoC, ∃ r, l = e ++ r := by
 rw [decodeL_N] at h
 have k := enc_num (UInt8.toNat_lt _) (UInt8.toNat_lt _) (UInt8.toNat_lt _) h
 match l, k with
 | [], k => simp at k
 | a :: t, k =>
  simp only [List.getD_cons_zero, List.length_cons] at k
  rcases k with k | k | ⟨hn, k, k1⟩ | ⟨hn, k, k1, k2⟩
  ·obtain rfl : a = 32 := aaI k
   exact ⟨[32], by simp [aoC], t, rfl⟩
  ·obtain rfl : a = 9 := aaI k
   exact ⟨[9], by simp [aoC], t, rfl⟩
  ·obtain rfl : a = 194 := aaI k
   match t, hn, k1 with
   | b :: t, _, k1 =>
    obtain rfl : b = 160 := aaI k1
    exact ⟨[194, 160], by simp [aoC], t, rfl⟩
  ·obtain rfl : a = 226 := aaI k
   match t, hn, k1, k2 with
   | [b], hn, _, _ => simp at hn
   | b :: c :: t, _, k1, k2 =>
    obtain rfl : b = 128 := aaI k1
    obtain rfl : c = 175 := aaI k2
    exact ⟨[226, 128, 175], by simp [aoC], t, rfl⟩
theorem anO {e : List UInt8} (he : e ∈ aoC) (r : List UInt8) : zQ (decodeLastL (r ++ e)).1 = true ∧ (decodeLastL (r ++ e)).2 = e.length := by
 rcases abP he with rfl | rfl | rfl | rfl
 ·have : decodeLastL (r ++ [32]) = (32, 1) := by
   unfold decodeLastL
   rw [if_neg (by simp), aaT (by simp), if_pos (by decide)]; rfl
  rw [this]; exact ⟨by decide, rfl⟩
 ·have : decodeLastL (r ++ [9]) = (9, 1) := by
   unfold decodeLastL
   rw [if_neg (by simp), aaT (by simp), if_pos (by decide)]; rfl
  rw [this]; exact ⟨by decide, rfl⟩
 ·have hst : lastStart (r ++ [194, 160]) = r.length := by
   have g2 : (r ++ [194, 160]).getD ((r ++ [194, 160]).length - 2) 0 = 194 := by simp [List.getD]
   unfold lastStart
   simp only [g2]
   rw [if_neg (by simp), if_pos (by decide)]
   simp
  have : decodeLastL (r ++ [194, 160]) = (160, 2) := by
   unfold decodeLastL
   rw [if_neg (by simp), aaT (by simp), if_neg (by decide), hst, List.drop_left, show decodeL [194, 160] = (160, 2) by decide +kernel]
   simp
  rw [this]; exact ⟨by decide, rfl⟩
 ·have hst : lastStart (r ++ [226, 128, 175]) = r.length := by
   have g2 : (r ++ [226, 128, 175]).getD ((r ++ [226, 128, 175]).length - 2) 0 = 128 := by simp [List.getD]
   have g3 : (r ++ [226, 128, 175]).getD ((r ++ [226, 128, 175]).length - 3) 0 = 226 := by simp [List.getD]
   unfold lastStart
   simp only [g2, g3]
   rw [if_neg (by simp), if_neg (by decide), if_neg (by simp), if_pos (by decide)]
   simp
  have : decodeLastL (r ++ [226, 128, 175]) = (8239, 3) := by
   unfold decodeLastL
   rw [if_neg (by simp), aaT (by simp), if_neg (by decide), hst, List.drop_left, show decodeL [226, 128, 175] = (8239, 3) by decide +kernel]
   simp
  rw [this]; exact ⟨by decide, rfl⟩
theorem last_of {l : List UInt8} (h : zQ (decodeLastL l).1 = true) : ∃ e ∈ aoC, ∃ r, l = r ++ e := by
 unfold decodeLastL at h
 split at h
 ·exact absurd h (by decide)
 ·rename_i hn
  have hl := List.length_pos_iff.2 hn
  split at h
  ·have e : l = l.take (l.length - 1) ++ [l.getD (l.length - 1) 0] := by
    have h1 : l.drop (l.length - 1) = [l.getD (l.length - 1) 0] := by
     rw [List.drop_eq_getElem_cons (by omega), List.drop_eq_nil_of_le (by omega)]
     simp [List.getD, List.getElem?_eq_getElem (show l.length - 1 < l.length by omega)]
    rw [← h1, List.take_append_drop]
   unfold zQ at h
   simp only [Bool.or_eq_true, beq_iff_eq] at h
   rcases (by omega : (l.getD (l.length - 1) 0).toNat = 32 ∨ (l.getD (l.length - 1) 0).toNat = 9) with k | k
   ·exact ⟨[32], by simp [aoC], l.take (l.length - 1), by rw [aaI (d := 32) k] at e; exact e⟩
   ·exact ⟨[9], by simp [aoC], l.take (l.length - 1), by rw [aaI (d := 9) k] at e; exact e⟩
  ·simp only at h
   split at h
   ·rename_i hw
    obtain ⟨e, he, r, hr⟩ := bjA h
    have hw2 := (agV he r).2
    rw [← hr] at hw2
    have hlen := congrArg List.length hr
    rw [List.length_drop, List.length_append] at hlen
    have hr0 : r = [] := List.length_eq_zero_iff.1 (by omega)
    subst hr0
    rw [List.append_nil] at hr
    exact ⟨e, he, l.take (lastStart l), by rw [← hr, List.take_append_drop]⟩
   ·exact absurd h (by decide)
theorem aeZ : ∀ (f : Nat) (l : List UInt8), l.length ≤ f → ∃ B, Blanks B ∧ l = B ++ qE zQ f l ∧ (qE zQ f l = [] ∨ zQ (decodeL (qE zQ f l)).1 = false)
 | f, [], _ => ⟨[], .nil, by rw [aaF]; rfl, .inl (aaF _ _)⟩
 | 0, x :: l, h => by simp at h
 | f + 1, x :: l, h => by
  rw [adR _ _ (by simp)]
  split
  ·rename_i hb
   obtain ⟨e, he, r, hr⟩ := bjA hb
   have hw := (agV he r).2
   have hd : (x :: l).drop (decodeL (x :: l)).2 = r := by rw [hr, hw, List.drop_left]
   rw [hd]
   have hlen := congrArg List.length hr
   have he1 : 1 ≤ e.length := by rcases abP he with rfl | rfl | rfl | rfl <;> simp
   rw [List.length_append] at hlen
   obtain ⟨B, hB, h1, h2⟩ := aeZ f r (by omega)
   exact ⟨e ++ B, .cons he hB, by rw [List.append_assoc, ← h1]; exact hr, h2⟩
  ·rename_i hb
   exact ⟨[], .nil, rfl, .inr (by simpa using hb)⟩
theorem afV {B x : List UInt8} (hB : Blanks B) (hx : x = [] ∨ zQ (decodeL x).1 = false) : ∀ f, (B ++ x).length ≤ f → qE zQ f (B ++ x) = x := by
 induction hB with
 | nil => intro f _; exact aoR hx f
 | @cons e b he _ ih =>
  intro f hf
  have he1 : 1 ≤ e.length := by rcases abP he with rfl | rfl | rfl | rfl <;> simp
  have hne : e ++ (b ++ x) ≠ [] := by intro q; rw [(List.append_eq_nil_iff.1 q).1] at he1; simp at he1
  rw [List.append_assoc] at hf ⊢
  rw [List.length_append] at hf
  obtain ⟨g, rfl⟩ : ∃ g, f = g + 1 := ⟨f - 1, by omega⟩
  rw [adR _ _ hne, if_pos (agV he _).1, (agV he _).2, List.drop_left]
  exact ih g (by omega)
theorem asQ {B : List UInt8} (hB : Blanks B) (f : Nat) (hf : B.length ≤ f) : qE zQ f B = [] := by
 have := afV (x := []) hB (.inl rfl) f (by rwa [List.append_nil])
 rwa [List.append_nil] at this
def zS (s : List UInt8) : List UInt8 := qE zQ s.length s
theorem qZ (s : List UInt8) : ∃ B, Blanks B ∧ s = B ++ zS s := by
 obtain ⟨B, h1, h2, _⟩ := aeZ s.length s (Nat.le_refl _)
 exact ⟨B, h1, h2⟩
theorem qY {B x : List UInt8} (hB : Blanks B) (hx : x = [] ∨ zQ (decodeL x).1 = false) : zS (B ++ x) = x := afV hB hx _ (Nat.le_refl _)
theorem ajP {B : List UInt8} (hB : Blanks B) : zS B = [] := asQ hB _ (Nat.le_refl _)
theorem anD {x : List UInt8} (hx : x = [] ∨ zQ (decodeL x).1 = false) : zS x = x := qY .nil hx
theorem aeY : ∀ (f : Nat) (l : List UInt8), l.length ≤ f → ∃ B, Blanks B ∧ l = aaO zQ f l ++ B
 | f, [], _ => ⟨[], .nil, by rw [aaR]; rfl⟩
 | 0, x :: l, h => by simp at h
 | f + 1, x :: l, h => by
  rw [ahK _ _ (by simp)]
  split
  ·rename_i hb
   obtain ⟨e, he, r, hr⟩ := last_of hb
   have hw := (anO he r).2
   have hd : (x :: l).take ((x :: l).length - (decodeLastL (x :: l)).2) = r := by
    rw [hr, hw, List.length_append, Nat.add_sub_cancel, List.take_left]
   rw [hd]
   have hlen := congrArg List.length hr
   have he1 : 1 ≤ e.length := by rcases abP he with rfl | rfl | rfl | rfl <;> simp
   rw [List.length_append] at hlen
   obtain ⟨B, hB, h1⟩ := aeY f r (by omega)
   exact ⟨B ++ e, hB.app (.one he), by rw [← List.append_assoc, ← h1]; exact hr⟩
  ·exact ⟨[], .nil, by simp⟩
theorem aiF {x : List UInt8} (hx : x = [] ∨ zQ (decodeLastL x).1 = false) : ∀ (n : Nat) (B : List UInt8), B.length ≤ n → Blanks B → ∀ f, (x ++ B).length ≤ f → aaO zQ f (x ++ B) = x
 | n, B, hn, hB, f, hf => by
  rcases hB.last with rfl | ⟨e, he, c, hc, rfl⟩
  ·rw [List.append_nil]
   cases f with
   | zero => rfl
   | succ f =>
    by_cases h0 : x = []
    ·subst h0; exact aaR _ _
    ·rw [ahK _ _ h0, if_neg (by rw [hx.resolve_left h0]; decide)]
  ·have he1 : 1 ≤ e.length := by rcases abP he with rfl | rfl | rfl | rfl <;> simp
   rw [← List.append_assoc] at hf ⊢
   rw [List.length_append] at hf hn
   obtain ⟨g, rfl⟩ : ∃ g, f = g + 1 := ⟨f - 1, by omega⟩
   obtain ⟨m, rfl⟩ : ∃ m, n = m + 1 := ⟨n - 1, by omega⟩
   have hne : (x ++ c) ++ e ≠ [] := by intro q; rw [(List.append_eq_nil_iff.1 q).2] at he1; simp at he1
   rw [ahK _ _ hne, if_pos (anO he _).1, (anO he _).2, List.length_append, Nat.add_sub_cancel, List.take_left]
   exact aiF hx m c (by omega) hc g (by omega)
theorem aoP (s : List UInt8) : ∃ B C, Blanks B ∧ Blanks C ∧ s = B ++ qM zQ s ++ C := by
 unfold qM
 obtain ⟨B, hB, h1, _⟩ := aeZ s.length s (Nat.le_refl _)
 obtain ⟨C, hC, h2⟩ := aeY s.length (qE zQ s.length s) (abN _ _ _)
 exact ⟨B, C, hB, hC, by rw [List.append_assoc, ← h2]; exact h1⟩
theorem akS {B C x : List UInt8} (hB : Blanks B) (hC : Blanks C) (hl : x = [] ∨ zQ (decodeL (x ++ C)).1 = false) (hr : x = [] ∨ zQ (decodeLastL x).1 = false) : qM zQ (B ++ x ++ C) = x := by
 unfold qM
 by_cases h0 : x = []
 ·subst h0
  rw [List.append_nil, asQ (hB.app hC) _ (Nat.le_refl _), aaR]
 ·rw [List.append_assoc, afV hB (.inr (hl.resolve_left h0)) _ (Nat.le_refl _)]
  exact aiF hr C.length C (Nat.le_refl _) hC _ (by simp only [List.length_append]; omega)
def secL (l : Loc) : Nat := l.second
def ahA (l : Loc) (n : Nat) : Prop := 3 ≤ n ∧ (n - 3) % secL l = 0
instance (l : Loc) (n : Nat) : Decidable (ahA l n) := by unfold ahA; exact inferInstance
def gRo (l : Loc) (o : Nat) : List UInt8 → Bool → List UInt8
 | [], _ => []
 | c :: t, b => (if b = false ∧ ahA l (t.length + 1 + o) then l.grp else []) ++ c :: gRo l o t false
def gR (l : Loc) (d : List UInt8) : List UInt8 := gRo l 0 d true
theorem biR (l : Loc) (o : Nat) : ∀ (a b : List UInt8) (f : Bool), gRo l o (a ++ b) f = gRo l (o + b.length) a f ++ gRo l o b (f && a.isEmpty)
 | [], b, f => by simp [gRo]
 | c :: t, b, f => by
  rw [List.cons_append, gRo, biR l o t b false, gRo]
  have e : (t ++ b).length + 1 + o = t.length + 1 + (o + b.length) := by rw [List.length_append]; omega
  rw [e]
  simp
theorem arY (l : Loc) (o : Nat) : ∀ (d : List UInt8) (f : Bool), (∀ n, o < n → n ≤ o + d.length → (f = true → n < o + d.length) → ¬ ahA l n) → gRo l o d f = d
 | [], _, _ => rfl
 | c :: t, f, h => by
  rw [gRo, arY l o t false (fun n h1 h2 _ => h n h1 (by simp only [List.length_cons]; omega) (fun _ => by simp only [List.length_cons]; omega))]
  rw [if_neg]
  ·rfl
  ·rintro ⟨hf, hm⟩
   exact h _ (by omega) (by simp only [List.length_cons]; omega) (fun q => by rw [q] at hf; cases hf) hm
def bhH (l : Loc) (i : Nat) : Nat := if i = 0 then 0 else if l.second = 2 then 3 + (i - 1) * 2 else 3 + (i - 1) * 3
theorem baC {l : Loc} (hs : l.second = 2 ∨ l.second = 3) (i n : Nat) (h1 : bhH l i < n) (h2 : n < bhH l i + aaP l i) : ¬ ahA l n := by
 unfold bhH at h1 h2
 unfold aaP at h2
 unfold ahA secL
 rintro ⟨h3, h4⟩
 rcases hs with hs | hs
 ·rw [hs] at h4
  simp only [hs, if_true] at h1 h2
  split at h1
  ·simp only [*, if_true] at h2; omega
  ·simp only [*, if_false] at h2; omega
 ·rw [hs] at h4
  simp only [hs] at h1 h2
  split at h1
  ·simp only [*, if_true] at h2; omega
  ·simp only [*, if_false] at h2; simp at h1 h2; omega
theorem off_next {l : Loc} (hs : l.second = 2 ∨ l.second = 3) (i : Nat) : bhH l (i + 1) = bhH l i + aaP l i ∧ ahA l (bhH l (i + 1)) := by
 unfold bhH aaP ahA secL
 rcases hs with hs | hs
 ·simp only [hs, if_true]
  rcases Nat.eq_zero_or_pos i with rfl | hi
  ·simp
  ·rw [if_neg (by omega), if_neg (by omega), if_neg (by omega)]
   refine ⟨by omega, by omega, by omega⟩
 ·simp only [hs]
  rcases Nat.eq_zero_or_pos i with rfl | hi
  ·simp
  ·rw [if_neg (by omega), if_neg (by decide), if_neg (by omega), if_neg (by decide), if_neg (by omega), if_neg (by decide)]
   refine ⟨by omega, by omega, by omega⟩
theorem auP {l : Loc} (hs : l.second = 2 ∨ l.second = 3) : ∀ (f i : Nat) (d s : List UInt8), d.length ≤ f → arW l f i d s = gRo l (bhH l i) d true ++ s
 | 0, i, d, s, h => by
  have : d = [] := List.length_eq_zero_iff.1 (by omega)
  subst this; rfl
 | f + 1, i, d, s, h => by
  have h2 := afW l i
  unfold arW
  split
  ·rename_i hc
   rw [auP hs f (i + 1) _ _ (by rw [List.length_take]; omega)]
   have hl : (d.drop (d.length - aaP l i)).length = aaP l i := by rw [List.length_drop]; omega
   have hn := off_next hs i
   conv => rhs; rw [← List.take_append_drop (d.length - aaP l i) d]
   rw [biR, hl, ← hn.1]
   have hem : (d.take (d.length - aaP l i)).isEmpty = false := by
    rw [List.isEmpty_eq_false_iff_exists_mem]
    refine ⟨(d.take (d.length - aaP l i))[0]'(by rw [List.length_take]; omega), List.getElem_mem _⟩
   rw [hem, Bool.and_false]
   have hg : gRo l (bhH l i) (d.drop (d.length - aaP l i)) false = l.grp ++ d.drop (d.length - aaP l i) := by
    cases hd : d.drop (d.length - aaP l i) with
    | nil => rw [hd] at hl; simp at hl; omega
    | cons c t =>
     rw [hd] at hl
     simp only [List.length_cons] at hl
     rw [gRo, if_pos ⟨rfl, by rw [show t.length + 1 + bhH l i = bhH l (i + 1) by omega]; exact hn.2⟩]
     rw [arY l _ t false (fun n h3 h4 _ => baC hs i n h3 (by omega))]
   rw [hg]
   simp only [List.append_assoc]
  ·rename_i hc
   rw [arY l _ d true (fun n h3 h4 h5 => baC hs i n h3 (by have := h5 rfl; omega))]
theorem ayC {l : Loc} (hs : l.second = 2 ∨ l.second = 3) (d : List UInt8) : ahH l d = gR l d := by
 unfold ahH gR
 rw [auP hs _ _ _ _ (Nat.le_refl _), List.append_nil]; rfl
theorem axX : ∀ l ∈ locs, l.second = 2 ∨ l.second = 3 := by
 intro l hl
 simp only [locs, List.mem_cons, List.not_mem_nil, or_false] at hl
 rcases hl with rfl | rfl | rfl | rfl | rfl | rfl <;> simp

/-! ### chains -/
inductive Ch (l : Loc) : List UInt8 → List UInt8 → Prop
 | nil : Ch l [] []
 | cons {r s d : List UInt8} (hr : Digs r) (hn : r ≠ []) (hs : Ch l s d) : Ch l (l.grp ++ r ++ s) (r ++ d)
theorem Ch.digs {l : Loc} {s d : List UInt8} (h : Ch l s d) : Digs d := by
 induction h with
 | nil => intro b hb; simp at hb
 | cons hr _ _ ih => exact Digs.app hr ih
theorem Ch.repl {l : Loc} (hl : l.fine) {s d : List UInt8} (h : Ch l s d) : replaceAll s l.grp [] = d ∧ (s = [] ∨ ∃ z, s = l.grp ++ z) := by
 obtain ⟨c, q, hg, hc, _⟩ := hl.grp
 induction h with
 | nil => exact ⟨by rw [hg]; exact azM, .inl rfl⟩
 | @cons r s d hr hn hs ih =>
  refine ⟨?_, .inr ⟨r ++ s, by rw [List.append_assoc]⟩⟩
  rw [hg] at ih ⊢
  have := aqY (c := c) (q := q) (a := []) (z := r ++ s) (by simp)
  rw [List.nil_append, List.nil_append] at this
  rw [List.append_assoc, this, atH (bbA hr hc) ih.2, ih.1]
theorem Ch.len {l : Loc} (hl : l.fine) {s d : List UInt8} (h : Ch l s d) : d.length ≤ s.length ∧ (s ≠ [] → d.length < s.length) := by
 obtain ⟨c, q, hg, hc, _⟩ := hl.grp
 induction h with
 | nil => exact ⟨Nat.le_refl _, fun h => absurd rfl h⟩
 | @cons r s d hr hn hs ih =>
  have : 1 ≤ l.grp.length := by rw [hg]; simp
  have e : (l.grp ++ r ++ s).length = l.grp.length + r.length + s.length := by simp only [List.length_append]
  rw [e, List.length_append]
  exact ⟨by omega, fun _ => by omega⟩
theorem avE {l : Loc} : ∀ (f i : Nat) (d s e : List UInt8), Digs d → d ≠ [] → Ch l s e → ∃ d0 s0 e0, arW l f i d s = d0 ++ s0 ∧ d0 ≠ [] ∧ Digs d0 ∧ Ch l s0 e0 ∧ d0 ++ e0 = d ++ e
 | 0, _, d, s, e, hd, hn, hs => ⟨d, s, e, rfl, hn, hd, hs, rfl⟩
 | f + 1, i, d, s, e, hd, hn, hs => by
  have h2 := afW l i
  unfold arW
  split
  ·rename_i hc
   have ht : Digs (d.take (d.length - aaP l i)) := fun b hb => hd b (List.mem_of_mem_take hb)
   have hp : Digs (d.drop (d.length - aaP l i)) := fun b hb => hd b (List.mem_of_mem_drop hb)
   have hpn : d.drop (d.length - aaP l i) ≠ [] := by
    intro q; have := congrArg List.length q; rw [List.length_drop] at this; simp at this; omega
   have htn : d.take (d.length - aaP l i) ≠ [] := by
    intro q; have := congrArg List.length q; rw [List.length_take] at this; simp at this; omega
   obtain ⟨d0, s0, e0, h3, h4, h5, h6, h7⟩ := avE f (i + 1) _ _ _ ht htn (.cons hp hpn hs)
   exact ⟨d0, s0, e0, h3, h4, h5, h6, by rw [h7, ← List.append_assoc, List.take_append_drop]⟩
  ·exact ⟨d, s, e, rfl, hn, hd, hs, rfl⟩
theorem axJ {l : Loc} (hl : l.fine) {w d : List UInt8} (h : abX l w = some d) : ∃ d0 s0 d1, w = d0 ++ s0 ∧ d0 ≠ [] ∧ Digs d0 ∧ Ch l s0 d1 ∧ d = d0 ++ d1 := by
 have hs := amW h
 unfold abX at h
 split at h
 ·cases h
 ·split at h
  ·cases h
  ·rename_i h1 h2
   injection h with h
   rw [h] at h1 h2
   by_cases he : d = w
   ·exact ⟨d, [], [], by rw [List.append_nil, he], hs.2.2, hs.1, .nil, by simp⟩
   ·have hg : ahH l d = w := Decidable.by_contra fun q => h2 ⟨he, q⟩
    obtain ⟨d0, s0, e0, h3, h4, h5, h6, h7⟩ := avE (l := l) d.length 0 d [] [] hs.1 hs.2.2 .nil
    exact ⟨d0, s0, e0, by rw [← h3]; exact hg.symm, h4, h5, h6, by rw [h7, List.append_nil]⟩
theorem ahW {l : Loc} (hl : l.fine) {d0 s0 d1 : List UInt8} (h0 : d0 ≠ []) (hd : Digs d0) (hc : Ch l s0 d1) :
  abX l (d0 ++ s0) = (if s0 ≠ [] ∧ ahH l (d0 ++ d1) ≠ d0 ++ s0 then none else some (d0 ++ d1)) ∧ ((d0 ++ d1 = d0 ++ s0) ↔ s0 = []) := by
 obtain ⟨c, q, hg, hcd, _⟩ := hl.grp
 have hr := hc.repl hl
 have hlen := hc.len hl
 have e : replaceAll (d0 ++ s0) l.grp [] = d0 ++ d1 := by
  rw [hg] at hr ⊢
  rw [atH (bbA hd hcd) hr.2, hr.1]
 have hiff : (d0 ++ d1 = d0 ++ s0) ↔ s0 = [] := by
  constructor
  ·intro h
   have h1 := List.append_cancel_left h
   refine Decidable.by_contra fun q => ?_
   have := hlen.2 q
   rw [h1] at this; omega
  ·rintro rfl
   have : d1 = [] := List.length_eq_zero_iff.1 (by have := hlen.1; simpa using this)
   rw [this]
 refine ⟨?_, hiff⟩
 unfold abX
 rw [e, if_neg]
 ·by_cases hs : s0 = []
  ·rw [if_neg (fun q => q.1 (hiff.2 hs)), if_neg (fun q => q.1 hs)]
  ·by_cases hgp : ahH l (d0 ++ d1) = d0 ++ s0
   ·rw [if_neg (fun q => q.2 hgp), if_neg (fun q => q.2 hgp)]
   ·rw [if_pos ⟨fun q => hs (hiff.1 q), hgp⟩, if_pos ⟨hs, hgp⟩]
 ·rintro (h | h)
  ·simp [h0] at h
  ·exact alF.1 h (Digs.app hd hc.digs)

/-! ### as the document reads them -/
def ajQ (c : UInt8) : Bool := decide (48 ≤ c.toNat) && decide (c.toNat ≤ 57)
theorem afJ {c : UInt8} : ajQ c = true ↔ isD c := by unfold ajQ isD; simp
theorem ayA {c : UInt8} : ajQ c = false ↔ ¬ isD c := by rw [← afJ]; simp
def acH (l : Loc) : Nat → List UInt8 → Option (List UInt8 × Bool)
 | 0, _ => some ([], false)
 | f + 1, s => if s = [] then some ([], false) else if ajQ (s.getD 0 0) = true then (match acH l f (s.drop 1) with | none => none | some (d, m) => some (s.getD 0 0 :: d, m))
  else if hasPrefix s l.grp = true then (match acH l f (s.drop l.grp.length) with | none => none | some (d, _) => some (d, true)) else none
def adC (l : Loc) (s : List UInt8) : Option (List UInt8) :=
 match acH l s.length s with
 | none => none
 | some (d, m) => if d = [] ∨ (m = true ∧ gR l d ≠ s) then none else some d
theorem alV {l : Loc} : ∀ (d s : List UInt8) (f : Nat), Digs d → (d ++ s).length ≤ f → acH l f (d ++ s) = (match acH l (f - d.length) s with | none => none | some (e, m) => some (d ++ e, m))
 | [], s, f, _, _ => by
  simp only [List.nil_append, List.length_nil, Nat.sub_zero]
  cases acH l f s <;> rfl
 | c :: d, s, f, hd, hf => by
  obtain ⟨g, rfl⟩ : ∃ g, f = g + 1 := ⟨f - 1, by simp only [List.cons_append, List.length_cons] at hf; omega⟩
  have ih := alV (l := l) d s g (fun b hb => hd b (by simp [hb])) (by simp only [List.cons_append, List.length_cons] at hf; omega)
  rw [List.cons_append, acH, if_neg (by simp), List.getD_cons_zero, if_pos (afJ.2 (hd c (by simp))), List.drop_succ_cons, List.drop_zero, ih]
  have : g + 1 - (c :: d).length = g - d.length := by simp only [List.length_cons]; omega
  rw [this]
  cases acH l (g - d.length) s <;> rfl
theorem bcI {l : Loc} (hl : l.fine) {s d : List UInt8} (h : Ch l s d) : ∀ f, s.length ≤ f → acH l f s = some (d, !decide (s = [])) := by
 obtain ⟨c, q, hg, hcd, _⟩ := hl.grp
 induction h with
 | nil =>
  intro f _
  cases f <;> simp [acH]
 | @cons r s d hr hn hs ih =>
  intro f hf
  have e : l.grp ++ r ++ s = c :: (q ++ (r ++ s)) := by rw [hg]; simp
  have hlen : (l.grp ++ r ++ s).length = l.grp.length + (r ++ s).length := by simp only [List.length_append]; omega
  have hg1 : 1 ≤ l.grp.length := by rw [hg]; simp
  obtain ⟨g, rfl⟩ : ∃ g, f = g + 1 := ⟨f - 1, by omega⟩
  have hne : l.grp ++ r ++ s ≠ [] := by rw [e]; simp
  have h0 : (l.grp ++ r ++ s).getD 0 0 = c := by rw [e]; rfl
  have hp : hasPrefix (l.grp ++ r ++ s) l.grp = true := by
   unfold hasPrefix; rw [List.isPrefixOf_iff_prefix, List.append_assoc]; exact List.prefix_append _ _
  rw [acH, if_neg hne, h0, if_neg (by rw [ayA.2 hcd]; decide), if_pos hp, List.append_assoc, List.drop_left, alV r s g hr (by omega), ih _ (by have h9 : (r ++ s).length = r.length + s.length := List.length_append; omega)]
  have : decide (l.grp ++ (r ++ s) = []) = false := decide_eq_false (by rw [← List.append_assoc]; exact hne)
  rw [this]; rfl
theorem atY {l : Loc} (hl : l.fine) (hs : l.second = 2 ∨ l.second = 3) {d0 s0 d1 : List UInt8} (h0 : d0 ≠ []) (hd : Digs d0) (hc : Ch l s0 d1) : adC l (d0 ++ s0) = abX l (d0 ++ s0) := by
 rw [(ahW hl h0 hd hc).1]
 unfold adC
 rw [alV d0 s0 _ hd (Nat.le_refl _), bcI hl hc _ (by rw [List.length_append]; omega)]
 simp only
 rw [← ayC hs]
 have hn : ¬ d0 ++ d1 = [] := by simp [h0]
 by_cases h : s0 = []
 ·rw [if_neg, if_neg (fun q => q.1 h)]
  rintro (q | q)
  ·exact hn q
  ·simp [h] at q
 ·by_cases hg : ahH l (d0 ++ d1) = d0 ++ s0
  ·rw [if_neg, if_neg (fun q => q.2 hg)]
   rintro (q | q)
   ·exact hn q
   ·exact q.2 hg
  ·rw [if_pos (.inr ⟨by simp [h], hg⟩), if_pos ⟨h, hg⟩]
/-! ### rows of digits -/
def aaW (s : List UInt8) : List UInt8 := s.takeWhile ajQ
def aaB (s : List UInt8) : List UInt8 := s.dropWhile ajQ
def NoD (s : List UInt8) : Prop := ∀ c t, s = c :: t → ¬ isD c
theorem aaZ (s : List UInt8) : aaW s ++ aaB s = s := List.takeWhile_append_dropWhile
theorem aeP (s : List UInt8) : Digs (aaW s) := by
 intro b hb
 exact afJ.1 (List.all_eq_true.1 (List.all_takeWhile (p := ajQ) (l := s)) b hb)
theorem rest_noD (s : List UInt8) : NoD (aaB s) := by
 intro c t h
 have hn := List.head?_dropWhile_not (p := ajQ) (l := s)
 unfold aaB at h
 rw [h] at hn
 simp only [List.head?_cons] at hn
 exact ayA.1 (by simpa using hn)
theorem afD : ∀ {d y : List UInt8}, Digs d → NoD y → aaW (d ++ y) = d ∧ aaB (d ++ y) = y
 | [], y, _, hy => by
  unfold aaW aaB
  cases y with
  | nil => exact ⟨rfl, rfl⟩
  | cons c t =>
   have := ayA.2 (hy c t rfl)
   simp [this]
 | c :: d, y, hd, hy => by
  have ih := afD (d := d) (y := y) (fun b hb => hd b (by simp [hb])) hy
  have hc := afJ.2 (hd c (by simp))
  unfold aaW aaB at ih ⊢
  simp only [List.cons_append, List.takeWhile_cons, List.dropWhile_cons, hc, if_true]
  exact ⟨by rw [ih.1], ih.2⟩
/-! ### signs -/
def SgOK (l : Loc) (g : List UInt8) (b : Bool) : Prop := (g = [] ∧ b = false) ∨ (g = [43] ∧ b = false) ∨ (g = [45] ∧ b = true) ∨ (g = l.minus ∧ b = true)
def Bare (l : Loc) (s : List UInt8) : Prop := hasPrefix s [43] = false ∧ hasPrefix s [45] = false ∧ hasPrefix s l.minus = false
theorem abL (a b : List UInt8) : hasPrefix (a ++ b) a = true := by
 unfold hasPrefix; rw [List.isPrefixOf_iff_prefix]; exact List.prefix_append _ _
theorem abT {s p : List UInt8} : hasPrefix s p = true ↔ ∃ z, s = p ++ z := by
 unfold hasPrefix; rw [List.isPrefixOf_iff_prefix]
 exact ⟨fun ⟨z, h⟩ => ⟨z, h.symm⟩, fun ⟨z, h⟩ => ⟨z, h.symm⟩⟩
theorem ahL {s p : List UInt8} : hasSuffix s p = true ↔ ∃ z, s = z ++ p := by
 unfold hasSuffix; rw [List.isSuffixOf_iff_suffix]
 exact ⟨fun ⟨z, h⟩ => ⟨z, h.symm⟩, fun ⟨z, h⟩ => ⟨z, h.symm⟩⟩
theorem abZ (a b : List UInt8) : trimPrefix (a ++ b) a = b := by
 unfold trimPrefix; rw [if_pos (abL a b), List.drop_left]
theorem agE (a b : List UInt8) : trimSuffix (a ++ b) b = a := by
 unfold trimSuffix
 rw [if_pos (ahL.2 ⟨a, rfl⟩), List.length_append, Nat.add_sub_cancel, List.take_left]
theorem ajJ {l : Loc} (hl : l.fine) {g : List UInt8} {b : Bool} (hg : SgOK l g b) {x : List UInt8} (hx : g = [] → Bare l x) : yA l (g ++ x) = (x, b) := by
 obtain ⟨c, r, hm, hc, hc2, hc3, hc4, _⟩ := hl.minus
 unfold yA
 rcases hg with ⟨rfl, rfl⟩ | ⟨rfl, rfl⟩ | ⟨rfl, rfl⟩ | ⟨rfl, rfl⟩
 ·have h := hx rfl
  rw [List.nil_append, h.1, h.2.1, h.2.2]; rfl
 ·rw [if_pos (abL _ _), abZ]
 ·rw [if_neg (by rw [zX (by simp)]; decide), if_pos (abL _ _), abZ]
 ·rw [if_neg (by rw [hm, zX (by simpa using hc2)]; decide)]
  by_cases h45 : c = 45
  ·have hm2 : l.minus = [45] := by rw [hm, hc4 h45, h45]
   rw [hm2, if_pos (abL _ _), abZ]
  ·rw [if_neg (by rw [hm, zX (by simpa using h45)]; decide), if_pos (abL _ _), abZ]
theorem aeO (l : Loc) (s : List UInt8) : ∃ g, SgOK l g (yA l s).2 ∧ s = g ++ (yA l s).1 := by
 unfold yA
 split
 ·rename_i h
  obtain ⟨z, rfl⟩ := abT.1 h
  exact ⟨[43], .inr (.inl ⟨rfl, rfl⟩), by rw [abZ]⟩
 ·split
  ·rename_i h
   obtain ⟨z, rfl⟩ := abT.1 h
   exact ⟨[45], .inr (.inr (.inl ⟨rfl, rfl⟩)), by rw [abZ]⟩
  ·split
   ·rename_i h
    obtain ⟨z, rfl⟩ := abT.1 h
    exact ⟨l.minus, .inr (.inr (.inr ⟨rfl, rfl⟩)), by rw [abZ]⟩
   ·exact ⟨[], .inl ⟨rfl, rfl⟩, rfl⟩
theorem avH {l : Loc} (hl : l.fine) {c : UInt8} {t : List UInt8} (h1 : c ≠ 43) (h2 : c ≠ 45) (h3 : ∀ d r, l.minus = d :: r → c ≠ d) : Bare l (c :: t) := by
 obtain ⟨d, r, hm, _⟩ := hl.minus
 exact ⟨zX (by simpa using h1), zX (by simpa using h2), by rw [hm]; exact zX (by simpa using h3 d r hm)⟩
theorem aqG {l : Loc} (hl : l.fine) {c : UInt8} {t : List UInt8} (hc : isD c) : Bare l (c :: t) := by
 obtain ⟨d, r, hm, hd, _⟩ := hl.minus
 exact avH hl (by rintro rfl; exact absurd hc (notD (by decide))) (by rintro rfl; exact absurd hc (notD (by decide))) (fun d2 r2 h2 => by rw [hm] at h2; injection h2 with h2 _; subst h2; rintro rfl; exact hd hc)
theorem sign_app {l : Loc} (hl : l.fine) {s : List UInt8} (hn : (yA l s).1 ≠ []) (hd : Digs (yA l s).1) (z : List UInt8) : yA l (s ++ z) = ((yA l s).1 ++ z, (yA l s).2) := by
 obtain ⟨g, hg, hs⟩ := aeO l s
 have e : s ++ z = g ++ ((yA l s).1 ++ z) := by rw [← List.append_assoc, ← hs]
 rw [e]
 refine ajJ hl hg fun _ => ?_
 cases hp : (yA l s).1 with
 | nil => exact absurd hp hn
 | cons c t => exact aqG hl (hd c (by rw [hp]; simp))

/-! ### whole digits -/
def aeM (l : Loc) (t s : List UInt8) : Bool := (!t.isEmpty && hasPrefix s l.grp) && (decide (l.grp.length < s.length) && ajQ (s.getD l.grp.length 0))
def abH (l : Loc) : Nat → List UInt8 → List UInt8 → List UInt8 → Bool → List UInt8 × List UInt8 × List UInt8 × Bool
 | 0, a, t, s, g => (a, t, s, g)
 | f + 1, a, t, s, g => if aeM l t s = true then abH l f (a ++ aaW (s.drop l.grp.length)) (t ++ l.grp ++ aaW (s.drop l.grp.length)) (aaB (s.drop l.grp.length)) true else (a, t, s, g)
def Stops (l : Loc) (y : List UInt8) : Prop := NoD y ∧ ¬ (hasPrefix y l.grp = true ∧ isD (y.getD l.grp.length 0))
theorem aoT {l : Loc} {t y : List UInt8} (h : Stops l y) : aeM l t y = false := by
 unfold aeM
 rw [Bool.eq_false_iff]
 intro q
 simp only [Bool.and_eq_true] at q
 exact h.2 ⟨q.1.2, afJ.1 q.2.2⟩
theorem aaK {l : Loc} {t y : List UInt8} (h : aeM l t y = false) (f : Nat) (a : List UInt8) (g : Bool) : abH l f a t y g = (a, t, y, g) := by
 cases f with
 | zero => rfl
 | succ f => rw [abH, if_neg (by rw [h]; decide)]
theorem bjO {l : Loc} (hl : l.fine) {s d y : List UInt8} (h : Ch l s d) (hy : NoD y) : NoD (s ++ y) := by
 obtain ⟨c, q, hg, hc, _⟩ := hl.grp
 cases h with
 | nil => exact hy
 | cons hr hn hs =>
  intro b t hb
  rw [hg] at hb
  simp only [List.cons_append] at hb
  injection hb with hb _
  subst hb; exact hc
theorem asO {l : Loc} (hl : l.fine) {s d : List UInt8} (h : Ch l s d) {y : List UInt8} (hy : Stops l y) : ∀ (f : Nat) (a t : List UInt8) (g : Bool), t ≠ [] → s.length ≤ f → abH l f a t (s ++ y) g = (a ++ d, t ++ s, y, g || !decide (s = [])) := by
 obtain ⟨c, q, hg, hc, _⟩ := hl.grp
 induction h with
 | nil =>
  intro f a t g ht _
  rw [List.nil_append, aaK (aoT hy)]
  simp
 | @cons r s d hr hn hs ih =>
  intro f a t g ht hf
  have hg1 : 1 ≤ l.grp.length := by rw [hg]; simp
  have e : (l.grp ++ r ++ s).length = l.grp.length + (r.length + s.length) := by simp only [List.length_append]; omega
  obtain ⟨f, rfl⟩ : ∃ k, f = k + 1 := ⟨f - 1, by omega⟩
  have hr1 : 1 ≤ r.length := List.length_pos_iff.2 hn
  have e2 : l.grp ++ r ++ s ++ y = l.grp ++ (r ++ (s ++ y)) := by simp only [List.append_assoc]
  have hm : aeM l t (l.grp ++ r ++ s ++ y) = true := by
   unfold aeM
   rw [e2, abL]
   have h1 : (l.grp ++ (r ++ (s ++ y))).getD l.grp.length 0 = r.getD 0 0 := by
    cases hr0 : r with
    | nil => exact absurd hr0 hn
    | cons x z => simp [List.getD, List.getElem?_append]
   have h2 : isD (r.getD 0 0) := by
    cases hr0 : r with
    | nil => exact absurd hr0 hn
    | cons x z => rw [hr0] at hr; exact hr x (by simp)
   rw [h1, afJ.2 h2]
   have h3 : t.isEmpty = false := by cases t with
    | nil => exact absurd rfl ht
    | cons _ _ => rfl
   have h4 : l.grp.length < (l.grp ++ (r ++ (s ++ y))).length := by simp only [List.length_append]; omega
   rw [h3, decide_eq_true h4]; rfl
  rw [abH, if_pos hm, e2, List.drop_left, (afD hr (bjO hl hs hy.1)).1, (afD hr (bjO hl hs hy.1)).2, ih _ _ _ _ (by simp [ht]) (by omega)]
  have h5 : decide (l.grp ++ r ++ s = []) = false := decide_eq_false (by rw [hg]; simp)
  rw [h5]
  simp only [List.append_assoc, Bool.true_or, Bool.not_false, Bool.or_true]
theorem akD {l : Loc} (hl : l.fine) : ∀ (f : Nat) (a t s : List UInt8) (g : Bool), ∃ s0 d y, Ch l s0 d ∧ s = s0 ++ y ∧ abH l f a t s g = (a ++ d, t ++ s0, y, g || !decide (s0 = []))
 | 0, a, t, s, g => ⟨[], [], s, .nil, rfl, by simp [abH]⟩
 | f + 1, a, t, s, g => by
  obtain ⟨c, q, hg, hc, _⟩ := hl.grp
  cases hm : aeM l t s with
  | false => exact ⟨[], [], s, .nil, rfl, by rw [aaK hm]; simp⟩
  | true =>
   rw [abH, if_pos hm]
   unfold aeM at hm
   simp only [Bool.and_eq_true] at hm
   obtain ⟨x, rfl⟩ := abT.1 hm.1.2
   rw [List.drop_left]
   have hrn : aaW x ≠ [] := by
    have h1 : (l.grp ++ x).getD l.grp.length 0 = x.getD 0 0 := by
     cases x with
     | nil => simp [List.getD]
     | cons b z => simp [List.getD, List.getElem?_append]
    rw [h1] at hm
    intro h0
    have h2 := aaZ x
    rw [h0, List.nil_append] at h2
    cases x with
    | nil => exact absurd hm.2.2 (by decide)
    | cons b z => exact rest_noD (b :: z) b z h2 (afJ.1 hm.2.2)
   obtain ⟨s0, d, y, h1, h2, h3⟩ := akD hl f (a ++ aaW x) (t ++ l.grp ++ aaW x) (aaB x) true
   refine ⟨l.grp ++ aaW x ++ s0, aaW x ++ d, y, .cons (aeP x) hrn h1, ?_, ?_⟩
   ·rw [List.append_assoc, List.append_assoc, ← h2, aaZ]
   ·rw [h3]
    have h5 : decide (l.grp ++ aaW x ++ s0 = []) = false := decide_eq_false (by rw [hg]; simp)
    rw [h5]
    simp only [List.append_assoc, Bool.true_or, Bool.not_false, Bool.or_true]

/-! ### numbers, as the document reads them -/
def wR (l : Loc) (s : List UInt8) : List UInt8 × List UInt8 × List UInt8 × Bool := abH l s.length (aaW s) (aaW s) (aaB s) false
def pR (l : Loc) (s : List UInt8) : List UInt8 × List UInt8 := if hasPrefix s l.dc = true then (aaW (s.drop l.dc.length), aaB (s.drop l.dc.length)) else ([], s)
def ajH (l : Loc) (s : List UInt8) : Option (Int × Bool × List UInt8) :=
 if s = [] ∨ (s.getD 0 0 ≠ 101 ∧ s.getD 0 0 ≠ 69) then some (0, false, s)
 else if aaW (yA l (s.drop 1)).1 = [] ∨ 9 < (aaW (yA l (s.drop 1)).1).length then none
 else some (if (yA l (s.drop 1)).2 = true then -(num (aaW (yA l (s.drop 1)).1) : Int) else (num (aaW (yA l (s.drop 1)).1) : Int), true, aaB (yA l (s.drop 1)).1)
def ajD (l : Loc) (s : List UInt8) : Option (List UInt8 × Int × Nat × Bool × Bool × List UInt8) :=
 if (wR l s).2.1 ≠ [] ∧ adC l (wR l s).2.1 = none then none
 else if (wR l s).1 = [] ∧ (pR l (wR l s).2.2.1).1 = [] then none
 else match ajH l (pR l (wR l s).2.2.1).2 with
  | none => none
  | some (n, x, z) => some ((wR l s).1 ++ (pR l (wR l s).2.2.1).1, n - ((pR l (wR l s).2.2.1).1.length : Int), (pR l (wR l s).2.2.1).1.length, (wR l s).2.2.2, x, z)

/-! ### what a number is -/
def ExpOK (l : Loc) (E : List UInt8) (n : Int) (x : Bool) : Prop := (E = [] ∧ n = 0 ∧ x = false) ∨ (∃ c S, E = c :: S ∧ (c = 69 ∨ c = 101) ∧ auX l S = some n ∧ x = true)
def avK (l : Loc) (t d : List UInt8) (e : Int) (k : Nat) (gr x : Bool) : Prop :=
 ∃ (W R E : List UInt8) (p : Bool) (dd : List UInt8) (n : Int), t = W ++ ((if p = true then l.dc ++ R else []) ++ E) ∧ (p = false → R = []) ∧ abI l W = some (dd, gr) ∧ Digs R ∧ ¬ (dd = [] ∧ R = []) ∧ ExpOK l E n x ∧ d = dd ++ R ∧ k = R.length ∧ e = n - (R.length : Int)
structure CleanZ (l : Loc) (z : List UInt8) : Prop where
 noD : ∀ b ∈ z, ¬ isD b
 head : ∀ c t, z = c :: t → c ≠ 69 ∧ c ≠ 101 ∧ l.dc ≠ [c]
theorem CleanZ.no {l : Loc} {z : List UInt8} (h : CleanZ l z) : NoD z := fun c t e => h.noD c (by rw [e]; simp)
theorem baV {l : Loc} {S : List UInt8} {n : Int} (h : auX l S = some n) : (yA l S).1 ≠ [] ∧ Digs (yA l S).1 ∧ (yA l S).1.length ≤ 9 ∧ n = (if (yA l S).2 = true then -(num (yA l S).1 : Int) else (num (yA l S).1 : Int)) := by
 unfold auX at h
 split at h
 ·rename_i hc
  injection h with h
  exact ⟨hc.1, acW.1 hc.2.1, hc.2.2, h.symm⟩
 ·cases h
theorem tail_of {l : Loc} (hl : l.fine) {E Z : List UInt8} {n : Int} {x : Bool} (h : ExpOK l E n x) (hz : CleanZ l Z) : ajH l (E ++ Z) = some (n, x, Z) := by
 rcases h with ⟨rfl, rfl, rfl⟩ | ⟨c, S, rfl, hc, he, rfl⟩
 ·unfold ajH
  rw [List.nil_append, if_pos]
  cases Z with
  | nil => exact .inl rfl
  | cons b t => have := hz.head b t rfl; exact .inr ⟨this.2.1, this.1⟩
 ·obtain ⟨h1, h2, h3, h4⟩ := baV he
  have hs := sign_app hl h1 h2 Z
  have hr := afD h2 hz.no
  unfold ajH
  rw [if_neg, List.cons_append, List.drop_succ_cons, List.drop_zero, hs]
  ·simp only
   rw [hr.1, hr.2, if_neg, h4]
   rintro (q | q)
   ·exact h1 q
   ·omega
  ·rintro (q | q)
   ·cases q
   ·rcases hc with rfl | rfl
    ·exact q.2 rfl
    ·exact q.1 rfl
theorem bbZ {l : Loc} (hl : l.fine) {s Z : List UInt8} {n : Int} {x : Bool} (h : ajH l s = some (n, x, Z)) : ∃ E, s = E ++ Z ∧ ExpOK l E n x := by
 unfold ajH at h
 split at h
 ·injection h with h
  injection h with h1 h2
  injection h2 with h2 h3
  exact ⟨[], h3, .inl ⟨rfl, h1.symm, h2.symm⟩⟩
 ·rename_i hc
  split at h
  ·cases h
  ·rename_i hr
   injection h with h
   injection h with h1 h2
   injection h2 with h2 h3
   cases s with
   | nil => exact absurd (.inl rfl) hc
   | cons c S1 =>
    rw [List.drop_succ_cons, List.drop_zero] at *
    obtain ⟨g, hg, hs⟩ := aeO l S1
    have hrr := aaZ (yA l S1).1
    have hd := aeP (yA l S1).1
    have hn : aaW (yA l S1).1 ≠ [] := fun q => hr (.inl q)
    have hsg : yA l (g ++ aaW (yA l S1).1) = (aaW (yA l S1).1, (yA l S1).2) := by
     refine ajJ hl hg fun _ => ?_
     cases hp : aaW (yA l S1).1 with
     | nil => exact absurd hp hn
     | cons b t => exact aqG hl (hd b (by rw [hp]; simp))
    refine ⟨c :: (g ++ aaW (yA l S1).1), ?_, .inr ⟨c, _, rfl, ?_, ?_, h2.symm⟩⟩
    ·rw [← h3, List.cons_append, List.append_assoc, hrr, ← hs]
    ·rw [List.getD_cons_zero] at hc
     by_cases q : c = 69
     ·exact .inl q
     ·exact .inr (Decidable.by_contra fun q2 => hc (.inr ⟨q2, q⟩))
    ·unfold auX
     rw [hsg]
     simp only
     rw [if_pos ⟨hn, acW.2 hd, Nat.le_of_not_lt fun q => hr (.inr q)⟩, h1]
theorem abV {l : Loc} (hl : l.fine) {W dd : List UInt8} {gr : Bool} (h : abI l W = some (dd, gr)) : (W = [] ∧ dd = [] ∧ gr = false) ∨ ∃ d0 s0 d1, W = d0 ++ s0 ∧ d0 ≠ [] ∧ Digs d0 ∧ Ch l s0 d1 ∧ dd = d0 ++ d1 ∧ gr = !decide (s0 = []) ∧ abX l W = some dd := by
 unfold abI at h
 split at h
 ·rename_i hw
  injection h with h
  injection h with h1 h2
  exact .inl ⟨hw, h1.symm, h2.symm⟩
 ·cases hp : abX l W with
  | none => rw [hp] at h; cases h
  | some q =>
   rw [hp] at h
   injection h with h
   injection h with h1 h2
   subst h1
   obtain ⟨d0, s0, d1, rfl, h3, h4, h5, h6⟩ := axJ hl hp
   refine .inr ⟨d0, s0, d1, rfl, h3, h4, h5, h6, ?_, rfl⟩
   have := (ahW hl h3 h4 h5).2
   rw [← h2, h6]
   congr 1
   exact decide_eq_decide.2 this
theorem whole_of {l : Loc} (hl : l.fine) {d0 s0 d1 : List UInt8} (h0 : d0 ≠ []) (hd : Digs d0) (hc : Ch l s0 d1) (hp : abX l (d0 ++ s0) ≠ none) : abI l (d0 ++ s0) = some (d0 ++ d1, !decide (s0 = [])) := by
 have h := ahW hl h0 hd hc
 have hp2 : abX l (d0 ++ s0) = some (d0 ++ d1) := by
  rw [h.1] at hp ⊢
  split
  ·rename_i q; rw [if_pos q] at hp; exact absurd rfl hp
  ·rfl
 unfold abI
 rw [if_neg (by simp [h0]), hp2]
 simp only
 congr 2
 rw [decide_eq_decide.2 h.2]
theorem wR_of {l : Loc} (hl : l.fine) {W dd Y : List UInt8} {gr : Bool} (h : abI l W = some (dd, gr)) (hy : Stops l Y) : wR l (W ++ Y) = (dd, W, Y, gr) := by
 unfold wR
 rcases abV hl h with ⟨rfl, rfl, rfl⟩ | ⟨d0, s0, d1, rfl, h0, hd, hc, rfl, rfl, _⟩
 ·have hr := afD (d := []) (fun b hb => by simp at hb) hy.1
  rw [hr.1, hr.2]
  exact aaK (aoT hy) _ _ _
 ·have hr := afD hd (bjO hl hc hy.1)
  rw [List.append_assoc, hr.1, hr.2, asO hl hc hy _ _ _ _ h0 (by simp only [List.length_append]; omega), Bool.false_or]
theorem wR_parts {l : Loc} (hl : l.fine) (hs : l.second = 2 ∨ l.second = 3) (s : List UInt8) (h : ¬ ((wR l s).2.1 ≠ [] ∧ adC l (wR l s).2.1 = none)) : s = (wR l s).2.1 ++ (wR l s).2.2.1 ∧ abI l (wR l s).2.1 = some ((wR l s).1, (wR l s).2.2.2) := by
 have hr := aaZ s
 unfold wR at h ⊢
 by_cases h0 : aaW s = []
 ·have hm : aeM l (aaW s) (aaB s) = false := by unfold aeM; rw [h0]; rfl
  rw [aaK hm] at h ⊢
  simp only
  refine ⟨hr.symm, ?_⟩
  rw [h0]; rfl
 ·obtain ⟨s0, d, y, h1, h2, h3⟩ := akD hl s.length (aaW s) (aaW s) (aaB s) false
  rw [h3] at h ⊢
  simp only at h ⊢
  refine ⟨by rw [List.append_assoc, ← h2, hr], ?_⟩
  rw [Bool.false_or]
  refine whole_of hl h0 (aeP s) h1 fun q => h ⟨by simp [h0], ?_⟩
  rw [atY hl hs h0 (aeP s) h1, q]
theorem bhT {l : Loc} (hl : l.fine) {W dd : List UInt8} {gr : Bool} (h : abI l W = some (dd, gr)) : ∀ b ∈ W, isD b ∨ b ∈ l.grp := by
 have hch : ∀ {s d : List UInt8}, Ch l s d → ∀ b ∈ s, isD b ∨ b ∈ l.grp := by
  intro s d hc
  induction hc with
  | nil => intro b hb; simp at hb
  | cons hr _ _ ih =>
   intro b hb
   rcases List.mem_append.1 hb with hb | hb
   ·rcases List.mem_append.1 hb with hb | hb
    ·exact .inr hb
    ·exact .inl (hr b hb)
   ·exact ih b hb
 rcases abV hl h with ⟨rfl, _, _⟩ | ⟨d0, s0, d1, rfl, _, hd, hc, _, _, _⟩
 ·intro b hb; simp at hb
 ·intro b hb
  rcases List.mem_append.1 hb with hb | hb
  ·exact .inl (hd b hb)
  ·exact hch hc b hb
theorem num_ref {l : Loc} (hl : l.fine) (hs : l.second = 2 ∨ l.second = 3) (hgo : l.grpOk) {t d Z : List UInt8} {e : Int} {k : Nat} {gr x : Bool} (h : avK l t d e k gr x) (hz : CleanZ l Z) : ajD l (t ++ Z) = some (d, e, k, gr, x, Z) := by
 obtain ⟨W, R, E, p, dd, n, rfl, hp, hw, hR, hne, hE, rfl, rfl, rfl⟩ := h
 obtain ⟨c, hdc, hcd, hc69, hc101⟩ := hl.dc
 obtain ⟨g0, gq, hg, hg0, hgd⟩ := hl.grp
 have hEZ : NoD (E ++ Z) := by
  rcases hE with ⟨rfl, _, _⟩ | ⟨b, S, rfl, hb, _, _⟩
  ·exact hz.no
  ·intro b2 t2 h2
   injection h2 with h2 _
   subst h2
   rcases hb with rfl | rfl <;> exact notD (by decide)
 have hEZp : hasPrefix (E ++ Z) l.dc = false := by
  rw [hdc]
  refine zX ?_
  rcases hE with ⟨rfl, _, _⟩ | ⟨b, S, rfl, hb, _, _⟩
  ·cases Z with
   | nil => simp
   | cons b t =>
    have := (hz.head b t rfl).2.2
    rw [hdc] at this
    intro q; simp at q; exact this (by rw [q])
  ·rcases hb with rfl | rfl
   ·intro q; simp at q; exact hc69 q.symm
   ·intro q; simp at q; exact hc101 q.symm
 have hst : Stops l ((if p = true then l.dc ++ R else []) ++ (E ++ Z)) := by
  cases p with
  | true =>
   rw [if_pos rfl, hdc]
   refine ⟨fun b t h => ?_, fun q => ?_⟩
   ·injection h with h _; subst h; exact hcd
   ·rw [hg, zX (by simpa using (hgd c hdc).symm)] at q
    cases q.1
  | false =>
   rw [if_neg (by decide), List.nil_append]
   refine ⟨hEZ, fun q => ?_⟩
   rcases hE with ⟨rfl, _, _⟩ | ⟨b, S, rfl, hb, _, _⟩
   ·rw [List.nil_append] at q
    have hq := q.2
    by_cases hlt : l.grp.length < Z.length
    ·refine hz.noD _ ?_ hq
     rw [List.getD, List.getElem?_eq_getElem hlt, Option.getD_some]
     exact List.getElem_mem _
    ·rw [List.getD, List.getElem?_eq_none (by omega)] at hq
     exact absurd hq (notD (by decide))
   ·have := hgo g0 (by rw [hg]; simp)
    rw [hg, zX] at q
    ·cases q.1
    ·rw [List.cons_append, List.head?_cons]
     intro q2
     injection q2 with q2
     rcases hb with rfl | rfl
     ·exact this.1 q2.symm
     ·exact this.2.1 q2.symm
 have e1 : W ++ ((if p = true then l.dc ++ R else []) ++ E) ++ Z = W ++ ((if p = true then l.dc ++ R else []) ++ (E ++ Z)) := by simp only [List.append_assoc]
 have hpl : ¬ (W ≠ [] ∧ adC l W = none) := by
  rintro ⟨h1, h2⟩
  rcases abV hl hw with ⟨h3, _, _⟩ | ⟨d0, s0, d1, rfl, h0, hd, hc, _, _, hpp⟩
  ·exact h1 h3
  ·rw [atY hl hs h0 hd hc, hpp] at h2; cases h2
 have hpR : pR l ((if p = true then l.dc ++ R else []) ++ (E ++ Z)) = (R, E ++ Z) := by
  unfold pR
  cases p with
  | true =>
   have hr := afD hR hEZ
   simp only [if_true]
   rw [List.append_assoc, if_pos (abL _ _), List.drop_left, hr.1, hr.2]
  | false =>
   simp only [Bool.false_eq_true, if_false, List.nil_append]
   rw [if_neg (by rw [hEZp]; decide), hp rfl]
 unfold ajD
 rw [e1, wR_of hl hw hst]
 simp only
 rw [if_neg hpl, hpR]
 simp only
 rw [if_neg hne, tail_of hl hE hz]
theorem arK {l : Loc} (hl : l.fine) (hs : l.second = 2 ∨ l.second = 3) {T d Z : List UInt8} {e : Int} {k : Nat} {gr x : Bool} (h : ajD l T = some (d, e, k, gr, x, Z)) : ∃ t, T = t ++ Z ∧ avK l t d e k gr x := by
 unfold ajD at h
 split at h
 ·cases h
 ·rename_i h1
  obtain ⟨hT, hw⟩ := wR_parts hl hs T h1
  split at h
  ·cases h
  ·rename_i h2
   cases ht : ajH l (pR l (wR l T).2.2.1).2 with
   | none => rw [ht] at h; cases h
   | some q =>
    obtain ⟨n, y, z⟩ := q
    rw [ht] at h
    injection h with h
    injection h with h3 h4
    injection h4 with h4 h5
    injection h5 with h5 h6
    injection h6 with h6 h7
    injection h7 with h7 h8
    subst h7; subst h8
    obtain ⟨E, hE, hEO⟩ := bbZ hl ht
    have hpp : ∃ p : Bool, (wR l T).2.2.1 = (if p = true then l.dc ++ (pR l (wR l T).2.2.1).1 else []) ++ (pR l (wR l T).2.2.1).2 ∧ (p = false → (pR l (wR l T).2.2.1).1 = []) ∧ Digs (pR l (wR l T).2.2.1).1 := by
     unfold pR
     split
     ·rename_i hp
      obtain ⟨z2, hz2⟩ := abT.1 hp
      refine ⟨true, ?_, (fun q => by cases q), aeP _⟩
      simp only [if_true]
      rw [hz2, List.drop_left, List.append_assoc, aaZ]
     ·exact ⟨false, rfl, fun _ => rfl, fun b hb => by simp at hb⟩
    obtain ⟨p, hp1, hp2, hp3⟩ := hpp
    refine ⟨(wR l T).2.1 ++ ((if p = true then l.dc ++ (pR l (wR l T).2.2.1).1 else []) ++ E), ?_, (wR l T).2.1, _, E, p, _, n, rfl, hp2, by rw [hw, h6], hp3, h2, hEO, h3.symm, h5.symm, h4.symm⟩
    rw [List.append_assoc, List.append_assoc, ← hE, ← hp1, ← hT]
theorem bgR {c d : UInt8} {a z : List UInt8} (ha : c ∉ a) (hcd : c ≠ d) : replaceAll (a ++ ([c] ++ z)) [c] [d] = a ++ ([d] ++ replaceAll z [c] [d]) := by
 have he : ∀ s, replaceAll s [c] [d] = replaceK [c] [d] (count s [c]) s := by
  intro s
  unfold replaceAll replace
  rw [if_neg (by simpa using hcd)]
  unfold replaceNum
  rw [if_pos (.inl (by decide))]
 have hi := alD (c := c) (r := []) (z := z) ha
 rw [List.append_assoc] at hi
 have hd : (a ++ ([c] ++ z)).drop (a.length + [c].length) = z := by rw [← List.append_assoc, show a.length + [c].length = (a ++ [c]).length by simp]; exact List.drop_left
 have ht : (a ++ ([c] ++ z)).take a.length = a := List.take_left
 rw [he, he]
 have hc : count (a ++ ([c] ++ z)) [c] = count z [c] + 1 := by
  unfold count
  rw [countFrom, if_neg (by rw [hi, beq_iff_eq]; omega), hi, Int.toNat_natCast, hd, Nat.add_comm 1]
  congr 1
  exact countFrom_fuel (by simp) _ z (by simp only [List.length_append, List.length_cons]; omega) _ (by omega)
 rw [hc, replaceK_hit _ _ _ _ _ hi, ht, hd, List.append_assoc]
theorem auI {c : UInt8} : ∀ {s : List UInt8}, c ∈ s → ∃ a z, s = a ++ ([c] ++ z) ∧ c ∉ a
 | b :: t, h => by
  by_cases hb : c = b
  ·subst hb; exact ⟨[], t, rfl, by simp⟩
  ·obtain ⟨a, z, h1, h2⟩ := auI (s := t) ((List.mem_cons.1 h).resolve_left hb)
   exact ⟨b :: a, z, by rw [h1]; rfl, by simp [hb, h2]⟩
theorem azN {c d : UInt8} (hcd : c ≠ d) : ∀ (n : Nat) (s : List UInt8), s.length ≤ n → replaceAll s [c] [d] = s.map fun b => if b = c then d else b
 | n, s, hn => by
  by_cases h : c ∈ s
  ·obtain ⟨a, z, rfl, ha⟩ := auI h
   have hl : a.length + (1 + z.length) ≤ n := by simp only [List.length_append, List.length_cons, List.length_nil] at hn; omega
   obtain ⟨m, rfl⟩ : ∃ m, n = m + 1 := ⟨n - 1, by omega⟩
   rw [bgR ha hcd, azN hcd m z (by omega), List.map_append, List.map_append]
   have e : (a.map fun b => if b = c then d else b) = a := by
    rw [List.map_congr_left (g := id) fun b hb => by rw [if_neg (fun q => ha (by rw [← q]; exact hb))]; rfl, List.map_id]
   rw [e]; simp
  ·rw [amH (alC h), List.map_congr_left (g := id) fun b hb => by rw [if_neg (fun q => h (by rw [← q]; exact hb))]; rfl, List.map_id]
def eMap (b : UInt8) : UInt8 := if b = 69 then 101 else b
theorem baX (b : UInt8) : eMap b = 101 ↔ (b = 69 ∨ b = 101) := by
 unfold eMap
 split
 ·rename_i h; simp [h]
 ·rename_i h; simp [h]
theorem baR {c : UInt8} : ∀ {s : List UInt8}, c ∉ s → indexByte s c = -1
 | [], _ => rfl
 | b :: t, h => by
  have h1 : ¬ (b == c) = true := by intro q; exact h (by rw [beq_iff_eq.1 q]; simp)
  rw [indexByte, if_neg h1, baR (fun q => h (by simp [q]))]; rfl
theorem idx_at {c : UInt8} {z : List UInt8} : ∀ {a : List UInt8}, c ∉ a → indexByte (a ++ c :: z) c = (a.length : Int)
 | [], _ => by simp [indexByte]
 | b :: t, h => by
  have h1 : ¬ (b == c) = true := by intro q; exact h (by rw [beq_iff_eq.1 q]; simp)
  have ih := idx_at (c := c) (z := z) (a := t) (fun q => h (by simp [q]))
  rw [List.cons_append, indexByte, if_neg h1, ih, if_neg (by rw [beq_iff_eq]; omega), List.length_cons]; omega
theorem bjC (s : List UInt8) : eAt s = indexByte (s.map eMap) 101 := by
 unfold eAt
 rw [azN (by decide) s.length s (Nat.le_refl _)]; rfl
def NoE (s : List UInt8) : Prop := ∀ b ∈ s, b ≠ 69 ∧ b ≠ 101
theorem bhP {s : List UInt8} (h : NoE s) : (101 : UInt8) ∉ s.map eMap := by
 intro q
 obtain ⟨b, hb, hq⟩ := List.mem_map.1 q
 rcases (baX b).1 hq with h1 | h1
 ·exact (h b hb).1 h1
 ·exact (h b hb).2 h1
theorem eAt_no {s : List UInt8} (h : NoE s) : eAt s = -1 := by rw [bjC, baR (bhP h)]
theorem eAt_at {m z : List UInt8} {c : UInt8} (h : NoE m) (hc : c = 69 ∨ c = 101) : eAt (m ++ c :: z) = (m.length : Int) := by
 rw [bjC, List.map_append, List.map_cons, (baX c).2 hc, idx_at (bhP h), List.length_map]
theorem bjB (s : List UInt8) (h : 0 ≤ eAt s) : ∃ m c z, s = m ++ c :: z ∧ NoE m ∧ (c = 69 ∨ c = 101) := by
 refine Classical.byContradiction fun q => ?_
 have hn : NoE s := by
  intro b hb
  refine Decidable.by_contra fun q2 => ?_
  have key : ∀ (s : List UInt8) (b : UInt8), b ∈ s → (b = 69 ∨ b = 101) → ∃ m c z, s = m ++ c :: z ∧ NoE m ∧ (c = 69 ∨ c = 101) := by
   intro s
   induction s with
   | nil => intro b hb; simp at hb
   | cons a t ih =>
    intro b hb h2
    by_cases ha : a = 69 ∨ a = 101
    ·exact ⟨[], a, t, rfl, fun _ hb => by simp at hb, ha⟩
    ·rcases List.mem_cons.1 hb with rfl | hb
     ·exact absurd h2 ha
     ·obtain ⟨m, c, z, h3, h4, h5⟩ := ih b hb h2
      refine ⟨a :: m, c, z, by rw [h3]; rfl, fun b2 hb2 => ?_, h5⟩
      rcases List.mem_cons.1 hb2 with rfl | hb2
      ·exact ⟨fun q => ha (.inl q), fun q => ha (.inr q)⟩
      ·exact h4 b2 hb2
  exact q (key s b hb (by
    by_cases h1 : b = 69
    ·exact .inl h1
    ·exact .inr (Decidable.by_contra fun h3 => q2 ⟨h1, h3⟩)))
 rw [eAt_no hn] at h
 exact absurd h (by decide)
theorem bhL {l : Loc} (hl : l.fine) {t d : List UInt8} {e : Int} {k : Nat} {gr x : Bool} (h : alA l t = some (d, e, k, gr, x)) : avK l t d e k gr x := by
 unfold alA at h
 cases hh : ahB l t with
 | none => rw [hh] at h; cases h
 | some q =>
  obtain ⟨t1, n, y⟩ := q
  rw [hh] at h
  simp only at h
  cases hb : ajA l t1 with
  | none => rw [hb] at h; cases h
  | some q =>
   obtain ⟨d2, k2, g2⟩ := q
   rw [hb] at h
   injection h with h
   injection h with h1 h2
   injection h2 with h2 h3
   injection h3 with h3 h4
   injection h4 with h4 h5
   subst h1; subst h3; subst h4; subst h5
   have hE : ∃ E, t = t1 ++ E ∧ ExpOK l E n y := by
    unfold ahB at hh
    split at hh
    ·rename_i h0
     obtain ⟨m, c, z, rfl, hm, hc⟩ := bjB t h0
     have he := eAt_at (z := z) hm hc
     rw [he, Int.toNat_natCast] at hh
     have hdr : (m ++ c :: z).drop (m.length + 1) = z := by rw [show m ++ c :: z = (m ++ [c]) ++ z by simp, show m.length + 1 = (m ++ [c]).length by simp]; exact List.drop_left
     rw [hdr, List.take_left] at hh
     cases hx : auX l z with
     | none => rw [hx] at hh; cases hh
     | some n2 =>
      rw [hx] at hh
      injection hh with hh
      injection hh with h6 h7
      injection h7 with h7 h8
      subst h6; subst h7
      exact ⟨c :: z, rfl, .inr ⟨c, z, rfl, hc, hx, h8.symm⟩⟩
    ·injection hh with hh
     injection hh with h6 h7
     injection h7 with h7 h8
     exact ⟨[], by rw [h6, List.append_nil], .inl ⟨rfl, h7.symm, h8.symm⟩⟩
   obtain ⟨E, hE1, hE2⟩ := hE
   unfold ajA at hb
   split at hb
   ·cases hb
   ·rename_i hbad
    have hbad2 : badB (cut t1 l.dc).1 (cut t1 l.dc).2.1 = false := by simpa using hbad
    cases hw : abI l (cut t1 l.dc).1 with
    | none => rw [hw] at hb; cases hb
    | some q =>
     obtain ⟨dd, g3⟩ := q
     rw [hw] at hb
     injection hb with hb
     injection hb with h6 h7
     injection h7 with h7 h8
     subst h6; subst h7; subst h8
     have hp : ∃ p : Bool, t1 = (cut t1 l.dc).1 ++ (if p = true then l.dc ++ (cut t1 l.dc).2.1 else []) ∧ (p = false → (cut t1 l.dc).2.1 = []) := by
      unfold cut
      split
      ·rename_i h0
       rcases index_spec t1 l.dc with ⟨h9, _⟩ | ⟨i, h9, h10, h11, _⟩
       ·rw [h9] at h0; exact absurd h0 (by decide)
       ·refine ⟨true, ?_, fun q => by cases q⟩
        simp only [if_true]
        rw [h9, Int.toNat_natCast]
        have h12 : l.dc <+: t1.drop i := by
         unfold occAt at h11
         exact List.isPrefixOf_iff_prefix.1 h11
        obtain ⟨z, hz⟩ := h12
        have : t1.drop (i + l.dc.length) = z := by rw [← List.drop_drop, ← hz, List.drop_left]
        rw [this, hz, List.take_append_drop]
      ·exact ⟨false, by simp, fun _ => rfl⟩
     obtain ⟨p, hp1, hp2⟩ := hp
     refine ⟨(cut t1 l.dc).1, (cut t1 l.dc).2.1, E, p, dd, n, ?_, hp2, hw, aqH hbad2, ?_, hE2, rfl, rfl, h2.symm⟩
     ·rw [← List.append_assoc, ← hp1, hE1]
     ·rintro ⟨q1, q2⟩
      rcases abV hl hw with ⟨h9, _, _⟩ | ⟨d0, s0, d1, _, h0, _, _, h10, _, _⟩
      ·unfold badB at hbad2
       rw [h9, q2] at hbad2
       simp at hbad2
      ·rw [q1] at h10
       have := congrArg List.length h10
       simp only [List.length_append, List.length_nil] at this
       exact h0 (List.length_eq_zero_iff.1 (by omega))
theorem baE {l : Loc} (hl : l.fine) (hgo : l.grpOk) {t d : List UInt8} {e : Int} {k : Nat} {gr x : Bool} (h : avK l t d e k gr x) : alA l t = some (d, e, k, gr, x) := by
 obtain ⟨W, R, E, p, dd, n, rfl, hp, hw, hR, hne, hE, rfl, rfl, rfl⟩ := h
 obtain ⟨c, hdc, hcd, hc69, hc101⟩ := hl.dc
 have hW := bhT hl hw
 have hWE : NoE W := by
  intro b hb
  rcases hW b hb with h1 | h1
  ·exact ⟨by rintro rfl; exact absurd h1 (notD (by decide)), by rintro rfl; exact absurd h1 (notD (by decide))⟩
  ·exact ⟨(hgo b h1).1, (hgo b h1).2.1⟩
 have hRE : NoE R := fun b hb => ⟨by rintro rfl; exact absurd (hR _ hb) (notD (by decide)), by rintro rfl; exact absurd (hR _ hb) (notD (by decide))⟩
 have hM : NoE (W ++ (if p = true then l.dc ++ R else [])) := by
  intro b hb
  rcases List.mem_append.1 hb with hb | hb
  ·exact hWE b hb
  ·cases p with
   | false => rw [if_neg (by decide)] at hb; simp at hb
   | true =>
    rw [if_pos rfl, hdc] at hb
    rcases List.mem_append.1 hb with hb | hb
    ·have : b = c := by simpa using hb
     rw [this]; exact ⟨hc69, hc101⟩
    ·exact hRE b hb
 have hbody : ajA l (W ++ (if p = true then l.dc ++ R else [])) = some (dd ++ R, R.length, gr) := by
  have hcW : c ∉ W := by
   intro hb
   rcases hW c hb with h1 | h1
   ·exact hcd h1
   ·exact (hgo c h1).2.2 hdc
  have hcut : cut (W ++ (if p = true then l.dc ++ R else [])) l.dc = (W, R, p) := by
   cases p with
   | true => rw [if_pos rfl, hdc, ← List.append_assoc, cut_some hcW]
   | false => rw [if_neg (by decide), List.append_nil, hdc, cut_none hcW, hp rfl]
  have hbad : badB W R = false := by
   unfold badB
   rw [Bool.or_eq_false_iff]
   refine ⟨?_, ?_⟩
   ·rw [Bool.and_eq_false_iff]
    by_cases h1 : W = []
    ·right
     refine decide_eq_false fun h2 => ?_
     rcases abV hl hw with ⟨_, h3, _⟩ | ⟨d0, s0, d1, h3, h0, _, _, _, _, _⟩
     ·exact hne ⟨h3, h2⟩
     ·rw [h1] at h3
      have := congrArg List.length h3
      simp only [List.length_append, List.length_nil] at this
      exact h0 (List.length_eq_zero_iff.1 (by omega))
    ·exact .inl (decide_eq_false h1)
   ·exact decide_eq_false fun q => q (bjE hR)
  unfold ajA
  rw [hcut]
  simp only
  rw [if_neg (by rw [hbad]; decide), hw]
 have hhead : ahB l (W ++ ((if p = true then l.dc ++ R else []) ++ E)) = some (W ++ (if p = true then l.dc ++ R else []), n, x) := by
  rw [← List.append_assoc]
  unfold ahB
  rcases hE with ⟨rfl, rfl, rfl⟩ | ⟨b, S, rfl, hb, he, rfl⟩
  ·rw [List.append_nil, eAt_no hM, if_neg (by decide)]
  ·have hdr : ((W ++ (if p = true then l.dc ++ R else [])) ++ b :: S).drop ((W ++ (if p = true then l.dc ++ R else [])).length + 1) = S := by
    rw [show (W ++ (if p = true then l.dc ++ R else [])) ++ b :: S = ((W ++ (if p = true then l.dc ++ R else [])) ++ [b]) ++ S by simp, show (W ++ (if p = true then l.dc ++ R else [])).length + 1 = ((W ++ (if p = true then l.dc ++ R else [])) ++ [b]).length by simp only [List.length_append, List.length_cons, List.length_nil]]
    exact List.drop_left
   rw [eAt_at hM hb, if_pos (by omega), Int.toNat_natCast, hdr, he, List.take_left]
 unfold alA
 rw [hhead]
 simp only
 rw [hbody]
structure Loc.entOk (l : Loc) : Prop where
 fine : l.fine
 grpOk : l.grpOk
 second : l.second = 2 ∨ l.second = 3
 money : l.moneyOk
 cur : ∀ b ∈ l.cur, ¬ isD b
 head : ∃ c r, l.cur = c :: r ∧ c ≠ 69 ∧ c ≠ 101 ∧ l.dc ≠ [c] ∧ c ≠ 37 ∧ c ≠ 41
 last : ∃ c r, l.cur = r ++ [c] ∧ l.dc ≠ [c] ∧ c ≠ 37 ∧ ¬ isD c
 dc : ∃ c, l.dc = [c] ∧ c.toNat < 128 ∧ zQ c.toNat = false ∧ c ≠ 37 ∧ c ≠ 40 ∧ c ≠ 41 ∧ c ≠ 43 ∧ c ≠ 45 ∧ (∀ d r, l.minus = d :: r → c ≠ d) ∧ c ≠ 32 ∧ c ≠ 9 ∧ c ≠ 194 ∧ c ≠ 226
theorem locs_ent : ∀ l ∈ locs, l.entOk := by
 intro l hl
 have h1 := biE l hl
 have h2 := bdR l hl
 have h3 := axX l hl
 have h4 := bdQ l hl
 simp only [locs, List.mem_cons, List.not_mem_nil, or_false] at hl
 rcases hl with rfl | rfl | rfl | rfl | rfl | rfl
 all_goals exact { fine := h1, grpOk := h2, second := h3, money := h4, cur := fun b hb => by (simp at hb; rcases hb with rfl | rfl | rfl) <;> exact notD (by decide), head := ⟨_, _, rfl, by decide, by decide, by decide, by decide, by decide⟩, last := by first | exact ⟨_, [], rfl, by decide, by decide, notD (by decide)⟩ | exact ⟨_, [_], rfl, by decide, by decide, notD (by decide)⟩ | exact ⟨_, [_, _], rfl, by decide, by decide, notD (by decide)⟩, dc := ⟨_, rfl, by decide, by decide, by decide, by decide, by decide, by decide, by decide, fun d r hd => by injection hd with hd _; subst hd; decide, by decide, by decide, by decide, by decide⟩ }

/-! ### the ends of a number -/
def Edge (l : Loc) (c : UInt8) : Prop := isD c ∨ l.dc = [c]
theorem adN {l : Loc} (hl : l.entOk) {c : UInt8} (h : Edge l c) : c.toNat < 128 ∧ zQ c.toNat = false ∧ c ≠ 37 ∧ c ≠ 40 ∧ c ≠ 41 ∧ c ≠ 43 ∧ c ≠ 45 ∧ (∀ d r, l.minus = d :: r → c ≠ d) := by
 rcases h with h | h
 ·have hn : ∀ {d : UInt8}, d.toNat < 48 ∨ 57 < d.toNat → c ≠ d := fun hd q => notD hd (q ▸ h)
  refine ⟨by unfold isD at h; omega, ayM h, hn (by decide), hn (by decide), hn (by decide), hn (by decide), hn (by decide), fun d r hm q => ?_⟩
  obtain ⟨d2, r2, hm2, hd2, _⟩ := hl.fine.minus
  rw [hm] at hm2
  injection hm2 with hm2 _
  subst hm2; subst q
  exact hd2 h
 ·obtain ⟨d, hd, h1, h2, h3, h4, h5, h6, h7, h8, _⟩ := hl.dc
  rw [hd] at h
  injection h with h _
  subst h
  exact ⟨h1, h2, h3, h4, h5, h6, h7, h8⟩
theorem aiY {s : List UInt8} (hd : Digs s) (hn : s ≠ []) : ∃ r c, s = r ++ [c] ∧ isD c := by
 refine ⟨s.dropLast, s.getLast hn, (List.dropLast_concat_getLast hn).symm, hd _ (List.getLast_mem hn)⟩
theorem ch_edge {l : Loc} {s d : List UInt8} (h : Ch l s d) : s = [] ∨ ∃ r c, s = r ++ [c] ∧ isD c := by
 induction h with
 | nil => exact .inl rfl
 | @cons r s d hr hn _ ih =>
  refine .inr ?_
  rcases ih with rfl | ⟨r2, c, rfl, hc⟩
  ·obtain ⟨r2, c, h1, hc⟩ := aiY hr hn
   exact ⟨l.grp ++ r2, c, by rw [h1]; simp, hc⟩
  ·exact ⟨l.grp ++ r ++ r2, c, by simp, hc⟩
theorem arL {l : Loc} (hl : l.fine) {t d : List UInt8} {e : Int} {k : Nat} {gr x : Bool} (h : avK l t d e k gr x) : ∃ c r, t = c :: r ∧ Edge l c := by
 obtain ⟨W, R, E, p, dd, n, rfl, hp, hw, hR, hne, hE, rfl, rfl, rfl⟩ := h
 rcases abV hl hw with ⟨rfl, rfl, _⟩ | ⟨d0, s0, d1, rfl, h0, hd, _, _, _, _⟩
 ·cases p with
  | false => exact absurd ⟨rfl, hp rfl⟩ hne
  | true =>
   obtain ⟨c, hdc, _⟩ := hl.dc
   exact ⟨c, R ++ E, by simp [hdc], .inr hdc⟩
 ·cases d0 with
  | nil => exact absurd rfl h0
  | cons c r => exact ⟨c, _, rfl, .inl (hd c (by simp))⟩
theorem auD {l : Loc} (hl : l.fine) {t d : List UInt8} {e : Int} {k : Nat} {gr x : Bool} (h : avK l t d e k gr x) : ∃ r c, t = r ++ [c] ∧ Edge l c := by
 obtain ⟨W, R, E, p, dd, n, rfl, hp, hw, hR, hne, hE, rfl, rfl, rfl⟩ := h
 rcases hE with ⟨rfl, _, _⟩ | ⟨b, S, rfl, _, he, _⟩
 ·cases p with
  | true =>
   by_cases hR0 : R = []
   ·obtain ⟨c, hdc, _⟩ := hl.dc
    exact ⟨W, c, by simp [hdc, hR0], .inr hdc⟩
   ·obtain ⟨r, c, h1, hc⟩ := aiY hR hR0
    exact ⟨W ++ l.dc ++ r, c, by simp [h1], .inl hc⟩
  | false =>
   rcases abV hl hw with ⟨rfl, rfl, _⟩ | ⟨d0, s0, d1, rfl, h0, hd, hc, _, _, _⟩
   ·exact absurd ⟨rfl, hp rfl⟩ hne
   ·rcases ch_edge hc with rfl | ⟨r, c, rfl, h1⟩
    ·obtain ⟨r, c, h1, h2⟩ := aiY hd h0
     exact ⟨r, c, by simp [h1], .inl h2⟩
    ·exact ⟨d0 ++ r, c, by simp, .inl h1⟩
 ·obtain ⟨h1, h2, _, _⟩ := baV he
  obtain ⟨g, _, hs⟩ := aeO l S
  obtain ⟨r, c, h3, h4⟩ := aiY h2 h1
  refine ⟨W ++ ((if p = true then l.dc ++ R else []) ++ (b :: (g ++ r))), c, ?_, .inl h4⟩
  rw [hs, h3]; simp
theorem anP {l : Loc} (hl : l.entOk) {c : UInt8} (h : Edge l c) (t : List UInt8) : zQ (decodeL (c :: t)).1 = false :=
 aaH [] t (adN hl h).1 (adN hl h).2.1
theorem agW {l : Loc} (hl : l.entOk) {c : UInt8} (h : Edge l c) (z : List UInt8) : zQ (decodeLastL (z ++ [c])).1 = false :=
 acN [] z (adN hl h).1 (adN hl h).2.1
theorem baW {l : Loc} (hl : l.entOk) {c : UInt8} (h : Edge l c) (t : List UInt8) : hasPrefix (c :: t) l.cur = false := by
 obtain ⟨b, r, hc, h1, h2, h3, _⟩ := hl.head
 rw [hc]
 refine zX fun q => ?_
 injection q with q
 subst q
 rcases h with h | h
 ·exact hl.cur c (by rw [hc]; simp) h
 ·exact h3 h
theorem edge_suf {l : Loc} (hl : l.entOk) {c : UInt8} (h : Edge l c) (t : List UInt8) : hasSuffix (t ++ [c]) l.cur = false ∧ hasSuffix (t ++ [c]) l.pct = false := by
 obtain ⟨b, r, hc, h1, h2, h3⟩ := hl.last
 refine ⟨anH hl.money.ne ?_, anH (by rw [hl.fine.pct]; simp) ?_⟩
 ·rw [hc, aaT (by simp), aaT (by simp)]
  simp only [List.length_cons, List.length_nil, Nat.zero_add, Nat.sub_self, List.getD_cons_zero]
  rintro rfl
  rcases h with h | h
  ·exact h3 h
  ·exact h1 h
 ·rw [hl.fine.pct, aaT (by simp)]
  exact fun q => (adN hl h).2.2.1 q.symm

/-! ### amounts -/
def beX (l : Loc) (v : List UInt8) (kd : Int) (d : List UInt8) (e : Int) (k : Nat) (gr x : Bool) : Prop :=
 ∃ (t B : List UInt8) (e0 : Int), avK l t d e0 k gr x ∧ Blanks B ∧ ((v = l.cur ++ (B ++ t) ∧ kd = 2 ∧ e = e0) ∨ (v = t ++ (B ++ l.cur) ∧ kd = 2 ∧ e = e0) ∨ (v = t ++ (B ++ l.pct) ∧ kd = 1 ∧ e = e0 - 2) ∨ (v = t ∧ kd = 0 ∧ e = e0))
abbrev AmtV := Int × List UInt8 × Int × Nat × Bool × Bool
def afS (l : Loc) (s : List UInt8) : Option (AmtV × List UInt8) :=
 if hasPrefix s l.cur = true then (match ajD l (zS (s.drop l.cur.length)) with | none => none | some (d, e, k, gr, x, z) => some ((2, d, e, k, gr, x), z))
 else match ajD l s with
  | none => none
  | some (d, e, k, gr, x, z) =>
   if hasPrefix (zS z) l.pct = true then some ((1, d, e - 2, k, gr, x), (zS z).drop l.pct.length)
   else if hasPrefix (zS z) l.cur = true then some ((2, d, e, k, gr, x), (zS z).drop l.cur.length)
   else some ((0, d, e, k, gr, x), z)
def amtQ (l : Loc) (v : List UInt8) : Option AmtV :=
 match alA l (acG l v).2.1 with
 | none => none
 | some (d, e, k, gr, x) => some ((acG l v).1, d, e + (acG l v).2.2, k, gr, x)
theorem amt_prog {l : Loc} (hl : l.entOk) {v : List UInt8} {kd : Int} {d : List UInt8} {e : Int} {k : Nat} {gr x : Bool} (h : beX l v kd d e k gr x) : amtQ l v = some (kd, d, e, k, gr, x) := by
 obtain ⟨t, B, e0, hn, hB, h⟩ := h
 obtain ⟨c, r, hc, hce⟩ := arL hl.fine hn
 obtain ⟨r2, c2, hc2, hce2⟩ := auD hl.fine hn
 have hp := baE hl.fine hl.grpOk hn
 have key : ∀ sh, acG l v = (kd, t, sh) → e = e0 + sh → amtQ l v = some (kd, d, e, k, gr, x) := by
  intro sh h1 h2
  unfold amtQ
  rw [h1]
  simp only
  rw [hp, h2]
 have hno : ∀ z, hasPrefix (t ++ z) l.cur = false := by intro z; rw [hc]; exact baW hl hce _
 rcases h with ⟨rfl, rfl, rfl⟩ | ⟨rfl, rfl, rfl⟩ | ⟨rfl, rfl, rfl⟩ | ⟨rfl, rfl, rfl⟩
 ·refine key 0 ?_ (by omega)
  unfold acG
  rw [if_pos (abL _ _), abZ, afV hB (.inr (by rw [hc]; exact anP hl hce r)) _ (Nat.le_refl _)]
 ·refine key 0 ?_ (by omega)
  unfold acG
  rw [if_neg (by rw [hno]; decide), if_pos (ahL.2 ⟨t ++ B, by rw [List.append_assoc]⟩), ← List.append_assoc, agE, aiF (.inr (by rw [hc2]; exact agW hl hce2 _)) _ B (Nat.le_refl _) hB _ (Nat.le_refl _)]
 ·refine key (-2) ?_ (by omega)
  obtain ⟨b, r3, hb, _, hb2, _⟩ := hl.last
  have hs : hasSuffix (t ++ (B ++ l.pct)) l.cur = false := by
   refine anH hl.money.ne ?_
   rw [hb, aaT (by simp), ← List.append_assoc, hl.fine.pct, aaT (by simp)]
   exact hb2
  unfold acG
  rw [if_neg (by rw [hno]; decide), if_neg (by rw [hs]; decide), if_pos (ahL.2 ⟨t ++ B, by rw [List.append_assoc]⟩), ← List.append_assoc, agE, aiF (.inr (by rw [hc2]; exact agW hl hce2 _)) _ B (Nat.le_refl _) hB _ (Nat.le_refl _)]
 ·refine key 0 ?_ (by omega)
  have h1 := hno []
  rw [List.append_nil] at h1
  have h2 := edge_suf hl hce2 r2
  rw [← hc2] at h2
  unfold acG
  rw [if_neg (by rw [h1]; decide), if_neg (by rw [h2.1]; decide), if_neg (by rw [h2.2]; decide)]
theorem bjU {l : Loc} (hl : l.entOk) {v : List UInt8} {kd : Int} {d : List UInt8} {e : Int} {k : Nat} {gr x : Bool} (h : amtQ l v = some (kd, d, e, k, gr, x)) : beX l v kd d e k gr x := by
 unfold amtQ at h
 cases hn : alA l (acG l v).2.1 with
 | none => rw [hn] at h; cases h
 | some q =>
  obtain ⟨d2, e0, k2, g2, x2⟩ := q
  rw [hn] at h
  injection h with h
  injection h with h1 h2
  injection h2 with h2 h3
  injection h3 with h3 h4
  injection h4 with h4 h5
  injection h5 with h5 h6
  subst h2; subst h4; subst h5; subst h6
  have hO := bhL hl.fine hn
  unfold acG at h1 h3 hO
  split at hO
  ·rename_i hc
   rw [if_pos hc] at h1 h3
   obtain ⟨z, rfl⟩ := abT.1 hc
   rw [abZ] at hO
   obtain ⟨B, hB, hz, _⟩ := aeZ z.length z (Nat.le_refl _)
   exact ⟨_, B, e0, hO, hB, .inl ⟨by rw [← hz], h1.symm, by simp only at h3; omega⟩⟩
  ·rename_i hc
   rw [if_neg hc] at h1 h3
   split at hO
   ·rename_i hc2
    rw [if_pos hc2] at h1 h3
    obtain ⟨z, rfl⟩ := ahL.1 hc2
    rw [agE] at hO
    obtain ⟨B, hB, hz⟩ := aeY z.length z (Nat.le_refl _)
    exact ⟨_, B, e0, hO, hB, .inr (.inl ⟨by rw [← List.append_assoc, ← hz], h1.symm, by simp only at h3; omega⟩)⟩
   ·rename_i hc2
    rw [if_neg hc2] at h1 h3
    split at hO
    ·rename_i hc3
     rw [if_pos hc3] at h1 h3
     obtain ⟨z, rfl⟩ := ahL.1 hc3
     rw [agE] at hO
     obtain ⟨B, hB, hz⟩ := aeY z.length z (Nat.le_refl _)
     exact ⟨_, B, e0, hO, hB, .inr (.inr (.inl ⟨by rw [← List.append_assoc, ← hz], h1.symm, by simp only at h3; omega⟩))⟩
    ·rename_i hc3
     rw [if_neg hc3] at h1 h3
     exact ⟨_, [], e0, hO, .nil, .inr (.inr (.inr ⟨rfl, h1.symm, by simp only at h3; omega⟩))⟩
def TailZ (z : List UInt8) : Prop := ∃ B Q, Blanks B ∧ z = B ++ Q ∧ (Q = [] ∨ ∃ r, Q = 41 :: r ∧ ∀ b ∈ r, ¬ isD b)
theorem aqE {B : List UInt8} (h : Blanks B) : ∀ b ∈ B, ¬ isD b := by
 induction h with
 | nil => intro b hb; simp at hb
 | @cons e b he _ ih =>
  intro c hc
  rcases List.mem_append.1 hc with hc | hc
  ·rcases abP he with rfl | rfl | rfl | rfl <;> (simp at hc; first | (subst hc; exact notD (by decide)) | (rcases hc with rfl | rfl <;> exact notD (by decide)) | (rcases hc with rfl | rfl | rfl <;> exact notD (by decide)))
  ·exact ih c hc
theorem ayL {B : List UInt8} (h : Blanks B) : ∀ c t, B = c :: t → c = 32 ∨ c = 9 ∨ c = 194 ∨ c = 226 := by
 intro c t hc
 cases h with
 | nil => cases hc
 | @cons e b he _ =>
  rcases abP he with rfl | rfl | rfl | rfl <;> (injection hc with hc _; subst hc; simp)
theorem anR {l : Loc} (hl : l.entOk) {B Q : List UInt8} (hB : Blanks B) (hQ : CleanZ l Q) : CleanZ l (B ++ Q) := by
 refine ⟨fun b hb => ?_, fun c t h => ?_⟩
 ·rcases List.mem_append.1 hb with hb | hb
  ·exact aqE hB b hb
  ·exact hQ.noD b hb
 ·cases hb : B with
  | nil => rw [hb] at h; exact hQ.head c t h
  | cons b r =>
   rw [hb] at h
   injection h with h _
   subst h
   obtain ⟨d, hd, _, _, _, _, _, _, _, _, h1, h2, h3, h4⟩ := hl.dc
   rw [hd]
   rcases ayL hB b r hb with rfl | rfl | rfl | rfl
   ·exact ⟨by decide, by decide, fun q => h1 (by injection q)⟩
   ·exact ⟨by decide, by decide, fun q => h2 (by injection q)⟩
   ·exact ⟨by decide, by decide, fun q => h3 (by injection q)⟩
   ·exact ⟨by decide, by decide, fun q => h4 (by injection q)⟩
theorem bjN (l : Loc) : CleanZ l [] := ⟨fun b hb => by simp at hb, fun c t h => by cases h⟩
theorem agH {l : Loc} (hl : l.entOk) {z : List UInt8} (h : TailZ z) : CleanZ l z := by
 obtain ⟨B, Q, hB, rfl, hQ⟩ := h
 refine anR hl hB ?_
 rcases hQ with rfl | ⟨r, rfl, hr⟩
 ·exact bjN l
 ·obtain ⟨d, hd, _, _, _, _, h1, _⟩ := hl.dc
  refine ⟨fun b hb => ?_, fun c t h => ?_⟩
  ·rcases List.mem_cons.1 hb with rfl | hb
   ·exact notD (by decide)
   ·exact hr b hb
  ·injection h with h _
   subst h
   rw [hd]
   exact ⟨by decide, by decide, fun q => h1 (by injection q)⟩
theorem ayT {l : Loc} (hl : l.entOk) {v Z : List UInt8} {kd : Int} {d : List UInt8} {e : Int} {k : Nat} {gr x : Bool} (h : beX l v kd d e k gr x) (hz : TailZ Z) : afS l (v ++ Z) = some ((kd, d, e, k, gr, x), Z) := by
 obtain ⟨t, B, e0, hn, hB, h⟩ := h
 obtain ⟨c, r, hc, hce⟩ := arL hl.fine hn
 have hnr : ∀ z, CleanZ l z → ajD l (t ++ z) = some (d, e0, k, gr, x, z) := fun z h => num_ref hl.fine hl.second hl.grpOk hn h
 have hno : ∀ z, hasPrefix (t ++ z) l.cur = false := by intro z; rw [hc]; exact baW hl hce _
 obtain ⟨b, cr, hcur, hb1, hb2, hb3, hb4, hb5⟩ := hl.head
 have hcz : CleanZ l (l.cur ++ Z) := by
  refine ⟨fun a ha => ?_, fun a s ha => ?_⟩
  ·rcases List.mem_append.1 ha with ha | ha
   ·exact hl.cur a ha
   ·exact (agH hl hz).noD a ha
  ·rw [hcur] at ha
   injection ha with ha _
   subst ha
   exact ⟨hb1, hb2, hb3⟩
 have hpz : CleanZ l (l.pct ++ Z) := by
  obtain ⟨dd, hd, _, _, h1, _⟩ := hl.dc
  rw [hl.fine.pct]
  refine ⟨fun a ha => ?_, fun a s ha => ?_⟩
  ·rcases List.mem_append.1 ha with ha | ha
   ·have : a = 37 := by simpa using ha
    rw [this]; exact notD (by decide)
   ·exact (agH hl hz).noD a ha
  ·injection ha with ha _
   subst ha
   rw [hd]
   exact ⟨by decide, by decide, fun q => h1 (by injection q)⟩
 rcases h with ⟨rfl, rfl, rfl⟩ | ⟨rfl, rfl, rfl⟩ | ⟨rfl, rfl, rfl⟩ | ⟨rfl, rfl, rfl⟩
 ·unfold afS
  rw [List.append_assoc, if_pos (abL _ _), List.drop_left, List.append_assoc, qY hB (.inr (by rw [hc]; exact anP hl hce _)), hnr Z (agH hl hz)]
 ·unfold afS
  have h1 : zS (B ++ (l.cur ++ Z)) = l.cur ++ Z := qY hB (.inr (hl.money.left Z))
  have h2 : hasPrefix (l.cur ++ Z) l.pct = false := by rw [hl.fine.pct, hcur]; exact zX (by simpa using hb4)
  rw [List.append_assoc, List.append_assoc, if_neg (by rw [hno]; decide), hnr _ (anR hl hB hcz)]
  simp only
  rw [h1, if_neg (by rw [h2]; decide), if_pos (abL _ _), List.drop_left]
 ·unfold afS
  have h1 : zS (B ++ (l.pct ++ Z)) = l.pct ++ Z := qY hB (.inr (by rw [hl.fine.pct]; exact aaH [] Z (by decide) (by decide)))
  rw [List.append_assoc, List.append_assoc, if_neg (by rw [hno]; decide), hnr _ (anR hl hB hpz)]
  simp only
  rw [h1, if_pos (abL _ _), List.drop_left]
 ·unfold afS
  have hQ : hasPrefix (zS Z) l.pct = false ∧ hasPrefix (zS Z) l.cur = false := by
   obtain ⟨B2, Q, hB2, rfl, hQ⟩ := hz
   rcases hQ with rfl | ⟨r, rfl, _⟩
   ·rw [qY hB2 (.inl rfl), hl.fine.pct, hcur]
    exact ⟨rfl, rfl⟩
   ·have h41 : zS (B2 ++ (41 :: r)) = 41 :: r := qY hB2 (.inr (aaH [] r (by decide) (by decide)))
    rw [h41, hl.fine.pct, hcur]
    exact ⟨zX (by simp), zX (by simpa using hb5.symm)⟩
  rw [if_neg (by rw [hno]; decide), hnr _ (agH hl hz)]
  simp only
  rw [if_neg (by rw [hQ.1]; decide), if_neg (by rw [hQ.2]; decide)]
theorem bbH {l : Loc} (hl : l.entOk) {T Z : List UInt8} {kd : Int} {d : List UInt8} {e : Int} {k : Nat} {gr x : Bool} (h : afS l T = some ((kd, d, e, k, gr, x), Z)) : ∃ v, T = v ++ Z ∧ beX l v kd d e k gr x := by
 unfold afS at h
 split at h
 ·rename_i hc
  obtain ⟨y, rfl⟩ := abT.1 hc
  rw [List.drop_left] at h
  cases hn : ajD l (zS y) with
  | none => rw [hn] at h; cases h
  | some q =>
   obtain ⟨d2, e2, k2, g2, x2, z2⟩ := q
   rw [hn] at h
   simp only [Option.some.injEq, Prod.mk.injEq] at h
   obtain ⟨⟨rfl, rfl, rfl, rfl, rfl, rfl⟩, rfl⟩ := h
   obtain ⟨t, ht, hO⟩ := arK hl.fine hl.second hn
   obtain ⟨B, hB, hy⟩ := qZ y
   exact ⟨l.cur ++ (B ++ t), by rw [List.append_assoc, List.append_assoc, ← ht, ← hy], t, B, _, hO, hB, .inl ⟨rfl, rfl, rfl⟩⟩
 ·cases hn : ajD l T with
  | none => rw [hn] at h; cases h
  | some q =>
   obtain ⟨d2, e2, k2, g2, x2, z2⟩ := q
   rw [hn] at h
   simp only at h
   obtain ⟨t, rfl, hO⟩ := arK hl.fine hl.second hn
   obtain ⟨B, hB, hz⟩ := qZ z2
   split at h
   ·rename_i hc
    obtain ⟨y, hy⟩ := abT.1 hc
    rw [hy, List.drop_left] at h
    simp only [Option.some.injEq, Prod.mk.injEq] at h
    obtain ⟨⟨rfl, rfl, rfl, rfl, rfl, rfl⟩, rfl⟩ := h
    exact ⟨t ++ (B ++ l.pct), by rw [List.append_assoc, List.append_assoc, ← hy, ← hz], t, B, _, hO, hB, .inr (.inr (.inl ⟨rfl, rfl, rfl⟩))⟩
   ·split at h
    ·rename_i hc
     obtain ⟨y, hy⟩ := abT.1 hc
     rw [hy, List.drop_left] at h
     simp only [Option.some.injEq, Prod.mk.injEq] at h
     obtain ⟨⟨rfl, rfl, rfl, rfl, rfl, rfl⟩, rfl⟩ := h
     exact ⟨t ++ (B ++ l.cur), by rw [List.append_assoc, List.append_assoc, ← hy, ← hz], t, B, _, hO, hB, .inr (.inl ⟨rfl, rfl, rfl⟩)⟩
    ·simp only [Option.some.injEq, Prod.mk.injEq] at h
     obtain ⟨⟨rfl, rfl, rfl, rfl, rfl, rfl⟩, rfl⟩ := h
     exact ⟨t, rfl, t, [], _, hO, .nil, .inr (.inr (.inr ⟨rfl, rfl, rfl⟩))⟩
theorem bbI {l : Loc} (hl : l.entOk) {v : List UInt8} {kd : Int} {d : List UInt8} {e : Int} {k : Nat} {gr x : Bool} (h : beX l v kd d e k gr x) : v ≠ [] ∧ (∀ z, zQ (decodeL (v ++ z)).1 = false) ∧ (∀ z, Bare l (v ++ z) ∧ hasPrefix (v ++ z) [40] = false) ∧ (∀ z, zQ (decodeLastL (z ++ v)).1 = false) := by
 obtain ⟨t, B, e0, hn, hB, h⟩ := h
 obtain ⟨c, r, hc, hce⟩ := arL hl.fine hn
 obtain ⟨r2, c2, hc2, hce2⟩ := auD hl.fine hn
 have hea := adN hl hce
 have ht : ∀ z, zQ (decodeL (t ++ z)).1 = false ∧ Bare l (t ++ z) ∧ hasPrefix (t ++ z) [40] = false := by
  intro z
  rw [hc]
  exact ⟨anP hl hce _, avH hl.fine hea.2.2.2.2.2.1 hea.2.2.2.2.2.2.1 hea.2.2.2.2.2.2.2, zX (by simpa using hea.2.2.2.1)⟩
 have htn : t ≠ [] := by rw [hc]; simp
 rcases h with ⟨rfl, _, _⟩ | ⟨rfl, _, _⟩ | ⟨rfl, _, _⟩ | ⟨rfl, _, _⟩
 ·refine ⟨by simp [htn], fun z => by rw [List.append_assoc]; exact hl.money.left _, fun z => ?_, fun z => ?_⟩
  ·rw [List.append_assoc]
   have := hl.money.signs (B ++ t ++ z)
   exact ⟨⟨this.2.1, this.2.2.1, this.2.2.2⟩, this.1⟩
  ·rw [hc2, ← List.append_assoc, ← List.append_assoc, ← List.append_assoc]
   exact agW hl hce2 _
 ·refine ⟨by simp [htn], fun z => by rw [List.append_assoc]; exact (ht _).1, fun z => by rw [List.append_assoc]; exact (ht _).2, fun z => ?_⟩
  rw [← List.append_assoc, ← List.append_assoc]
  exact hl.money.right _
 ·refine ⟨by simp [htn], fun z => by rw [List.append_assoc]; exact (ht _).1, fun z => by rw [List.append_assoc]; exact (ht _).2, fun z => ?_⟩
  rw [← List.append_assoc, ← List.append_assoc, hl.fine.pct]
  exact acN [] _ (by decide) (by decide)
 ·exact ⟨htn, fun z => (ht z).1, fun z => (ht z).2, fun z => by rw [hc2, ← List.append_assoc]; exact agW hl hce2 _⟩

/-! ### entries -/
abbrev EntV := Bool × AmtV
def avW (l : Loc) (s : List UInt8) : Option EntV :=
 if hasPrefix (zS s) [40] = true then (match afS l (zS ((zS s).drop 1)) with | none => none | some (a, z) => if hasPrefix (zS z) [41] = true ∧ zS ((zS z).drop 1) = [] then some (true, a) else none)
 else match afS l (zS (yA l (zS s)).1) with | none => none | some (a, z) => if zS z = [] then some ((yA l (zS s)).2, a) else none
def accP (l : Loc) (u : List UInt8) : Option EntV :=
 match acI l u with
 | none => none
 | some (v, neg) => match amtQ l v with | none => none | some a => some (neg, a)
def EntOK (l : Loc) (s : List UInt8) (neg : Bool) (a : AmtV) : Prop :=
 ∃ v B0 B1 B3, beX l v a.1 a.2.1 a.2.2.1 a.2.2.2.1 a.2.2.2.2.1 a.2.2.2.2.2 ∧ Blanks B0 ∧ Blanks B1 ∧ Blanks B3 ∧
  ((neg = true ∧ ∃ B2, Blanks B2 ∧ s = B0 ++ (40 :: (B1 ++ (v ++ (B2 ++ (41 :: B3)))))) ∨ ∃ g, SgOK l g neg ∧ s = B0 ++ (g ++ (B1 ++ (v ++ B3))))
theorem aqT {l : Loc} (hl : l.entOk) {g : List UInt8} {b : Bool} (hg : SgOK l g b) (hn : g ≠ []) (z : List UInt8) : zQ (decodeL (g ++ z)).1 = false ∧ hasPrefix (g ++ z) [40] = false := by
 rcases hg with ⟨h, _⟩ | ⟨rfl, _⟩ | ⟨rfl, _⟩ | ⟨rfl, _⟩
 ·exact absurd h hn
 ·exact ⟨aaH [] z (by decide) (by decide), zX (by simp)⟩
 ·exact ⟨aaH [] z (by decide) (by decide), zX (by simp)⟩
 ·obtain ⟨c, r, hm, _, _, h40, _, hb⟩ := hl.fine.minus
  exact ⟨hb z, by rw [hm]; exact zX (by simpa using h40)⟩
theorem ent_ref {l : Loc} (hl : l.entOk) {s : List UInt8} {neg : Bool} {a : AmtV} (h : EntOK l s neg a) : avW l s = some (neg, a) := by
 obtain ⟨v, B0, B1, B3, hA, hB0, hB1, hB3, h⟩ := h
 have hv := bbI hl hA
 rcases h with ⟨rfl, B2, hB2, rfl⟩ | ⟨g, hg, rfl⟩
 ·have hT : TailZ (B2 ++ 41 :: B3) := ⟨B2, _, hB2, rfl, .inr ⟨B3, rfl, aqE hB3⟩⟩
  have e1 : zS (B0 ++ (40 :: (B1 ++ (v ++ (B2 ++ (41 :: B3)))))) = 40 :: (B1 ++ (v ++ (B2 ++ (41 :: B3)))) := qY hB0 (.inr (aaH [] _ (by decide) (by decide)))
  have e2 : zS (B1 ++ (v ++ (B2 ++ (41 :: B3)))) = v ++ (B2 ++ (41 :: B3)) := qY hB1 (.inr (hv.2.1 _))
  have e3 : zS (B2 ++ 41 :: B3) = 41 :: B3 := qY hB2 (.inr (aaH [] _ (by decide) (by decide)))
  unfold avW
  have h40 : hasPrefix (40 :: (B1 ++ (v ++ (B2 ++ (41 :: B3))))) [40] = true := abL [40] _
  have h41 : hasPrefix (41 :: B3) [41] = true := abL [41] _
  rw [e1, if_pos h40, List.drop_succ_cons, List.drop_zero, e2, ayT hl hA hT]
  simp only
  rw [e3, if_pos ⟨h41, by rw [List.drop_succ_cons, List.drop_zero]; exact ajP hB3⟩]
 ·have hT : TailZ B3 := ⟨B3, [], hB3, by rw [List.append_nil], .inl rfl⟩
  by_cases hg0 : g = []
  ·subst hg0
   have hneg : neg = false := by
    rcases hg with ⟨_, h⟩ | ⟨h, _⟩ | ⟨h, _⟩ | ⟨h, _⟩
    ·exact h
    ·cases h
    ·cases h
    ·obtain ⟨c, r, hm, _⟩ := hl.fine.minus
     rw [hm] at h; cases h
   have e1 : zS (B0 ++ ([] ++ (B1 ++ (v ++ B3)))) = v ++ B3 := by
    rw [List.nil_append, ← List.append_assoc]; exact qY (hB0.app hB1) (.inr (hv.2.1 _))
   have e2 : yA l (v ++ B3) = (v ++ B3, neg) := ajJ hl.fine hg fun _ => (hv.2.2.1 B3).1
   unfold avW
   rw [e1, if_neg (by rw [(hv.2.2.1 B3).2]; decide), e2]
   simp only
   rw [anD (.inr (hv.2.1 _)), ayT hl hA hT]
   simp only
   rw [if_pos (ajP hB3)]
  ·have e1 : zS (B0 ++ (g ++ (B1 ++ (v ++ B3)))) = g ++ (B1 ++ (v ++ B3)) := qY hB0 (.inr (aqT hl hg hg0 _).1)
   have e2 : yA l (g ++ (B1 ++ (v ++ B3))) = (B1 ++ (v ++ B3), neg) := ajJ hl.fine hg fun q => absurd q hg0
   unfold avW
   rw [e1, if_neg (by rw [(aqT hl hg hg0 _).2]; decide), e2]
   simp only
   rw [qY hB1 (.inr (hv.2.1 _)), ayT hl hA hT]
   simp only
   rw [if_pos (ajP hB3)]
theorem ent_refs {l : Loc} (hl : l.entOk) {s : List UInt8} {neg : Bool} {a : AmtV} (h : avW l s = some (neg, a)) : EntOK l s neg a := by
 obtain ⟨B0, hB0, h0⟩ := qZ s
 unfold avW at h
 split at h
 ·rename_i hc
  obtain ⟨y, hy⟩ := abT.1 hc
  rw [hy] at h h0
  have hd : ([40] ++ y : List UInt8).drop 1 = y := rfl
  rw [hd] at h
  cases ha : afS l (zS y) with
  | none => rw [ha] at h; cases h
  | some q =>
   obtain ⟨a2, z⟩ := q
   rw [ha] at h
   simp only at h
   split at h
   ·rename_i hc2
    simp only [Option.some.injEq, Prod.mk.injEq] at h
    obtain ⟨rfl, rfl⟩ := h
    obtain ⟨v, hv, hA⟩ := bbH (kd := a2.1) (d := a2.2.1) (e := a2.2.2.1) (k := a2.2.2.2.1) (gr := a2.2.2.2.2.1) (x := a2.2.2.2.2.2) hl ha
    obtain ⟨w, hw⟩ := abT.1 hc2.1
    have hd2 : ([41] ++ w : List UInt8).drop 1 = w := rfl
    rw [hw, hd2] at hc2
    obtain ⟨B1, hB1, h1⟩ := qZ y
    obtain ⟨B2, hB2, h2⟩ := qZ z
    obtain ⟨B3, hB3, h3⟩ := qZ w
    rw [hc2.2, List.append_nil] at h3
    refine ⟨v, B0, B1, B3, hA, hB0, hB1, hB3, .inl ⟨rfl, B2, hB2, ?_⟩⟩
    rw [h0, h1, hv, h2, hw, h3]
    rfl
   ·cases h
 ·cases ha : afS l (zS (yA l (zS s)).1) with
  | none => rw [ha] at h; cases h
  | some q =>
   obtain ⟨a2, z⟩ := q
   rw [ha] at h
   simp only at h
   split at h
   ·rename_i hz
    simp only [Option.some.injEq, Prod.mk.injEq] at h
    obtain ⟨rfl, rfl⟩ := h
    obtain ⟨v, hv, hA⟩ := bbH (kd := a2.1) (d := a2.2.1) (e := a2.2.2.1) (k := a2.2.2.2.1) (gr := a2.2.2.2.2.1) (x := a2.2.2.2.2.2) hl ha
    obtain ⟨g, hg, h1⟩ := aeO l (zS s)
    obtain ⟨B1, hB1, h2⟩ := qZ (yA l (zS s)).1
    obtain ⟨B3, hB3, h3⟩ := qZ z
    rw [hz, List.append_nil] at h3
    refine ⟨v, B0, B1, B3, hA, hB0, hB1, hB3, .inr ⟨g, hg, ?_⟩⟩
    rw [← h3, ← hv, ← h2, ← h1]
    exact h0
   ·cases h
theorem ent_prog {l : Loc} (hl : l.entOk) {s : List UInt8} {neg : Bool} {a : AmtV} (h : EntOK l s neg a) : accP l (qM zQ s) = some (neg, a) := by
 obtain ⟨v, B0, B1, B3, hA, hB0, hB1, hB3, h⟩ := h
 have hv := bbI hl hA
 have hq := amt_prog hl hA
 have key : ∀ u, acI l u = some (v, neg) → accP l u = some (neg, a) := by
  intro u hu
  unfold accP
  rw [hu]
  simp only
  rw [hq]
 rcases h with ⟨rfl, B2, hB2, rfl⟩ | ⟨g, hg, rfl⟩
 ·have e0 : B0 ++ (40 :: (B1 ++ (v ++ (B2 ++ (41 :: B3))))) = B0 ++ ([40] ++ ((B1 ++ (v ++ B2)) ++ [41])) ++ B3 := by simp
  have e1 : qM zQ (B0 ++ (40 :: (B1 ++ (v ++ (B2 ++ (41 :: B3)))))) = [40] ++ ((B1 ++ (v ++ B2)) ++ [41]) := by
   rw [e0]
   refine akS hB0 hB3 (.inr ?_) (.inr ?_)
   ·rw [List.append_assoc]; exact aaH [] _ (by decide) (by decide)
   ·rw [← List.append_assoc]; exact acN [] _ (by decide) (by decide)
  rw [e1]
  refine key _ ?_
  have e2 : qM zQ (B1 ++ (v ++ B2)) = v := by
   rw [← List.append_assoc]
   exact akS hB1 hB2 (.inr (hv.2.1 _)) (.inr (hv.2.2.2 []))
  unfold acI
  rw [if_pos (abL _ _), abZ, if_pos (ahL.2 ⟨_, rfl⟩), agE, e2]
 ·by_cases hg0 : g = []
  ·subst hg0
   have e1 : qM zQ (B0 ++ ([] ++ (B1 ++ (v ++ B3)))) = v := by
    rw [List.nil_append, ← List.append_assoc, ← List.append_assoc]
    exact akS (hB0.app hB1) hB3 (.inr (hv.2.1 _)) (.inr (hv.2.2.2 []))
   rw [e1]
   refine key _ ?_
   have hvn := hv.2.1 []
   have hvb := hv.2.2.1 []
   rw [List.append_nil] at hvn hvb
   have e2 : yA l v = (v, neg) := ajJ hl.fine (x := v) hg fun _ => hvb.1
   unfold acI
   rw [if_neg (by rw [hvb.2]; decide), e2]
   simp only
   rw [aoR (.inr hvn)]
  ·have e0 : B0 ++ (g ++ (B1 ++ (v ++ B3))) = B0 ++ (g ++ (B1 ++ v)) ++ B3 := by simp
   have e1 : qM zQ (B0 ++ (g ++ (B1 ++ (v ++ B3)))) = g ++ (B1 ++ v) := by
    rw [e0]
    refine akS hB0 hB3 (.inr ?_) (.inr ?_)
    ·rw [List.append_assoc]; exact (aqT hl hg hg0 _).1
    ·rw [← List.append_assoc]; exact hv.2.2.2 _
   rw [e1]
   refine key _ ?_
   have hvn := hv.2.1 []
   rw [List.append_nil] at hvn
   have e2 : yA l (g ++ (B1 ++ v)) = (B1 ++ v, neg) := ajJ hl.fine hg fun q => absurd q hg0
   unfold acI
   rw [if_neg (by rw [(aqT hl hg hg0 _).2]; decide), e2]
   simp only
   rw [afV hB1 (.inr hvn) _ (Nat.le_refl _)]
theorem biZ {l : Loc} (hl : l.entOk) {s : List UInt8} {neg : Bool} {a : AmtV} (h : accP l (qM zQ s) = some (neg, a)) : EntOK l s neg a := by
 obtain ⟨B0, B3, hB0, hB3, hs⟩ := aoP s
 unfold accP at h
 cases hi : acI l (qM zQ s) with
 | none => rw [hi] at h; cases h
 | some q =>
  obtain ⟨v, n2⟩ := q
  rw [hi] at h
  simp only at h
  cases hq : amtQ l v with
  | none => rw [hq] at h; cases h
  | some a2 =>
   rw [hq] at h
   simp only [Option.some.injEq, Prod.mk.injEq] at h
   obtain ⟨rfl, rfl⟩ := h
   have hA := bjU (kd := a2.1) (d := a2.2.1) (e := a2.2.2.1) (k := a2.2.2.2.1) (gr := a2.2.2.2.2.1) (x := a2.2.2.2.2.2) hl hq
   unfold acI at hi
   split at hi
   ·rename_i hc
    obtain ⟨y, hy⟩ := abT.1 hc
    rw [hy, abZ] at hi
    split at hi
    ·rename_i hc2
     obtain ⟨w, hw⟩ := ahL.1 hc2
     rw [hw, agE] at hi
     simp only [Option.some.injEq, Prod.mk.injEq] at hi
     obtain ⟨hv, rfl⟩ := hi
     obtain ⟨B1, B2, hB1, hB2, h1⟩ := aoP w
     rw [hv] at h1
     refine ⟨v, B0, B1, B3, hA, hB0, hB1, hB3, .inl ⟨rfl, B2, hB2, ?_⟩⟩
     rw [hs, hy, hw, h1]
     simp
    ·cases hi
   ·simp only [Option.some.injEq, Prod.mk.injEq] at hi
    obtain ⟨hv, rfl⟩ := hi
    obtain ⟨g, hg, h1⟩ := aeO l (qM zQ s)
    obtain ⟨B1, hB1, h2⟩ := qZ (yA l (qM zQ s)).1
    unfold zS at h2
    rw [hv] at h2
    refine ⟨v, B0, B1, B3, hA, hB0, hB1, hB3, .inr ⟨g, hg, ?_⟩⟩
    have h3 : s = B0 ++ (g ++ (B1 ++ v)) ++ B3 := by rw [← h2, ← h1]; exact hs
    rw [h3]
    simp only [List.append_assoc]
theorem acc_eq {l : Loc} (hl : l.entOk) (s : List UInt8) : avW l s = accP l (qM zQ s) := by
 cases h : avW l s with
 | some q => obtain ⟨n, a⟩ := q; exact (ent_prog hl (ent_refs hl h)).symm
 | none =>
  cases h2 : accP l (qM zQ s) with
  | none => rfl
  | some q =>
   obtain ⟨n, a⟩ := q
   rw [ent_ref hl (biZ hl h2)] at h
   cases h
def axS (o : Option EntV) : EntN × Int :=
 match o with
 | none => (EntN.zero, 3)
 | some (neg, kd, d, e, k, gr, x) =>
  if (mkN neg d e).2 ≠ 0 then (EntN.zero, 2)
  else if qD (ahY (mkN neg d e).1.1 (mkN neg d e).1.2.1 (mkN neg d e).1.2.2) = 3 then (EntN.zero, 2)
  else (⟨ahY (mkN neg d e).1.1 (mkN neg d e).1.2.1 (mkN neg d e).1.2.2, kd, k, gr, x⟩, 0)
theorem bdK (l : Loc) (u : List UInt8) : acE l u = axS (accP l u) := by
 unfold acE accP
 cases acI l u with
 | none => rfl
 | some q =>
  obtain ⟨v, neg⟩ := q
  simp only
  unfold asN amtQ
  cases alA l (acG l v).2.1 with
  | none => rfl
  | some q => obtain ⟨d, e, k, gr, x⟩ := q; rfl
theorem made_ref {l : Loc} (hl : l.entOk) (s : List UInt8) : axS (avW l s) = acE l (qM zQ s) := by rw [acc_eq hl, bdK]
end Go.Proofs.YtfkeflcdadlmdaaGreatDoor
