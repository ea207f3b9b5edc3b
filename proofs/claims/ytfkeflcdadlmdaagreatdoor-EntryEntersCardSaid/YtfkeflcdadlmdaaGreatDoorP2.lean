import Derived.Test.YtfkeflcdadlmdaaGreatDoorYd
import Derived.Test.YtfkeflcdadlmdaaGreatDoorN1
import Derived.Test.YtfkeflcdadlmdaaGreatDoorP1
import Derived.Test.YtfkeflcdadlmdaaGreatDoorSsk
import Derived.Test.YtfkeflcdadlmdaaGreatDoorX1
namespace Go.Proofs.YtfkeflcdadlmdaaGreatDoor
open Go Go.RowKit

def rne (n k : Nat) (more : Bool) : Nat :=
 if n / 2 ^ (k - 1) % 2 = 1 ∧ (n % 2 ^ (k - 1) ≠ 0 ∨ more = true ∨ n / 2 ^ k % 2 = 1) then n / 2 ^ k + 1 else n / 2 ^ k
def zY (n : Nat) (e : Int) : Int := if e + yI n - 53 < -1074 then -1074 else e + yI n - 53
def abM (n : Nat) (e : Int) (more : Bool) : Nat := if zY n e ≤ e then n * 2 ^ (e - zY n e).toNat else rne n (zY n e - e).toNat more
def avV : Nat := 9218868437227405312
def aaJ (neg : Bool) : Nat := if neg = true then 9223372036854775808 else 0
def abY (m : Nat) (u : Int) : Nat :=
 if m < 4503599627370496 then m
 else if u + 1075 ≥ 2047 then avV
 else m + (u + 1074).toNat * 4503599627370496
def axM (neg : Bool) (m : Nat) (u : Int) : Nat := aaJ neg + (if m = 9007199254740992 then abY 4503599627370496 (u + 1) else abY m u)
def yB (neg : Bool) (n : Nat) (e : Int) (more : Bool) : Nat :=
 if n = 0 ∨ (e < -10000 ∧ e + yI n < -2000) then aaJ neg
 else if 2000 < e then aaJ neg + avV
 else axM neg (abM n e more) (zY n e)
theorem ayK {n j : Nat} (h : 0 < n / 2 ^ j) : yI n = yI (n / 2 ^ j) + j := by
 have h1 : yI n ≤ yI (n / 2 ^ j) + j := by
  rw [yW, Nat.pow_add]
  exact (Nat.div_lt_iff_lt_mul (Nat.pow_pos (by decide))).1 (yW.1 (Nat.le_refl _))
 have h2 : yI (n / 2 ^ j) + j ≤ yI n := by
  have hb : 0 < yI (n / 2 ^ j) := aaU.2 (by rw [Nat.pow_zero]; exact h)
  have h3 : 2 ^ (yI (n / 2 ^ j) - 1) ≤ n / 2 ^ j := aaU.1 (by omega)
  have h4 : 2 ^ (yI (n / 2 ^ j) - 1 + j) ≤ n := by
   rw [Nat.pow_add]
   exact Nat.le_trans (Nat.mul_le_mul_right _ h3) (Nat.div_mul_le_self _ _)
  have := aaU.2 h4
  omega
 omega
theorem rne_cut {n j k : Nat} {more : Bool} (hk : 2 ≤ k) : rne n (k + j) more = rne (n / 2 ^ j) k (more || decide (n % 2 ^ j ≠ 0)) := by
 have e1 : n / 2 ^ (k + j) = n / 2 ^ j / 2 ^ k := by rw [Nat.div_div_eq_div_mul, ← Nat.pow_add, Nat.add_comm]
 have e2 : n / 2 ^ (k + j - 1) = n / 2 ^ j / 2 ^ (k - 1) := by rw [Nat.div_div_eq_div_mul, ← Nat.pow_add, show k + j - 1 = j + (k - 1) by omega]
 have e3 : n % 2 ^ (k + j - 1) ≠ 0 ↔ (n % 2 ^ j ≠ 0 ∨ n / 2 ^ j % 2 ^ (k - 1) ≠ 0) := by
  rw [show k + j - 1 = j + (k - 1) by omega, Nat.pow_add, Nat.mod_mul]
  have h : 0 < 2 ^ j := Nat.pow_pos (by decide)
  constructor
  ·intro q
   by_cases h1 : n % 2 ^ j = 0
   ·right; intro h2; rw [h1, h2] at q; simp at q
   ·exact .inl h1
  ·rintro (q | q) h1
   ·omega
   ·have : 0 < 2 ^ j * (n / 2 ^ j % 2 ^ (k - 1)) := Nat.mul_pos h (Nat.pos_of_ne_zero q)
    omega
 unfold rne
 rw [e1, e2]
 have e4 : (n % 2 ^ (k + j - 1) ≠ 0 ∨ more = true ∨ n / 2 ^ j / 2 ^ k % 2 = 1) ↔ (n / 2 ^ j % 2 ^ (k - 1) ≠ 0 ∨ (more || decide (n % 2 ^ j ≠ 0)) = true ∨ n / 2 ^ j / 2 ^ k % 2 = 1) := by
  rw [e3, Bool.or_eq_true, decide_eq_true_eq]
  constructor
  ·rintro ((h | h) | h | h)
   ·exact .inr (.inl (.inr h))
   ·exact .inl h
   ·exact .inr (.inl (.inl h))
   ·exact .inr (.inr h)
  ·rintro (h | (h | h) | h)
   ·exact .inl (.inr h)
   ·exact .inr (.inl h)
   ·exact .inl (.inl h)
   ·exact .inr (.inr h)
 simp only [e4]
theorem amC {neg : Bool} {n j : Nat} {e : Int} {more : Bool} (hb : 55 ≤ yI (n / 2 ^ j)) (he : -10000 ≤ e) (he2 : e ≤ 2000) :
  yB neg n e more = yB neg (n / 2 ^ j) (e + j) (more || decide (n % 2 ^ j ≠ 0)) := by
 have hp : 0 < n / 2 ^ j := by
  have := aaU.1 (show 0 < yI (n / 2 ^ j) by omega)
  rw [Nat.pow_zero] at this; exact this
 have hn : 0 < n := by
  rcases Nat.eq_zero_or_pos n with h | h
  ·subst h; simp at hp
  ·exact h
 have hl := ayK hp
 have hu : zY n e = zY (n / 2 ^ j) (e + j) := by unfold zY; rw [hl]; split <;> split <;> omega
 have hu2 : zY n e ≥ e + j + 2 := by unfold zY; split <;> omega
 have hm : abM n e more = abM (n / 2 ^ j) (e + j) (more || decide (n % 2 ^ j ≠ 0)) := by
  unfold abM
  rw [if_neg (by omega), ← hu, if_neg (by omega), show (zY n e - e).toNat = (zY n e - (e + j)).toNat + j by omega]
  exact rne_cut (by omega)
 unfold yB
 rw [if_neg (by omega), if_neg (by omega), if_neg (by omega), hm, hu]
 by_cases h2 : 2000 < e + (j : Int)
 ·rw [if_pos h2]
  -- far above: endless
  have hu3 : zY (n / 2 ^ j) (e + j) = e + j + yI (n / 2 ^ j) - 53 := by unfold zY; split <;> omega
  have hge : 4503599627370496 ≤ abM (n / 2 ^ j) (e + j) (more || decide (n % 2 ^ j ≠ 0)) := by
   unfold abM
   rw [if_neg (by omega)]
   have h5 : 2 ^ 52 ≤ n / 2 ^ j / 2 ^ (zY (n / 2 ^ j) (e + j) - (e + j)).toNat := by
    rw [Nat.le_div_iff_mul_le (Nat.pow_pos (by decide)), ← Nat.pow_add]
    refine aaU.1 ?_
    omega
   unfold rne
   split <;> omega
  unfold axM
  split
  ·unfold abY; rw [if_neg (by omega), if_pos (by omega)]
  ·unfold abY; rw [if_neg (by omega), if_pos (by omega)]
 ·rw [if_neg h2]
theorem rne_mono {n1 n2 k : Nat} {m1 m2 : Bool} (hk : 1 ≤ k) (h : n1 < n2 ∨ (n1 = n2 ∧ (m1 = true → m2 = true))) : rne n1 k m1 ≤ rne n2 k m2 := by
 have hn : n1 ≤ n2 := by omega
 have hp : 2 ^ k = 2 ^ (k - 1) * 2 := by rw [← Nat.pow_succ, show (k - 1).succ = k by omega]
 have hq : n1 / 2 ^ (k - 1) ≤ n2 / 2 ^ (k - 1) := Nat.div_le_div_right hn
 have e1 : n1 / 2 ^ k = n1 / 2 ^ (k - 1) / 2 := by rw [hp, Nat.div_div_eq_div_mul]
 have e2 : n2 / 2 ^ k = n2 / 2 ^ (k - 1) / 2 := by rw [hp, Nat.div_div_eq_div_mul]
 have d1 := Nat.div_add_mod n1 (2 ^ (k - 1))
 have d2 := Nat.div_add_mod n2 (2 ^ (k - 1))
 unfold rne
 rw [e1, e2]
 generalize n1 / 2 ^ (k - 1) = q1 at *
 generalize n2 / 2 ^ (k - 1) = q2 at *
 generalize hr1 : n1 % 2 ^ (k - 1) = r1 at *
 generalize hr2 : n2 % 2 ^ (k - 1) = r2 at *
 rcases Nat.lt_or_ge q1 q2 with hlt | hge
 ·-- a whole half apart: only q2 = q1 + 1 with q1 odd, q2 even or q1 even, q2 odd matter
  split <;> split <;> omega
 ·have hqe : q1 = q2 := by omega
  subst hqe
  have hrr : r1 < r2 ∨ (r1 = r2 ∧ (m1 = true → m2 = true)) := by
   rcases h with h | ⟨h, hm⟩
   ·left; omega
   ·right; exact ⟨by omega, hm⟩
  split
  ·rename_i c1
   rw [if_pos]
   ·exact Nat.le_refl _
   ·refine ⟨c1.1, ?_⟩
    rcases c1.2 with c | c | c
    ·left; omega
    ·rcases hrr with hrr | ⟨_, hm⟩
     ·left; omega
     ·exact .inr (.inl (hm c))
    ·exact .inr (.inr c)
  ·split <;> omega
def pk (m : Nat) (u : Int) : Nat := if m = 9007199254740992 then abY 4503599627370496 (u + 1) else abY m u
theorem auB (m : Nat) (u : Int) (h : m < 9007199254740992) : abY m u ≤ avV := by
 unfold abY avV
 split
 ·omega
 ·split <;> omega
theorem axK {m1 m2 : Nat} {u : Int} (hu : -1074 ≤ u) (h : m1 ≤ m2) (h2 : m2 ≤ 9007199254740992) : pk m1 u ≤ pk m2 u := by
 unfold pk abY avV
 repeat' split
 all_goals omega
theorem pk_next {m : Nat} {u : Int} (hu : -1074 ≤ u) (h : m ≤ 9007199254740992) : pk m u ≤ abY 4503599627370496 (u + 1) := by
 have := axK hu h (Nat.le_refl _)
 unfold pk at this ⊢
 rw [if_pos rfl] at this
 exact this
theorem packM_up {u1 u2 : Int} (h1 : -1074 ≤ u1) (h : u1 ≤ u2) : abY 4503599627370496 u1 ≤ abY 4503599627370496 u2 := by
 unfold abY avV
 repeat' split
 all_goals omega
theorem aqM (n : Nat) (e : Int) : -1074 ≤ zY n e := by unfold zY; split <;> omega
theorem aeW {a b : Nat} (h : a ≤ b) : yI a ≤ yI b := yW.2 (Nat.lt_of_le_of_lt h (yW.1 (Nat.le_refl _)))
theorem bfG {a b : Nat} (h : a ≤ b) (e : Int) : zY a e ≤ zY b e := by
 have := aeW h
 unfold zY; split <;> split <;> omega
theorem rne_le {n k b : Nat} {more : Bool} (h : n < 2 ^ (b + k)) : rne n k more ≤ 2 ^ b := by
 have : n / 2 ^ k < 2 ^ b := by rw [Nat.div_lt_iff_lt_mul (Nat.pow_pos (by decide)), ← Nat.pow_add]; exact h
 unfold rne; split <;> omega
theorem ahV (n : Nat) (e : Int) (more : Bool) : abM n e more ≤ 9007199254740992 := by
 have hn : n < 2 ^ yI n := yW.1 (Nat.le_refl _)
 have e53 : (9007199254740992 : Nat) = 2 ^ 53 := by decide
 unfold abM
 split
 ·rename_i h
  have hb : yI n + (e - zY n e).toNat ≤ 53 := by unfold zY at *; split at h <;> omega
  rw [e53]
  refine Nat.le_trans ?_ (Nat.pow_le_pow_right (by decide) hb)
  rw [Nat.pow_add]
  exact Nat.mul_le_mul_right _ (Nat.le_of_lt hn)
 ·rename_i h
  rw [e53]
  refine rne_le (Nat.lt_of_lt_of_le hn (Nat.pow_le_pow_right (by decide) ?_))
  unfold zY at *; split at h <;> omega
theorem bhY {n : Nat} {e : Int} {more : Bool} (h : -1074 < zY n e) (hn : 0 < n) : 4503599627370496 ≤ abM n e more := by
 have hb : 2 ^ (yI n - 1) ≤ n := aaU.1 (by have := aaU.2 (show 2 ^ 0 ≤ n from hn); omega)
 have hb0 : 0 < yI n := aaU.2 (show 2 ^ 0 ≤ n from hn)
 have e52 : (4503599627370496 : Nat) = 2 ^ 52 := by decide
 have hu : zY n e = e + yI n - 53 := by unfold zY at *; split at h <;> omega
 unfold abM
 split
 ·rw [e52]
  refine Nat.le_trans (Nat.pow_le_pow_right (by decide) (show 52 ≤ yI n - 1 + (e - zY n e).toNat by omega)) ?_
  rw [Nat.pow_add]
  exact Nat.mul_le_mul_right _ hb
 ·have h5 : 2 ^ 52 ≤ n / 2 ^ (zY n e - e).toNat := by
   rw [Nat.le_div_iff_mul_le (Nat.pow_pos (by decide)), ← Nat.pow_add]
   refine Nat.le_trans (Nat.pow_le_pow_right (by decide) ?_) hb
   omega
  unfold rne
  split <;> omega
theorem arJ (neg : Bool) (m : Nat) (u : Int) : axM neg m u = aaJ neg + pk m u := rfl
theorem agL {n1 n2 : Nat} {e : Int} {m1 m2 : Bool} (he : -10000 ≤ e) (he2 : e ≤ 2000) (hn : 0 < n1) (h : n1 < n2 ∨ (n1 = n2 ∧ (m1 = true → m2 = true))) : yB false n1 e m1 ≤ yB false n2 e m2 := by
 have hle : n1 ≤ n2 := by omega
 unfold yB
 rw [if_neg (by omega), if_neg (by omega), if_neg (by omega), if_neg (by omega), arJ, arJ]
 refine Nat.add_le_add_left ?_ _
 have hu := bfG hle e
 have l1 := aqM n1 e
 rcases Int.lt_or_eq_of_le hu with hlt | heq
 ·refine Nat.le_trans (pk_next l1 (ahV _ _ _)) (Nat.le_trans (packM_up (by omega) (show zY n1 e + 1 ≤ zY n2 e by omega)) ?_)
  have hg := bhY (more := m2) (show -1074 < zY n2 e by omega) (show 0 < n2 by omega)
  have := axK (u := zY n2 e) (by omega) hg (ahV _ _ _)
  unfold pk at this ⊢
  rw [if_neg (by decide)] at this
  exact this
 ·rw [← heq]
  refine axK l1 ?_ (ahV _ _ _)
  unfold abM
  rw [← heq]
  split
  ·exact Nat.mul_le_mul_right _ hle
  ·exact rne_mono (by omega) h
theorem bbD {n j : Nat} (h : 0 < n) : yI (n * 2 ^ j) = yI n + j := by
 have e : n * 2 ^ j / 2 ^ j = n := Nat.mul_div_cancel _ (Nat.pow_pos (by decide))
 have := ayK (n := n * 2 ^ j) (j := j) (by rw [e]; exact h)
 rw [e] at this; exact this
theorem bgN {n j k : Nat} (hk : 1 ≤ k) : rne (n * 2 ^ j) (k + j) false = rne n k false := by
 have hp : 0 < 2 ^ j := Nat.pow_pos (by decide)
 have e1 : n * 2 ^ j / 2 ^ (k + j) = n / 2 ^ k := by rw [Nat.pow_add, Nat.mul_div_mul_right _ _ hp]
 have e2 : n * 2 ^ j / 2 ^ (k + j - 1) = n / 2 ^ (k - 1) := by rw [show k + j - 1 = k - 1 + j by omega, Nat.pow_add, Nat.mul_div_mul_right _ _ hp]
 have e3 : n * 2 ^ j % 2 ^ (k + j - 1) ≠ 0 ↔ n % 2 ^ (k - 1) ≠ 0 := by
  rw [show k + j - 1 = k - 1 + j by omega, Nat.pow_add, Nat.mul_mod_mul_right]
  constructor
  ·intro h q; rw [q, Nat.zero_mul] at h; exact h rfl
  ·intro h q
   rcases Nat.mul_eq_zero.1 q with q | q
   ·exact h q
   ·omega
 unfold rne
 rw [e1, e2]
 simp only [e3]
theorem bgO {n j k : Nat} (hk : 1 ≤ k) (hj : k ≤ j) : rne (n * 2 ^ j) k false = n * 2 ^ (j - k) := by
 have e1 : n * 2 ^ j / 2 ^ k = n * 2 ^ (j - k) := by
  rw [show j = j - k + k by omega, Nat.pow_add, ← Nat.mul_assoc, Nat.mul_div_cancel _ (Nat.pow_pos (by decide)), show j - k + k - k = j - k by omega]
 have e2 : n * 2 ^ j / 2 ^ (k - 1) = n * 2 ^ (j - k) * 2 := by
  rw [show j = (j - k + 1) + (k - 1) by omega, Nat.pow_add, ← Nat.mul_assoc, Nat.mul_div_cancel _ (Nat.pow_pos (by decide)), Nat.pow_succ, ← Nat.mul_assoc, show j - k + 1 + (k - 1) - k = j - k by omega]
 unfold rne
 rw [e1, e2, if_neg (by omega)]
theorem adT {neg : Bool} {n j : Nat} {e : Int} (he : -10000 ≤ e) (he2 : e + j ≤ 2000) : yB neg (n * 2 ^ j) e false = yB neg n (e + j) false := by
 rcases Nat.eq_zero_or_pos n with h0 | hn
 ·subst h0; unfold yB; simp
 have hn2 : 0 < n * 2 ^ j := Nat.mul_pos hn (Nat.pow_pos (by decide))
 have hl := bbD (j := j) hn
 have hu : zY (n * 2 ^ j) e = zY n (e + j) := by unfold zY; rw [hl]; split <;> split <;> omega
 unfold yB
 rw [if_neg (by omega), if_neg (by omega), if_neg (by omega), if_neg (by omega), hu]
 congr 1
 unfold abM
 rw [hu]
 by_cases h1 : zY n (e + j) ≤ e
 ·rw [if_pos h1, if_pos (by omega), Nat.mul_assoc, ← Nat.pow_add]
  congr 2; omega
 ·rw [if_neg h1]
  by_cases h2 : zY n (e + j) ≤ e + j
  ·rw [if_pos h2, bgO (by omega) (by omega)]
   congr 2; omega
  ·rw [if_neg h2, show (zY n (e + j) - e).toNat = (zY n (e + j) - (e + j)).toNat + j by omega, bgN (by omega)]
def avS (a b k : Nat) : Nat := yB false (a * 2 ^ k / b) (-(k : Int)) (decide (a * 2 ^ k % b ≠ 0))
theorem rat_up {a b k : Nat} (hb : 0 < b) (h : 55 ≤ yI (a * 2 ^ k / b)) (hk : k + 1 ≤ 10000) : avS a b (k + 1) = avS a b k := by
 have e1 : a * 2 ^ (k + 1) / b / 2 ^ 1 = a * 2 ^ k / b := by
  rw [Nat.pow_one, Nat.div_div_eq_div_mul, Nat.pow_succ, ← Nat.mul_assoc, Nat.mul_div_mul_right _ _ (by decide)]
 unfold avS
 rw [amC (j := 1) (by rw [e1]; exact h) (by omega) (by omega), e1, show (-((k + 1 : Nat) : Int)) + ((1 : Nat) : Int) = -(k : Int) by omega]
 congr 1
 have hd := Nat.div_add_mod (a * 2 ^ k) b
 have hr := Nat.mod_lt (a * 2 ^ k) hb
 have e2 : a * 2 ^ (k + 1) = b * (2 * (a * 2 ^ k / b)) + 2 * (a * 2 ^ k % b) := by
  rw [Nat.pow_succ, ← Nat.mul_assoc, ← hd]
  generalize a * 2 ^ k / b = q
  generalize hr2 : (b * q + a * 2 ^ k % b) % b = r at *
  rw [Nat.mul_add_mod, Nat.mod_mod] at hr2
  rw [← hr2, Nat.mul_add_div hb, Nat.div_eq_of_lt hr, Nat.add_zero, Nat.add_mul, Nat.mul_assoc, Nat.mul_comm q 2, Nat.mul_comm 2 (a * 2 ^ k % b)]
 generalize hq : a * 2 ^ k / b = q at *
 generalize hrr : a * 2 ^ k % b = r at *
 rw [e2]
 rcases Nat.lt_or_ge (2 * r) b with hc | hc
 ·rw [Nat.mul_add_mod, Nat.mod_eq_of_lt hc, Nat.mul_add_div hb, Nat.div_eq_of_lt hc, Nat.add_zero, Nat.pow_one, Nat.mul_mod_right]
  by_cases hr0 : r = 0
  ·simp [hr0]
  ·simp [hr0]; omega
 ·have e3 : 2 * r = b * 1 + (2 * r - b) := by omega
  have hc2 : 2 * r - b < b := by omega
  rw [e3, ← Nat.add_assoc, ← Nat.mul_add, Nat.mul_add_mod, Nat.mod_eq_of_lt hc2, Nat.mul_add_div hb, Nat.div_eq_of_lt hc2, Nat.add_zero, Nat.pow_one]
  have hr0 : r ≠ 0 := by omega
  have : (2 * q + 1) % 2 = 1 := by omega
  simp [hr0, this]
theorem azQ {a b k k2 : Nat} (hb : 0 < b) (h : 55 ≤ yI (a * 2 ^ k / b)) (hk : k ≤ k2) (hk2 : k2 ≤ 10000) : avS a b k2 = avS a b k := by
 induction k2 with
 | zero => rw [show k = 0 by omega]
 | succ m ih =>
  rcases Nat.lt_or_ge m k with hm | hm
  ·rw [show m + 1 = k by omega]
  ·rw [rat_up hb ?_ hk2, ih hm (by omega)]
   refine Nat.le_trans h (aeW (Nat.div_le_div_right (Nat.mul_le_mul_left _ (Nat.pow_le_pow_right (by decide) hm))))
theorem bhE {m : Nat} (h : m < 9223372036854775808) : (m ||| 9223372036854775808) = 9223372036854775808 + m := by
 have := axN (a := m) (b := 1) (k := 63) (by rw [show (2 : Nat) ^ 63 = 9223372036854775808 by decide]; exact h)
 rw [show 1 * (2 : Nat) ^ 63 = 9223372036854775808 by decide] at this
 omega
theorem packM_lt {m : Nat} {u : Int} (hm : m ≤ 9007199254740991) : abY m u ≤ avV := by
 unfold abY avV
 split
 ·omega
 ·split <;> omega
theorem bhX {v : Nat} {e : Int} {more : Bool} (h : e < zY v e) :
  abM v e more = (if v / 2 ^ ((zY v e - e).toNat - 1) % 2 = 1 ∧ (v % 2 ^ ((zY v e - e).toNat - 1) ≠ 0 ∨ more = true ∨ v / 2 ^ (zY v e - e).toNat % 2 = 1) then v / 2 ^ (zY v e - e).toNat + 1 else v / 2 ^ (zY v e - e).toNat) := by
 unfold abM
 rw [if_neg (by omega)]; rfl
theorem anA {v : Nat} {e : Int} {more : Bool} (h : zY v e ≤ e) : abM v e more = v * 2 ^ (e - zY v e).toNat := by
 unfold abM
 rw [if_pos h]
theorem aqB {v : Nat} {e : Int} (h : e < zY v e) : v / 2 ^ ((zY v e - e).toNat - 1) < 18014398509481984 := by
 have hn : v < 2 ^ yI v := yW.1 (Nat.le_refl _)
 rw [Nat.div_lt_iff_lt_mul (Nat.pow_pos (by decide)), show (18014398509481984 : Nat) = 2 ^ 54 by decide, ← Nat.pow_add]
 refine Nat.lt_of_lt_of_le hn (Nat.pow_le_pow_right (by decide) ?_)
 unfold zY at *
 split at h <;> omega
theorem half_hi {x : Nat} (h : x < 18014398509481984) : x * 2 ^ 63 % M2 / M1 = x / 2 := by
 have e63 : (2 : Nat) ^ 63 = 9223372036854775808 := by decide
 rw [e63]; unfold M1 M2; omega
theorem baY {v k : Nat} (hk : 1 ≤ k) : v / 2 ^ (k - 1) / 2 = v / 2 ^ k := by
 rw [Nat.div_div_eq_div_mul, ← Nat.pow_succ, show (k - 1).succ = k by omega]
theorem auR {v : Nat} {e : Int} (h : zY v e ≤ e) : v * 2 ^ (e - zY v e).toNat < M1 := by
 have := ahV v e false
 rw [anA h] at this
 unfold M1; omega
theorem bfE {v : Nat} {e : Int} (h0 : 0 < v) (h : zY v e ≤ e) : e - zY v e ≤ 52 := by
 have hb : 0 < yI v := aaU.2 (show 2 ^ 0 ≤ v from h0)
 unfold zY at *
 split at h <;> omega
theorem take_in {v x : Nat} (hx : x < 4294967296) : v * 2 ^ 32 % M2 / M1 = (v * 4294967296 + x) % M2 / M1 ∧ (v * 2 ^ 32 % M2 % M1 ||| x) = (v * 4294967296 + x) % M2 % M1 := by
 have e32 : (2 : Nat) ^ 32 = 4294967296 := by decide
 have h1 : v * 2 ^ 32 % M2 % M1 ||| x = v * 2 ^ 32 % M2 % M1 + x := by
  have h2 : v * 2 ^ 32 % M2 % M1 = (v % 4294967296) * 2 ^ 32 := by
   rw [shl_lo, e32]; unfold M1; omega
  rw [h2]; exact ahG (by rw [e32]; exact hx)
 rw [h1, e32]
 unfold M1 M2
 constructor <;> omega
theorem blen0 {n : Nat} : ((yI n : Nat) : Int) = 0 ↔ n = 0 := by
 have h := @aaU n 0
 rw [Nat.pow_zero] at h
 omega
def beD (n : Nat) (e : Int) : Bool := decide (n = 0 ∨ (e < -10000 ∧ e + yI n < -2000) ∨ 2000 < e)
def farV (neg : Bool) (n : Nat) (e : Int) : Nat := if n = 0 ∨ (e < -10000 ∧ e + yI n < -2000) then aaJ neg else if 2000 < e then aaJ neg + avV else 0
theorem far_lo {neg : Bool} {n : Nat} {e : Int} (h : n = 0 ∨ (e < -10000 ∧ e + yI n < -2000)) : farV neg n e = aaJ neg ∧ beD n e = true := by
 unfold farV beD
 exact ⟨if_pos h, decide_eq_true (by omega)⟩
theorem far_hi {neg : Bool} {n : Nat} {e : Int} (h : ¬ (n = 0 ∨ (e < -10000 ∧ e + yI n < -2000))) (h2 : 2000 < e) : farV neg n e = aaJ neg + avV ∧ beD n e = true := by
 unfold farV beD
 exact ⟨by rw [if_neg h, if_pos h2], decide_eq_true (by omega)⟩
theorem far_no {neg : Bool} {n : Nat} {e : Int} (h : ¬ (n = 0 ∨ (e < -10000 ∧ e + yI n < -2000))) (h2 : ¬ 2000 < e) : farV neg n e = 0 ∧ beD n e = false := by
 unfold farV beD
 exact ⟨by rw [if_neg h, if_neg h2], decide_eq_false (by omega)⟩
theorem far_true {neg : Bool} {n : Nat} {e : Int} {more : Bool} (h : beD n e = true) : yB neg n e more = farV neg n e := by
 have h := of_decide_eq_true h
 unfold yB farV
 split
 ·rfl
 ·rw [if_pos (by omega), if_pos (by omega)]
theorem auV {neg : Bool} {n : Nat} {e : Int} {more : Bool} (h : beD n e = false) : 0 < n ∧ e ≤ 2000 ∧ -110000 ≤ e + yI n ∧ yB neg n e more = axM neg (abM n e more) (zY n e) := by
 have h := of_decide_eq_false h
 refine ⟨by omega, by omega, by omega, ?_⟩
 unfold yB
 rw [if_neg (by omega), if_neg (by omega)]

def ajN (m : Nat) : Nat := if m = 9007199254740992 then 4503599627370496 else m
def aiQ (m : Nat) (u : Int) : Int := if m = 9007199254740992 then u + 1 else u
theorem baA (neg : Bool) (m : Nat) (u : Int) : axM neg m u = aaJ neg + abY (ajN m) (aiQ m u) := by
 unfold axM ajN aiQ
 split <;> rfl
theorem baB {m : Nat} (h : m ≤ 9007199254740992) : ajN m ≤ 9007199254740991 := by unfold ajN; split <;> omega
theorem azZ (m : Nat) (u : Int) : u ≤ aiQ m u ∧ aiQ m u ≤ u + 1 := by unfold aiQ; split <;> omega
theorem shl52 {k : Nat} (h : k ≤ 100000) : k * 2 ^ 52 = k * 4503599627370496 := by rw [show (2 : Nat) ^ 52 = 4503599627370496 by decide]

set_option maxRecDepth 100000 in
theorem aeT (neg : Bool) (m : Nat) (hm : m ≤ 9007199254740992) (u : Int) (hu : -1074 ≤ u ∧ u ≤ 1000000) (H : Heap) : ACall Tryz.prog 231 [.bool neg, .int .u64 (m : Int), .int .i64 u] H (fun y H' => y = .int .u64 ((axM neg m u : Nat) : Int) ∧ H' = H) := by
 refine ACall.of_body Tryz.func231 rfl Tryz.ntmps231 Tryz.results231 rfl ?_
 iterate 2 refine AX ?_
 refine .p rfl (zC (zG 0)) ?_
 iterate 2 refine AX ?_
 refine AWP.seqToL [(1, .int .u64 ((ajN m : Nat) : Int)), (2, .int .i64 (aiQ m u))] [0, 6] ?_ ?_
 ·iterate 3 refine AX ?_
  refine .p rfl (yR (tm rfl) (zG 9007199254740992)) ?_
  iterate 2 refine AX ?_
  refine AWP.cx rfl (fun hc8 => ?_) (fun hc8 => ?_)
  ·iterate 2 refine AX ?_
   refine .p rfl (zK (tm rfl) zF (by omega)) (.p rfl (zC (zG 4503599627370496)) ?_)
   iterate 2 refine AX ?_
   exact ⟨rfl, (zW rfl (by (unfold ajN; rw [if_pos (by omega)]; done)) (zW rfl (by (unfold aiQ; rw [if_pos (by omega)]; done)) sX)), rfl⟩
  ·refine AX ?_
   exact ⟨rfl, (zW rfl (by (unfold ajN; rw [if_neg (by omega)]; done)) (zW rfl (by (unfold aiQ; rw [if_neg (by omega)]; done)) sX)), rfl⟩
 ·refine AWP.sub [(1, _), (2, _), (0, _), (6, _)] sX ?_
  rw [baA]
  have hA := baB hm
  have hU := azZ m u
  generalize ajN m = m1 at hA ⊢
  generalize aiQ m u = u1 at hU ⊢
  refine AWP.seqToL [(1, .int .u64 ((abY m1 u1 : Nat) : Int))] [2, 0, 6] ?_ ?_
  ·iterate 4 refine AX ?_
   refine .p rfl (acT (tm rfl) (zG 4503599627370496)) ?_
   refine AX ?_
   refine zI (t := 14) rfl (fun hg14 => ?_) (fun hg14 => ?_)
   ·have hh14 := hg14; try simp only [decide_eq_true_eq] at hh14
    refine AX ?_
    refine .gp rfl rfl rfl (by assumption) (zK (tm rfl) zF (by omega)) ?_
    iterate 5 refine AX ?_
    refine AWP.cx rfl (fun hc11 => ?_) (fun hc11 => ?_)
    ·try simp only [Bool.and_eq_true, decide_eq_true_eq] at hc11
     refine AX ?_
     refine .p rfl (zC (zG 9218868437227405312)) ?_
     iterate 2 refine AX ?_
     exact ⟨rfl, (zW rfl (by unfold abY; first | (rw [if_neg (by omega), if_pos (by omega)]; rfl) | (rw [if_pos (by omega)]; done) | (rw [if_neg (by omega), if_neg (by omega), shl52 (by omega)])) sX), rfl⟩
    ·try simp only [Bool.and_eq_false_iff, decide_eq_false_iff_not] at hc11
     iterate 3 refine AX ?_
     refine .p rfl (acT (tm rfl) (zG 4503599627370496)) ?_
     iterate 3 refine AX ?_
     refine AWP.cx rfl (fun hc19 => ?_) (fun hc19 => ?_)
     ·iterate 3 refine AX ?_
      refine .p rfl (zK (tm rfl) zF (by omega)) (.p rfl (zO (tm rfl) zF (by omega)) ?_)
      refine .p rfl (.as (b := .int .u64 (((u1 + 1074).toNat : Nat) : Int)) (by congr 1; omega) (zT Tryz.underlying3 Tryz.underlying30 (tm rfl) (wrap64 (by omega) (by omega)))) ?_
      refine .p rfl (qS (tm rfl) (zG 52) (by omega) (by rw [shl52 (by omega)]; omega)) (.p rfl (yD (tm rfl) (tm rfl) (by (rw [shl52 (by omega)]; omega))) ?_)
      iterate 3 refine AX ?_
      exact ⟨rfl, (zW rfl (by unfold abY; first | (rw [if_neg (by omega), if_pos (by omega)]; rfl) | (rw [if_pos (by omega)]; done) | (rw [if_neg (by omega), if_neg (by omega), shl52 (by omega)])) sX), rfl⟩
     ·iterate 2 refine AX ?_
      exact ⟨rfl, (zW rfl (by unfold abY; first | (rw [if_neg (by omega), if_pos (by omega)]; rfl) | (rw [if_pos (by omega)]; done) | (rw [if_neg (by omega), if_neg (by omega), shl52 (by omega)])) sX), rfl⟩
   ·have hh14 := hg14; try simp only [decide_eq_false_iff_not, Int.not_le] at hh14
    iterate 7 refine AX ?_
    refine AWP.cond_false (tm rfl) (by rfl) ?_
    iterate 3 refine AX ?_
    refine .p rfl (acT (tm rfl) (zG 4503599627370496)) ?_
    iterate 3 refine AX ?_
    refine AWP.cx rfl (fun hc19 => ?_) (fun hc19 => ?_)
    ·iterate 3 refine AX ?_
     refine .p rfl (zK (tm rfl) zF (by omega)) (.p rfl (zO (tm rfl) zF (by omega)) ?_)
     refine .p rfl (.as (b := .int .u64 (((u1 + 1074).toNat : Nat) : Int)) (by congr 1; omega) (zT Tryz.underlying3 Tryz.underlying30 (tm rfl) (wrap64 (by omega) (by omega)))) ?_
     refine .p rfl (qS (tm rfl) (zG 52) (by omega) (by rw [shl52 (by omega)]; omega)) (.p rfl (yD (tm rfl) (tm rfl) (by (rw [shl52 (by omega)]; omega))) ?_)
     iterate 3 refine AX ?_
     exact ⟨rfl, (zW rfl (by unfold abY; first | (rw [if_neg (by omega), if_pos (by omega)]; rfl) | (rw [if_pos (by omega)]; done) | (rw [if_neg (by omega), if_neg (by omega), shl52 (by omega)])) sX), rfl⟩
    ·iterate 2 refine AX ?_
     exact ⟨rfl, (zW rfl (by unfold abY; first | (rw [if_neg (by omega), if_pos (by omega)]; rfl) | (rw [if_pos (by omega)]; done) | (rw [if_neg (by omega), if_neg (by omega), shl52 (by omega)])) sX), rfl⟩
  ·refine AWP.sub [(1, _), (2, _), (0, _), (6, _)] sX ?_
   have hM := packM_lt (u := u1) hA
   have hM2 : abY m1 u1 < 9223372036854775808 := Nat.lt_of_le_of_lt hM (by decide)
   iterate 6 refine AX ?_
   refine AWP.cx rfl (fun hc29 => ?_) (fun hc29 => ?_)
   ·iterate 2 refine AX ?_
    refine .p rfl (qT (tm rfl) (zG 9223372036854775808) (by omega) (by omega)) ?_
    iterate 10 refine AX ?_
    refine Ret.go (.cons (.tmp _ _ rfl) .nil) _ (Heap.le.refl _) ?_
    refine ⟨?_, rfl⟩
    simp only [yP, aaJ]
    rw [if_pos (by assumption), bhE hM2]
   ·iterate 9 refine AX ?_
    refine Ret.go (.cons (.tmp _ _ rfl) .nil) _ (Heap.le.refl _) ?_
    refine ⟨?_, rfl⟩
    simp only [yP, aaJ]
    rw [if_neg (by simp_all), Nat.zero_add]

set_option maxRecDepth 100000 in
theorem bbU (n : Nat) (e : Int) (hn : yI n ≤ 100000) (he : -1000000000000000 ≤ e ∧ e ≤ 1000000000000000) (H : Heap) : ACall Tryz.prog 230 [.int .i64 (yI n : Int), .int .i64 e] H (fun y H' => y = .int .i64 (zY n e) ∧ H' = H) := by
 refine ACall.of_body Tryz.func230 rfl Tryz.ntmps230 Tryz.results230 rfl ?_
 iterate 9 refine AX ?_
 refine .p rfl (zK (tm rfl) (tm rfl) (by omega)) (.p rfl (zO (tm rfl) zF (by omega)) (.p rfl (acC (tm rfl) zF) ?_))
 iterate 4 refine AX ?_
 refine Ret.go (.cons (.tmp _ _ rfl) .nil) _ (Heap.le.refl _) ?_
 refine ⟨?_, rfl⟩
 simp only [yP, zY, ayB] <;> (congr 1; split <;> split <;> omega)

set_option maxRecDepth 100000 in
theorem biV (neg : Bool) (n : Nat) (e : Int) (hn : yI n ≤ 100000) (he : -1000000000000000 ≤ e ∧ e ≤ 1000000000000000) (H : Heap) : ACall Tryz.prog 229 [.bool neg, .int .i64 (yI n : Int), .int .i64 e] H (fun y H' => y = .tuple [.int .u64 ((farV neg n e : Nat) : Int), .bool (beD n e)] ∧ H' = H) := by
 have hb0 := @blen0 n
 refine ACall.of_body Tryz.func229 rfl Tryz.ntmps229 Tryz.results229 rfl ?_
 iterate 2 refine AX ?_
 refine .p rfl (zC (zG 0)) ?_
 iterate 10 refine AX ?_
 refine zI (t := 11) rfl (fun hg11 => ?_) (fun hg11 => ?_)
 ·have hh11 := hg11; try simp only [decide_eq_true_eq] at hh11
  iterate 12 refine AX ?_
  refine AWP.cond_true (tm rfl) (by rfl) ?_
  iterate 3 refine AX ?_
  refine .cl rfl Tryz.call231 (.cons (tm rfl) (.cons (zG 0) (.cons zF .nil))) (aeT _ _ (by omega) _ (by omega) _) ?_
  iterate 7 refine AX ?_
  refine Ret.go (.cons (.tmp _ _ rfl) (.cons (.tmp _ _ rfl) .nil)) _ (Heap.le.refl _) ?_
  refine ⟨?_, rfl⟩
  obtain ⟨e1, e2⟩ := far_lo (neg := neg) (n := n) (e := e) (by omega)
  rw [e1, e2]
  rfl
 ·have hh11 := hg11; try simp only [decide_eq_false_iff_not] at hh11
  iterate 3 refine AX ?_
  refine zI (t := 14) rfl (fun hg14 => ?_) (fun hg14 => ?_)
  ·have hh14 := hg14; try simp only [decide_eq_true_eq] at hh14
   iterate 2 refine AX ?_
   refine .gp rfl rfl rfl (by assumption) (zK (tm rfl) (tm rfl) (by omega)) ?_
   iterate 6 refine AX ?_
   refine AWP.cx rfl (fun hc8 => ?_) (fun hc8 => ?_)
   ·iterate 3 refine AX ?_
    refine .cl rfl Tryz.call231 (.cons (tm rfl) (.cons (zG 0) (.cons zF .nil))) (aeT _ _ (by omega) _ (by omega) _) ?_
    iterate 7 refine AX ?_
    refine Ret.go (.cons (.tmp _ _ rfl) (.cons (.tmp _ _ rfl) .nil)) _ (Heap.le.refl _) ?_
    refine ⟨?_, rfl⟩
    obtain ⟨e1, e2⟩ := far_lo (neg := neg) (n := n) (e := e) (by omega)
    rw [e1, e2]
    rfl
   ·iterate 7 refine AX ?_
    refine AWP.cx rfl (fun hc23 => ?_) (fun hc23 => ?_)
    ·iterate 3 refine AX ?_
     refine .cl rfl Tryz.call231 (.cons (tm rfl) (.cons (zG 4503599627370496) (.cons zF .nil))) (aeT _ _ (by omega) _ (by omega) _) ?_
     iterate 7 refine AX ?_
     refine Ret.go (.cons (.tmp _ _ rfl) (.cons (.tmp _ _ rfl) .nil)) _ (Heap.le.refl _) ?_
     refine ⟨?_, rfl⟩
     obtain ⟨e1, e2⟩ := far_hi (neg := neg) (n := n) (e := e) (by omega) (by omega)
     rw [e1, e2]
     rfl
    ·iterate 5 refine AX ?_
     refine .p rfl (zC (zG 0)) ?_
     iterate 4 refine AX ?_
     refine Ret.go (.cons (.tmp _ _ rfl) (.cons (.tmp _ _ rfl) .nil)) _ (Heap.le.refl _) ?_
     refine ⟨?_, rfl⟩
     obtain ⟨e1, e2⟩ := far_no (neg := neg) (n := n) (e := e) (by omega) (by omega)
     rw [e1, e2]
     rfl
  ·have hh14 := hg14; try simp only [decide_eq_false_iff_not, Int.not_lt] at hh14
   iterate 9 refine AX ?_
   refine AWP.cond_false (tm rfl) (by rfl) ?_
   iterate 7 refine AX ?_
   refine AWP.cx rfl (fun hc23 => ?_) (fun hc23 => ?_)
   ·iterate 3 refine AX ?_
    refine .cl rfl Tryz.call231 (.cons (tm rfl) (.cons (zG 4503599627370496) (.cons zF .nil))) (aeT _ _ (by omega) _ (by omega) _) ?_
    iterate 7 refine AX ?_
    refine Ret.go (.cons (.tmp _ _ rfl) (.cons (.tmp _ _ rfl) .nil)) _ (Heap.le.refl _) ?_
    refine ⟨?_, rfl⟩
    obtain ⟨e1, e2⟩ := far_hi (neg := neg) (n := n) (e := e) (by omega) (by omega)
    rw [e1, e2]
    rfl
   ·iterate 5 refine AX ?_
    refine .p rfl (zC (zG 0)) ?_
    iterate 4 refine AX ?_
    refine Ret.go (.cons (.tmp _ _ rfl) (.cons (.tmp _ _ rfl) .nil)) _ (Heap.le.refl _) ?_
    refine ⟨?_, rfl⟩
    obtain ⟨e1, e2⟩ := far_no (neg := neg) (n := n) (e := e) (by omega) (by omega)
    rw [e1, e2]
    rfl
def dM (v : Nat) (k : Int) : Nat := if k ≤ 0 then v * 2 ^ (-k).toNat else v / 2 ^ k.toNat
def dH (v : Nat) (k : Int) : Bool := decide (0 < k ∧ v / 2 ^ (k.toNat - 1) % 2 = 1)
def dR (v : Nat) (k : Int) : Bool := decide (0 < k ∧ v % 2 ^ (k.toNat - 1) ≠ 0)
theorem if_iff {P Q : Prop} [Decidable P] [Decidable Q] (h : P ↔ Q) (a b : Nat) : (if P then a else b) = if Q then a else b := by
 by_cases hp : P
 ·rw [if_pos hp, if_pos (h.1 hp)]
 ·rw [if_neg hp, if_neg (fun q => hp (h.2 q))]
theorem mant_d (v : Nat) (e : Int) (more : Bool) :
  abM v e more = if (dH v (zY v e - e) && (dR v (zY v e - e) || more || decide (((dM v (zY v e - e) &&& 1 : Nat) : Int) = ((1 : Nat) : Int)))) = true then dM v (zY v e - e) + 1 else dM v (zY v e - e) := by
 have e1 : ∀ x : Nat, (decide (((x &&& 1 : Nat) : Int) = ((1 : Nat) : Int))) = decide (x % 2 = 1) := fun x => by
  refine decide_eq_decide.2 ?_
  rw [show (1 : Nat) = 2 ^ 1 - 1 by decide, Nat.and_two_pow_sub_one_eq_mod]
  omega
 rw [e1]
 by_cases h : zY v e ≤ e
 ·have hd : dM v (zY v e - e) = abM v e more := by
   rw [anA h]; unfold dM; rw [if_pos (by omega)]; congr 2; omega
  have hh : dH v (zY v e - e) = false := by unfold dH; exact decide_eq_false (by omega)
  rw [hh, Bool.false_and, if_neg (by decide), hd]
 ·have hd : dM v (zY v e - e) = v / 2 ^ (zY v e - e).toNat := by unfold dM; rw [if_neg (by omega)]
  have hp : 0 < zY v e - e := by omega
  rw [bhX (by omega), hd]
  have hH : dH v (zY v e - e) = decide (v / 2 ^ ((zY v e - e).toNat - 1) % 2 = 1) := by unfold dH; exact decide_eq_decide.2 ⟨fun q => q.2, fun q => ⟨hp, q⟩⟩
  have hR : dR v (zY v e - e) = decide (v % 2 ^ ((zY v e - e).toNat - 1) ≠ 0) := by unfold dR; exact decide_eq_decide.2 ⟨fun q => q.2, fun q => ⟨hp, q⟩⟩
  rw [hH, hR]
  refine if_iff ?_ _ _
  simp only [Bool.and_eq_true, Bool.or_eq_true, decide_eq_true_eq, or_assoc]

set_option maxRecDepth 100000 in
theorem asZ (neg : Bool) (n : Nat) (e : Int) (more : Bool) (hn : yI n ≤ 100000) (he : -1000000000000000 ≤ e ∧ e ≤ 1000000000000000) (f : FuncId) (cap : List AV) (H : Heap) (hent : ∀ args w, (callFunc f args).run Tryz.prog w = .ok (.enter f args) w) (hf : beD n e = false → ACall Tryz.prog f ([.int .i64 (zY n e - e)] ++ cap) H (fun y H' => y = .tuple [.int .u64 ((dM n (zY n e - e) : Nat) : Int), .bool (dH n (zY n e - e)), .bool (dR n (zY n e - e))] ∧ H' = H)) : ACall Tryz.prog 191 [.bool neg, .int .i64 (yI n : Int), .int .i64 e, .bool more, .func f cap] H (fun y H' => y = .int .u64 ((yB neg n e more : Nat) : Int) ∧ H' = H) := by
 have hmd := mant_d n e more
 have hml := ahV n e more
 have hdm : dM n (zY n e - e) ≤ 9007199254740992 := by rw [hmd] at hml; split at hml <;> omega
 have hul := aqM n e
 have hur : zY n e ≤ 1000000000000000 + 100000 := by unfold zY; split <;> omega
 refine ACall.of_body Tryz.func191 rfl Tryz.ntmps191 Tryz.results191 rfl ?_
 iterate 2 refine AX ?_
 refine .p rfl (zC (zG 0)) ?_
 iterate 8 refine AX ?_
 refine .cl rfl Tryz.call229 (evs3 rfl rfl rfl) (biV neg n e hn he _) ?_
 iterate 12 refine AX ?_
 refine AWP.cx rfl (fun hc24 => ?_) (fun hc24 => ?_)
 ·have hfar : beD n e = true := hc24
  iterate 8 refine AX ?_
  refine Ret.go (.cons (.tmp _ _ rfl) .nil) _ (Heap.le.refl _) ?_
  refine ⟨?_, rfl⟩
  rw [far_true hfar]; rfl
 ·have hfar : beD n e = false := hc24
  obtain ⟨hf1, hf2, hf3, hf4⟩ := auV (neg := neg) (more := more) hfar
  have hup : zY n e ≤ 1000000 := by unfold zY; split <;> omega
  iterate 6 refine AX ?_
  refine .cl rfl Tryz.call230 (evs2 rfl rfl) (bbU n e hn he _) ?_
  iterate 8 refine AX ?_
  refine .p rfl (zO (tm rfl) (tm rfl) (by omega)) (.e rfl (asU hent (tm rfl) (evs1 rfl) (hf hfar)) ?_)
  iterate 9 refine AX ?_
  refine AWP.seqToL [(14, .int .u64 ((abM n e more : Nat) : Int))] [0, 10, 13] ?_ ?_
  ·refine AWP.seqTo 49 (.bool ((dH n (zY n e - e) && (dR n (zY n e - e) || more || decide (((dM n (zY n e - e) &&& 1 : Nat) : Int) = ((1 : Nat) : Int)))))) [0, 10, 13, 14] ?_ ?_
   ·-- region 6
    iterate 3 refine AX ?_
    refine zI (t := 39) rfl (fun hg39 => ?_) (fun hg39 => ?_)
    ·iterate 2 refine AX ?_
     refine zI (t := 41) rfl (fun hg41 => ?_) (fun hg41 => ?_)
     ·iterate 9 refine AX ?_
      exact ⟨rfl, zZ rfl (by (rw [show dH n (zY n e - e) = _ from hg39, show dR n (zY n e - e) = _ from hg41]; rfl)) sX, rfl⟩
     ·iterate 3 refine AX ?_
      refine zI (t := 44) rfl (fun hg44 => ?_) (fun hg44 => ?_)
      ·iterate 6 refine AX ?_
       exact ⟨rfl, zZ rfl (by (rw [show dH n (zY n e - e) = _ from hg39, show dR n (zY n e - e) = _ from hg41, show more = _ from hg44]; rfl)) sX, rfl⟩
      ·refine AX ?_
       refine .gp rfl rfl rfl (by assumption) (abG (tm rfl) (zG 1) (by omega) (by omega)) (.gp rfl rfl rfl (by assumption) (yR (tm rfl) (zG 1)) ?_)
       iterate 3 refine AX ?_
       exact ⟨rfl, zZ rfl (by (rw [show dH n (zY n e - e) = _ from hg39, show dR n (zY n e - e) = _ from hg41, show more = _ from hg44]; rfl)) sX, rfl⟩
    ·iterate 11 refine AX ?_
     exact ⟨rfl, zZ rfl (by (rw [show dH n (zY n e - e) = _ from hg39]; rfl)) sX, rfl⟩
   ·refine AWP.sub [(49, _), (0, _), (10, _), (13, _), (14, _)] sX ?_
    refine AWP.cx rfl (fun hc49 => ?_) (fun hc49 => ?_)
    ·rw [if_pos hc49] at hmd
     iterate 2 refine AX ?_
     refine .p rfl (yD (tm rfl) (zG 1) (by omega)) ?_
     iterate 2 refine AX ?_
     exact ⟨rfl, (zW rfl (by rw [hmd]) sX), rfl⟩
    ·rw [if_neg (by rw [hc49]; decide)] at hmd
     refine AX ?_
     exact ⟨rfl, (zW rfl (by rw [hmd]) sX), rfl⟩
  ·refine AWP.sub [(14, _), (0, _), (10, _), (13, _)] sX ?_
   iterate 5 refine AX ?_
   refine .cl rfl Tryz.call231 (evs3 rfl rfl rfl) (aeT neg _ hml _ (by constructor <;> omega) _) ?_
   iterate 4 refine AX ?_
   refine Ret.go (.cons (.tmp _ _ rfl) .nil) _ (Heap.le.refl _) ?_
   refine ⟨?_, rfl⟩
   rw [hf4]; rfl

set_option maxRecDepth 100000 in
theorem beG (v : Nat) (hv : v < M2) (k : Int) (hk : -52 ≤ k ∧ k ≤ 1000000) (h0 : k ≤ 0 → v * 2 ^ (-k).toNat < M1) (h1 : 0 < k → v / 2 ^ (k.toNat - 1) < 18014398509481984) (H : Heap) : ACall Tryz.prog 193 [.int .i64 k, .iptr (u2 v).cells] H (fun y H' => y = .tuple [.int .u64 ((dM v k : Nat) : Int), .bool (dH v k), .bool (dR v k)] ∧ H' = H) := by
 refine ACall.of_body Tryz.func193 rfl Tryz.ntmps193 Tryz.results193 rfl ?_
 iterate 2 refine AX ?_
 refine .p rfl (zC (zG 0)) ?_
 iterate 11 refine AX ?_
 refine AWP.cx rfl (fun hc9 => ?_) (fun hc9 => ?_)
 ·have hq := h0 (by omega)
  iterate 4 refine AX ?_
  refine .p rfl (aaE (tm rfl) (by omega)) (.cl rfl Tryz.call194 (evs2 rfl rfl) (agD v (-k).toNat (by omega) (-k) (by omega) _) (.p rfl (akN Tryz.underlying122 rfl Tryz.isAgg30 Tryz.sizeOf30 (tm rfl) rfl) ?_))
  iterate 7 refine AX ?_
  refine Ret.go (.cons (.tmp _ _ rfl) (.cons (.tmp _ _ rfl) (.cons (.tmp _ _ rfl) .nil))) _ (Heap.le.refl _) ?_
  refine ⟨?_, rfl⟩
  have e1 : dM v k = v * 2 ^ (-k).toNat := by unfold dM; rw [if_pos (by omega)]
  have e2 : dH v k = false := by unfold dH; exact decide_eq_false (by omega)
  have e3 : dR v k = false := by unfold dR; exact decide_eq_false (by omega)
  have e4 : v * 2 ^ (-k).toNat % M2 % M1 = v * 2 ^ (-k).toNat := by rw [Nat.mod_eq_of_lt (Nat.lt_trans hq (by decide +kernel)), Nat.mod_eq_of_lt hq]
  rw [e1, e2, e3]
  show AV.tuple [.int .u64 ((v * 2 ^ (-k).toNat % M2 % M1 : Nat) : Int), _, _] = _
  rw [e4]
 ·have hq := h1 (by omega)
  have hqm : v / 2 ^ (k.toNat - 1) % M1 < 18446744073709551616 := aeN _
  iterate 6 refine AX ?_
  refine .p rfl (zO (tm rfl) zF (by omega)) (.cl rfl Tryz.call195 (evs2 rfl rfl) (bbQ v hv (k.toNat - 1) (by omega) (k - 1) (by omega) _) ?_)
  iterate 3 refine AX ?_
  refine .s rfl (zL Tryz.zeroValue122 (zr122)) ?_
  rintro _ _ ⟨b6, hb6, rfl, hH⟩
  obtain rfl := hH.symm
  refine .e0 (zB Tryz.sizeOf122 (tm rfl) (tm rfl) rfl rfl (.inr ⟨_, rfl⟩) (Heap.objs_set_same _ _ _) (Nat.le_of_ble_eq_true rfl)) ?_
  try first | rw [Heap.set_set] | rw [Heap.set_under (by assumption)]
  iterate 3 refine AX ?_
  refine AWP.frz (t := 6) rfl (hb6) ?_
  refine AX ?_
  refine AWP.draw [(0, true), (3, true), (4, true), (5, true), (6, true), (7, true), (1, false), (2, true), (8, true), (9, true), (10, true)] rfl (by decide +kernel) ?_
  refine AX ?_
  refine .p rfl rfl (zA Tryz.underlying122 rfl Tryz.sizeOf30 (tm rfl)) ?_
  refine AX ?_
  refine .p rfl rfl (abG (tm rfl) (zG 1) (by assumption) (by omega)) (.p rfl rfl (yR (tm rfl) (zG 1)) ?_)
  refine AX ?_
  refine .s rfl rfl (zH Tryz.call194 (.cons (tm rfl) (.cons zF .nil)) (agD (v / 2 ^ (k.toNat - 1)) 63 (by decide) 63 rfl _)) ?_
  rintro _ _ ⟨rfl, hH⟩
  obtain rfl := hH.symm
  refine .p rfl rfl (akN Tryz.underlying122 rfl Tryz.isAgg30 Tryz.sizeOf30 (tm rfl) rfl) ?_
  iterate 6 refine AX ?_
  refine Ret.go (.cons (.tmp _ _ rfl) (.cons (.tmp _ _ rfl) (.cons (.tmp _ _ rfl) .nil))) _ (Heap.le.refl _) ?_
  refine ⟨?_, rfl⟩
  have e1 : dM v k = v / 2 ^ k.toNat := by unfold dM; rw [if_neg (by omega)]
  have e2 : dH v k = decide (v / 2 ^ (k.toNat - 1) % 2 = 1) := by unfold dH; exact decide_eq_decide.2 ⟨fun q => q.2, fun q => ⟨by omega, q⟩⟩
  have e3 : dR v k = decide (v % 2 ^ (k.toNat - 1) ≠ 0) := by unfold dR; exact decide_eq_decide.2 ⟨fun q => q.2, fun q => ⟨by omega, q⟩⟩
  have e4 : v / 2 ^ (k.toNat - 1) * 2 ^ 63 % M2 / M1 = v / 2 ^ k.toNat := by rw [half_hi hq, baY (by omega)]
  have e5 : decide (((v / 2 ^ (k.toNat - 1) % M1 &&& 1 : Nat) : Int) = ((1 : Nat) : Int)) = decide (v / 2 ^ (k.toNat - 1) % 2 = 1) := by
   refine decide_eq_decide.2 ?_
   rw [Nat.mod_eq_of_lt (Nat.lt_trans hq (by decide +kernel)), show (1 : Nat) = 2 ^ 1 - 1 by decide, Nat.and_two_pow_sub_one_eq_mod]
   omega
  rw [e1, e2, e3]
  show AV.tuple [.int .u64 ((v / 2 ^ (k.toNat - 1) * 2 ^ 63 % M2 / M1 : Nat) : Int), .bool (decide (((v / 2 ^ (k.toNat - 1) % M1 &&& 1 : Nat) : Int) = ((1 : Nat) : Int))), _] = _
  rw [e4, e5]

theorem wLen2 (v : Nat) (hv : v < M2) (H : Heap) : ACall Tryz.prog 192 [u2 v] H (fun y H' => y = .int .i64 (yI v : Int) ∧ H' = H) := by
 have h := bbR (v / M1) (v % M1) (biM hv) (aeN v) H
 rw [show v / M1 * 18446744073709551616 + v % M1 = v from by have := Nat.div_add_mod v M1; rw [Nat.mul_comm] at this; exact this] at h
 exact h
theorem down_ok (v : Nat) (hv : v < M2) (e : Int) (hfar : beD v e = false) (H : Heap) : ACall Tryz.prog 193 ([.int .i64 (zY v e - e)] ++ [.iptr (u2 v).cells]) H (fun y H' => y = .tuple [.int .u64 ((dM v (zY v e - e) : Nat) : Int), .bool (dH v (zY v e - e)), .bool (dR v (zY v e - e))] ∧ H' = H) := by
 obtain ⟨h0, h1, h2, h3⟩ := auV (neg := false) (more := false) hfar
 have hb : yI v ≤ 128 := yW.2 (by rw [show (2 : Nat) ^ 128 = M2 by decide +kernel]; exact hv)
 refine beG v hv (zY v e - e) ⟨?_, ?_⟩ (fun q => ?_) (fun q => ?_) H
 ·rcases Int.lt_or_le e (zY v e) with h | h
  ·omega
  ·have := bfE h0 h; omega
 ·unfold zY; split <;> omega
 ·have := auR (v := v) (e := e) (by omega)
  rw [show (-(zY v e - e)).toNat = (e - zY v e).toNat by omega]; exact this
 ·exact aqB (by omega)

set_option maxRecDepth 100000 in
theorem akA (neg : Bool) (v : Nat) (hv : v < M2) (e : Int) (he : -1000000000000000 ≤ e ∧ e ≤ 1000000000000000) (more : Bool) (H : Heap) : ACall Tryz.prog 147 [.bool neg, u2 v, .int .i64 e, .bool more] H (fun y H' => y = .int .u64 ((yB neg v e more : Nat) : Int) ∧ H' = H) := by
 refine ACall.of_body Tryz.func147 rfl Tryz.ntmps147 Tryz.results147 rfl ?_
 iterate 2 refine AX ?_
 refine .e rfl (yF (tm rfl) (.inr ⟨_, rfl⟩)) (.p rfl (zC (zG 0)) ?_)
 iterate 6 refine AX ?_
 refine .cl rfl Tryz.call192 (evs1 rfl) (wLen2 v hv _) ?_
 iterate 2 refine AX ?_
 refine .p rfl (bdA (tm rfl)) ?_
 refine .cl rfl Tryz.call191 (.cons (tm rfl) (.cons (tm rfl) (evs3 rfl rfl rfl))) (asZ neg v e more (by have : yI v ≤ 128 := yW.2 (by rw [show (2 : Nat) ^ 128 = M2 by decide +kernel]; exact hv); omega) he 193 [.iptr (u2 v).cells] _ Tryz.call193 (fun hfar => down_ok v hv e hfar _)) ?_
 iterate 4 refine AX ?_
 refine Ret.go (.cons (.tmp _ _ rfl) .nil) _ (Heap.le.refl _) ?_
 exact ⟨rfl, rfl⟩
def aoH (k : Int) : Int := if k < 0 then -((yI (10 ^ (-k).toNat) + 127 : Nat) : Int) else (yI (10 ^ k.toNat) : Int) - 128
def afQ (k : Int) : Nat :=
 if k < 0 then 2 ^ (yI (10 ^ (-k).toNat) + 127) / 10 ^ (-k).toNat
 else if yI (10 ^ k.toNat) ≤ 128 then 10 ^ k.toNat * 2 ^ (128 - yI (10 ^ k.toNat))
 else 10 ^ k.toNat / 2 ^ (yI (10 ^ k.toNat) - 128)
def avT (k : Int) : Bool := if k < 0 then false else decide (yI (10 ^ k.toNat) ≤ 128 ∨ 10 ^ k.toNat % 2 ^ (yI (10 ^ k.toNat) - 128) = 0)
def ahQ (m : Nat) (k : Int) : Nat :=
 if 0 ≤ k then yB false (m * 10 ^ k.toNat) 0 false else avS m (10 ^ (-k).toNat) (yI (10 ^ (-k).toNat) + 127)
def ahF (m : Nat) (k : Int) : Nat := yB false (afQ k * m) (aoH k) false
def amK (m : Nat) (k : Int) : Bool := avT k || decide (yB false ((afQ k + 1) * m) (aoH k) false = ahF m k)
def aqQ (m : Nat) (k : Int) : Nat := yI (10 ^ (-k).toNat) + 66 - yI m
def aqP (m : Nat) (k : Int) : Nat := if 0 ≤ k then yB false (m * 10 ^ k.toNat) 0 false else avS m (10 ^ (-k).toNat) (aqQ m k)

theorem abJ (j : Nat) : 0 < 10 ^ j := Nat.pow_pos (by decide)
theorem ten_two (j : Nat) : 10 ^ j < 2 ^ (4 * j + 1) := by
 refine Nat.lt_of_le_of_lt (Nat.pow_le_pow_left (show 10 ≤ 2 ^ 4 by decide) j) ?_
 rw [← Nat.pow_mul]
 exact Nat.pow_lt_pow_right (by decide) (by omega)
theorem agF (j : Nat) : yI (10 ^ j) ≤ 4 * j + 1 := yW.2 (ten_two j)
theorem acY {n : Nat} (h : 0 < n) : 0 < yI n := aaU.2 (by rw [Nat.pow_zero]; exact h)
theorem anU {n : Nat} (h : 0 < n) : 2 ^ (yI n - 1) ≤ n := aaU.1 (by have := acY h; omega)
theorem aeK (n : Nat) : n < 2 ^ yI n := yW.1 (Nat.le_refl _)
theorem awU {m b K p : Nat} (hm : 0 < m) (hp : 0 < p) (hb : 0 < b) (hK : K ≤ 10000) (h1 : p * b ≤ 2 ^ K) (h2 : 2 ^ K < (p + 1) * b) :
  yB false (p * m) (-(K : Int)) false ≤ avS m b K ∧ avS m b K ≤ yB false ((p + 1) * m) (-(K : Int)) false := by
 have hpm : 0 < p * m := Nat.mul_pos hp hm
 have e1 : p * m ≤ m * 2 ^ K / b := by
  rw [Nat.le_div_iff_mul_le hb, Nat.mul_comm p m, Nat.mul_assoc]
  exact Nat.mul_le_mul_left _ h1
 have e2 : m * 2 ^ K / b < (p + 1) * m := by
  rw [Nat.div_lt_iff_lt_mul hb, Nat.mul_comm (p + 1) m, Nat.mul_assoc]
  exact Nat.mul_lt_mul_of_pos_left h2 hm
 unfold avS
 constructor
 ·refine agL (by omega) (by omega) hpm ?_
  rcases Nat.lt_or_eq_of_le e1 with h | h
  ·exact .inl h
  ·exact .inr ⟨h, fun q => by cases q⟩
 ·exact agL (by omega) (by omega) (by omega) (.inl e2)
theorem axO {m t p j : Nat} (hm : 0 < m) (hj : j ≤ 2000) (hb : 55 ≤ yI p) (h1 : p * 2 ^ j ≤ t) (h2 : t < (p + 1) * 2 ^ j) :
  yB false (p * m) (j : Int) false ≤ yB false (m * t) 0 false ∧ yB false (m * t) 0 false ≤ yB false ((p + 1) * m) (j : Int) false := by
 have hj0 : 0 < 2 ^ j := Nat.pow_pos (by decide)
 have hp : 0 < p := by
  rcases Nat.eq_zero_or_pos p with h | h
  ·subst h; have := yW.2 (show 0 < 2 ^ 0 by decide); omega
  ·exact h
 have hpm : 0 < p * m := Nat.mul_pos hp hm
 have e1 : p * m ≤ m * t / 2 ^ j := by
  rw [Nat.le_div_iff_mul_le hj0, Nat.mul_comm p m, Nat.mul_assoc]
  exact Nat.mul_le_mul_left _ h1
 have e2 : m * t / 2 ^ j < (p + 1) * m := by
  rw [Nat.div_lt_iff_lt_mul hj0, Nat.mul_comm (p + 1) m, Nat.mul_assoc]
  exact Nat.mul_lt_mul_of_pos_left h2 hm
 have hbl : 55 ≤ yI (m * t / 2 ^ j) := Nat.le_trans hb (aeW (Nat.le_trans (Nat.le_mul_of_pos_right _ hm) e1))
 rw [amC (n := m * t) (j := j) hbl (by omega) (by omega), show (0 : Int) + (j : Int) = (j : Int) by omega]
 constructor
 ·refine agL (by omega) (by omega) hpm ?_
  rcases Nat.lt_or_eq_of_le e1 with h | h
  ·exact .inl h
  ·exact .inr ⟨h, fun q => by cases q⟩
 ·exact agL (by omega) (by omega) (by omega) (.inl e2)
theorem axI {j : Nat} : 0 < 2 ^ (yI (10 ^ j) + 127) / 10 ^ j := by
 rw [Nat.div_pos_iff]
 refine ⟨abJ j, Nat.le_trans (Nat.le_of_lt (aeK _)) (Nat.pow_le_pow_right (by decide) (by omega))⟩
theorem axB {m : Nat} {k : Int} (hm : 0 < m) (hk : -400 ≤ k ∧ k ≤ 400) (h : amK m k = true) : ahF m k = ahQ m k := by
 unfold amK ahF at h
 unfold ahF ahQ
 rcases Int.lt_or_le k 0 with hn | hn
 ·rw [if_neg (by omega)]
  have hA : avT k = false := by unfold avT; rw [if_pos hn]
  have hE : aoH k = -((yI (10 ^ (-k).toNat) + 127 : Nat) : Int) := by unfold aoH; rw [if_pos hn]
  have hP : afQ k = 2 ^ (yI (10 ^ (-k).toNat) + 127) / 10 ^ (-k).toNat := by unfold afQ; rw [if_pos hn]
  rw [hA, Bool.false_or, decide_eq_true_eq] at h
  have hbl := agF (-k).toNat
  have ht := abJ (-k).toNat
  have hp := @axI (-k).toNat
  rw [hE, hP] at h
  rw [hE, hP]
  generalize hK : yI (10 ^ (-k).toNat) + 127 = K at *
  obtain ⟨a, b⟩ := awU (m := m) (b := 10 ^ (-k).toNat) (K := K) (p := 2 ^ K / 10 ^ (-k).toNat) hm hp ht (by omega) (Nat.div_mul_le_self _ _) (by
    have := Nat.lt_succ_self (2 ^ K / 10 ^ (-k).toNat)
    exact (Nat.div_lt_iff_lt_mul ht).1 this)
  rw [h] at b
  exact Nat.le_antisymm a b
 ·rw [if_pos hn]
  have hE : aoH k = (yI (10 ^ k.toNat) : Int) - 128 := by unfold aoH; rw [if_neg (by omega)]
  have hbl := agF k.toNat
  have ht := abJ k.toNat
  rcases Nat.lt_or_ge 128 (yI (10 ^ k.toNat)) with hl | hl
  ·have hP : afQ k = 10 ^ k.toNat / 2 ^ (yI (10 ^ k.toNat) - 128) := by unfold afQ; rw [if_neg (by omega), if_neg (by omega)]
   have hA : avT k = decide (10 ^ k.toNat % 2 ^ (yI (10 ^ k.toNat) - 128) = 0) := by
    unfold avT; rw [if_neg (by omega)]; exact decide_eq_decide.2 ⟨fun q => q.resolve_left (by omega), .inr⟩
   have hj : (yI (10 ^ k.toNat) : Int) - 128 = ((yI (10 ^ k.toNat) - 128 : Nat) : Int) := by omega
   rw [hE, hj, hP, hA] at h
   rw [hE, hj, hP]
   have hb : yI (10 ^ k.toNat / 2 ^ (yI (10 ^ k.toNat) - 128)) = 128 := by
    have hpos : 0 < 10 ^ k.toNat / 2 ^ (yI (10 ^ k.toNat) - 128) := by
     rw [Nat.div_pos_iff]
     exact ⟨Nat.pow_pos (by decide), Nat.le_trans (Nat.pow_le_pow_right (by decide) (by omega)) (anU ht)⟩
    have := ayK hpos
    omega
   generalize hjj : yI (10 ^ k.toNat) - 128 = j at *
   generalize htt : 10 ^ k.toNat = t at *
   have hj0 : 0 < 2 ^ j := Nat.pow_pos (by decide)
   rw [Bool.or_eq_true, decide_eq_true_eq, decide_eq_true_eq] at h
   rcases h with h | h
   ·have e : m * t = t / 2 ^ j * m * 2 ^ j := by
     have := Nat.div_add_mod t (2 ^ j)
     rw [h, Nat.add_zero] at this
     conv => lhs; rw [← this]
     rw [Nat.mul_comm (2 ^ j), ← Nat.mul_assoc, Nat.mul_comm m]
    rw [e, adT (by omega) (by omega), show (0 : Int) + (j : Int) = (j : Int) by omega]
   ·obtain ⟨a, b⟩ := axO (m := m) (t := t) (p := t / 2 ^ j) (j := j) hm (by omega) (by omega) (Nat.div_mul_le_self _ _) ((Nat.div_lt_iff_lt_mul hj0).1 (Nat.lt_succ_self _))
    rw [h] at b
    exact Nat.le_antisymm a b
  ·have hP : afQ k = 10 ^ k.toNat * 2 ^ (128 - yI (10 ^ k.toNat)) := by unfold afQ; rw [if_neg (by omega), if_pos hl]
   rw [hE, hP, show (yI (10 ^ k.toNat) : Int) - 128 = -((128 - yI (10 ^ k.toNat) : Nat) : Int) by omega]
   rw [show 10 ^ k.toNat * 2 ^ (128 - yI (10 ^ k.toNat)) * m = m * 10 ^ k.toNat * 2 ^ (128 - yI (10 ^ k.toNat)) by rw [Nat.mul_comm _ m, ← Nat.mul_assoc]]
   rw [adT (by omega) (by omega)]
   congr 1; omega
theorem asX {m : Nat} {k : Int} (hm : 0 < m) (hk : -2000 ≤ k) : aqP m k = ahQ m k := by
 unfold aqP ahQ
 split
 ·rfl
 ·rename_i hn
  have hbl := agF (-k).toNat
  have ht := abJ (-k).toNat
  have hb := acY hm
  refine (azQ ht ?_ (by unfold aqQ; omega) (by omega)).symm
  have h1 := anU hm
  have h2 := aeK (10 ^ (-k).toNat)
  have h3 : 2 ^ 65 ≤ m * 2 ^ aqQ m k / 10 ^ (-k).toNat := by
   rw [Nat.le_div_iff_mul_le ht]
   refine Nat.le_trans (Nat.mul_le_mul_left _ (Nat.le_of_lt h2)) (Nat.le_trans ?_ (Nat.mul_le_mul_right _ h1))
   rw [← Nat.pow_add, ← Nat.pow_add]
   exact Nat.pow_le_pow_right (by decide) (by unfold aqQ; omega)
  have := aaU.2 h3
  omega
theorem aeE (n : Nat) (e : Int) (more : Bool) : yB false n e more ≤ avV := by
 unfold yB
 split
 ·exact Nat.zero_le _
 ·split
  ·exact Nat.le_of_eq (by unfold aaJ; simp)
  ·rw [arJ]
   have h := ahV n e more
   unfold aaJ pk
   rw [if_neg (by decide), Nat.zero_add]
   split
   ·exact auB _ _ (by decide)
   ·exact auB _ _ (by omega)
end Go.Proofs.YtfkeflcdadlmdaaGreatDoor
