import Derived.Test.YtfkeflcdadlmdaaGreatDoorN1
import Derived.Test.YtfkeflcdadlmdaaGreatDoorP1
import Derived.Test.YtfkeflcdadlmdaaGreatDoorSsk
import Derived.Test.YtfkeflcdadlmdaaGreatDoorX1
namespace Go.Proofs.YtfkeflcdadlmdaaGreatDoor
open Go Go.RowKit

def rne (n k : Nat) (more : Bool) : Nat :=
 if n / 2 ^ (k - 1) % 2 = 1 ∧ (n % 2 ^ (k - 1) ≠ 0 ∨ more = true ∨ n / 2 ^ k % 2 = 1) then n / 2 ^ k + 1 else n / 2 ^ k
def yI (n : Nat) (e : Int) : Int := if e + yQ n - 53 < -1074 then -1074 else e + yQ n - 53
def abJ (n : Nat) (e : Int) (more : Bool) : Nat := if yI n e ≤ e then n * 2 ^ (e - yI n e).toNat else rne n (yI n e - e).toNat more
def ajF : Nat := 9218868437227405312
def aaD (neg : Bool) : Nat := if neg = true then 9223372036854775808 else 0
def abS (m : Nat) (u : Int) : Nat :=
 if m < 4503599627370496 then m
 else if u + 1075 ≥ 2047 then ajF
 else m + (u + 1074).toNat * 4503599627370496
def atY (neg : Bool) (m : Nat) (u : Int) : Nat := aaD neg + (if m = 9007199254740992 then abS 4503599627370496 (u + 1) else abS m u)
def yM (neg : Bool) (n : Nat) (e : Int) (more : Bool) : Nat :=
 if n = 0 ∨ (e < -10000 ∧ e + yQ n < -2000) then aaD neg
 else if 2000 < e then aaD neg + ajF
 else atY neg (abJ n e more) (yI n e)
theorem auX {n j : Nat} (h : 0 < n / 2 ^ j) : yQ n = yQ (n / 2 ^ j) + j := by
 have h1 : yQ n ≤ yQ (n / 2 ^ j) + j := by
  rw [qJ, Nat.pow_add]
  exact (Nat.div_lt_iff_lt_mul (Nat.pow_pos (by decide))).1 (qJ.1 (Nat.le_refl _))
 have h2 : yQ (n / 2 ^ j) + j ≤ yQ n := by
  have hb : 0 < yQ (n / 2 ^ j) := aaW.2 (by rw [Nat.pow_zero]; exact h)
  have h3 : 2 ^ (yQ (n / 2 ^ j) - 1) ≤ n / 2 ^ j := aaW.1 (by omega)
  have h4 : 2 ^ (yQ (n / 2 ^ j) - 1 + j) ≤ n := by
   rw [Nat.pow_add]
   exact Nat.le_trans (Nat.mul_le_mul_right _ h3) (Nat.div_mul_le_self _ _)
  have := aaW.2 h4
  omega
 omega
theorem rne_cut {n j k : Nat} {more : Bool} (hk : 2 ≤ k) : rne n (k + j) more = rne (n / 2 ^ j) k (more || decide (n % 2 ^ j ≠ 0)) := by
 have e1 : n / 2 ^ (k + j) = n / 2 ^ j / 2 ^ k := by rw [Nat.div_div_eq_div_mul, ← Nat.pow_add, Nat.add_comm]
 have e2 : n / 2 ^ (k + j - 1) = n / 2 ^ j / 2 ^ (k - 1) := by rw [Nat.div_div_eq_div_mul, ← Nat.pow_add, show k + j - 1 = j + (k - 1) by omega]
 have e3 : n % 2 ^ (k + j - 1) ≠ 0 ↔ (n % 2 ^ j ≠ 0 ∨ n / 2 ^ j % 2 ^ (k - 1) ≠ 0) := by
  rw [show k + j - 1 = j + (k - 1) by omega, Nat.pow_add, Nat.mod_mul]
  have h : 0 < 2 ^ j := Nat.pow_pos (by decide)
  constructor
  ·intro q
   by_cases h1 : n % 2 ^ j = 0
   ·right; intro h2; rw [h1, h2] at q; simp at q
   ·exact .inl h1
  ·rintro (q | q) h1
   ·omega
   ·have : 0 < 2 ^ j * (n / 2 ^ j % 2 ^ (k - 1)) := Nat.mul_pos h (Nat.pos_of_ne_zero q)
    omega
 unfold rne
 rw [e1, e2]
 have e4 : (n % 2 ^ (k + j - 1) ≠ 0 ∨ more = true ∨ n / 2 ^ j / 2 ^ k % 2 = 1) ↔ (n / 2 ^ j % 2 ^ (k - 1) ≠ 0 ∨ (more || decide (n % 2 ^ j ≠ 0)) = true ∨ n / 2 ^ j / 2 ^ k % 2 = 1) := by
  rw [e3, Bool.or_eq_true, decide_eq_true_eq]
  constructor
  ·rintro ((h | h) | h | h)
   ·exact .inr (.inl (.inr h))
   ·exact .inl h
   ·exact .inr (.inl (.inl h))
   ·exact .inr (.inr h)
  ·rintro (h | (h | h) | h)
   ·exact .inl (.inr h)
   ·exact .inr (.inl h)
   ·exact .inl (.inl h)
   ·exact .inr (.inr h)
 simp only [e4]
theorem akO {neg : Bool} {n j : Nat} {e : Int} {more : Bool} (hb : 55 ≤ yQ (n / 2 ^ j)) (he : -10000 ≤ e) (he2 : e ≤ 2000) :
  yM neg n e more = yM neg (n / 2 ^ j) (e + j) (more || decide (n % 2 ^ j ≠ 0)) := by
 have hp : 0 < n / 2 ^ j := by
  have := aaW.1 (show 0 < yQ (n / 2 ^ j) by omega)
  rw [Nat.pow_zero] at this; exact this
 have hn : 0 < n := by
  rcases Nat.eq_zero_or_pos n with h | h
  ·subst h; simp at hp
  ·exact h
 have hl := auX hp
 have hu : yI n e = yI (n / 2 ^ j) (e + j) := by unfold yI; rw [hl]; split <;> split <;> omega
 have hu2 : yI n e ≥ e + j + 2 := by unfold yI; split <;> omega
 have hm : abJ n e more = abJ (n / 2 ^ j) (e + j) (more || decide (n % 2 ^ j ≠ 0)) := by
  unfold abJ
  rw [if_neg (by omega), ← hu, if_neg (by omega), show (yI n e - e).toNat = (yI n e - (e + j)).toNat + j by omega]
  exact rne_cut (by omega)
 unfold yM
 rw [if_neg (by omega), if_neg (by omega), if_neg (by omega), hm, hu]
 by_cases h2 : 2000 < e + (j : Int)
 ·rw [if_pos h2]
  -- far above: endless
  have hu3 : yI (n / 2 ^ j) (e + j) = e + j + yQ (n / 2 ^ j) - 53 := by unfold yI; split <;> omega
  have hge : 4503599627370496 ≤ abJ (n / 2 ^ j) (e + j) (more || decide (n % 2 ^ j ≠ 0)) := by
   unfold abJ
   rw [if_neg (by omega)]
   have h5 : 2 ^ 52 ≤ n / 2 ^ j / 2 ^ (yI (n / 2 ^ j) (e + j) - (e + j)).toNat := by
    rw [Nat.le_div_iff_mul_le (Nat.pow_pos (by decide)), ← Nat.pow_add]
    refine aaW.1 ?_
    omega
   unfold rne
   split <;> omega
  unfold atY
  split
  ·unfold abS; rw [if_neg (by omega), if_pos (by omega)]
  ·unfold abS; rw [if_neg (by omega), if_pos (by omega)]
 ·rw [if_neg h2]
theorem rne_mono {n1 n2 k : Nat} {m1 m2 : Bool} (hk : 1 ≤ k) (h : n1 < n2 ∨ (n1 = n2 ∧ (m1 = true → m2 = true))) : rne n1 k m1 ≤ rne n2 k m2 := by
 have hn : n1 ≤ n2 := by omega
 have hp : 2 ^ k = 2 ^ (k - 1) * 2 := by rw [← Nat.pow_succ, show (k - 1).succ = k by omega]
 have hq : n1 / 2 ^ (k - 1) ≤ n2 / 2 ^ (k - 1) := Nat.div_le_div_right hn
 have e1 : n1 / 2 ^ k = n1 / 2 ^ (k - 1) / 2 := by rw [hp, Nat.div_div_eq_div_mul]
 have e2 : n2 / 2 ^ k = n2 / 2 ^ (k - 1) / 2 := by rw [hp, Nat.div_div_eq_div_mul]
 have d1 := Nat.div_add_mod n1 (2 ^ (k - 1))
 have d2 := Nat.div_add_mod n2 (2 ^ (k - 1))
 unfold rne
 rw [e1, e2]
 generalize n1 / 2 ^ (k - 1) = q1 at *
 generalize n2 / 2 ^ (k - 1) = q2 at *
 generalize hr1 : n1 % 2 ^ (k - 1) = r1 at *
 generalize hr2 : n2 % 2 ^ (k - 1) = r2 at *
 rcases Nat.lt_or_ge q1 q2 with hlt | hge
 ·-- a whole half apart: only q2 = q1 + 1 with q1 odd, q2 even or q1 even, q2 odd matter
  split <;> split <;> omega
 ·have hqe : q1 = q2 := by omega
  subst hqe
  have hrr : r1 < r2 ∨ (r1 = r2 ∧ (m1 = true → m2 = true)) := by
   rcases h with h | ⟨h, hm⟩
   ·left; omega
   ·right; exact ⟨by omega, hm⟩
  split
  ·rename_i c1
   rw [if_pos]
   ·exact Nat.le_refl _
   ·refine ⟨c1.1, ?_⟩
    rcases c1.2 with c | c | c
    ·left; omega
    ·rcases hrr with hrr | ⟨_, hm⟩
     ·left; omega
     ·exact .inr (.inl (hm c))
    ·exact .inr (.inr c)
  ·split <;> omega
def pk (m : Nat) (u : Int) : Nat := if m = 9007199254740992 then abS 4503599627370496 (u + 1) else abS m u
theorem arC (m : Nat) (u : Int) (h : m < 9007199254740992) : abS m u ≤ ajF := by
 unfold abS ajF
 split
 ·omega
 ·split <;> omega
theorem atW {m1 m2 : Nat} {u : Int} (hu : -1074 ≤ u) (h : m1 ≤ m2) (h2 : m2 ≤ 9007199254740992) : pk m1 u ≤ pk m2 u := by
 unfold pk abS ajF
 repeat' split
 all_goals omega
theorem pk_next {m : Nat} {u : Int} (hu : -1074 ≤ u) (h : m ≤ 9007199254740992) : pk m u ≤ abS 4503599627370496 (u + 1) := by
 have := atW hu h (Nat.le_refl _)
 unfold pk at this ⊢
 rw [if_pos rfl] at this
 exact this
theorem packM_up {u1 u2 : Int} (h1 : -1074 ≤ u1) (h : u1 ≤ u2) : abS 4503599627370496 u1 ≤ abS 4503599627370496 u2 := by
 unfold abS ajF
 repeat' split
 all_goals omega
theorem aoC (n : Nat) (e : Int) : -1074 ≤ yI n e := by unfold yI; split <;> omega
theorem aeL {a b : Nat} (h : a ≤ b) : yQ a ≤ yQ b := qJ.2 (Nat.lt_of_le_of_lt h (qJ.1 (Nat.le_refl _)))
theorem bbH {a b : Nat} (h : a ≤ b) (e : Int) : yI a e ≤ yI b e := by
 have := aeL h
 unfold yI; split <;> split <;> omega
theorem rne_le {n k b : Nat} {more : Bool} (h : n < 2 ^ (b + k)) : rne n k more ≤ 2 ^ b := by
 have : n / 2 ^ k < 2 ^ b := by rw [Nat.div_lt_iff_lt_mul (Nat.pow_pos (by decide)), ← Nat.pow_add]; exact h
 unfold rne; split <;> omega
theorem agP (n : Nat) (e : Int) (more : Bool) : abJ n e more ≤ 9007199254740992 := by
 have hn : n < 2 ^ yQ n := qJ.1 (Nat.le_refl _)
 have e53 : (9007199254740992 : Nat) = 2 ^ 53 := by decide
 unfold abJ
 split
 ·rename_i h
  have hb : yQ n + (e - yI n e).toNat ≤ 53 := by unfold yI at *; split at h <;> omega
  rw [e53]
  refine Nat.le_trans ?_ (Nat.pow_le_pow_right (by decide) hb)
  rw [Nat.pow_add]
  exact Nat.mul_le_mul_right _ (Nat.le_of_lt hn)
 ·rename_i h
  rw [e53]
  refine rne_le (Nat.lt_of_lt_of_le hn (Nat.pow_le_pow_right (by decide) ?_))
  unfold yI at *; split at h <;> omega
theorem bdU {n : Nat} {e : Int} {more : Bool} (h : -1074 < yI n e) (hn : 0 < n) : 4503599627370496 ≤ abJ n e more := by
 have hb : 2 ^ (yQ n - 1) ≤ n := aaW.1 (by have := aaW.2 (show 2 ^ 0 ≤ n from hn); omega)
 have hb0 : 0 < yQ n := aaW.2 (show 2 ^ 0 ≤ n from hn)
 have e52 : (4503599627370496 : Nat) = 2 ^ 52 := by decide
 have hu : yI n e = e + yQ n - 53 := by unfold yI at *; split at h <;> omega
 unfold abJ
 split
 ·rw [e52]
  refine Nat.le_trans (Nat.pow_le_pow_right (by decide) (show 52 ≤ yQ n - 1 + (e - yI n e).toNat by omega)) ?_
  rw [Nat.pow_add]
  exact Nat.mul_le_mul_right _ hb
 ·have h5 : 2 ^ 52 ≤ n / 2 ^ (yI n e - e).toNat := by
   rw [Nat.le_div_iff_mul_le (Nat.pow_pos (by decide)), ← Nat.pow_add]
   refine Nat.le_trans (Nat.pow_le_pow_right (by decide) ?_) hb
   omega
  unfold rne
  split <;> omega
theorem aoW (neg : Bool) (m : Nat) (u : Int) : atY neg m u = aaD neg + pk m u := rfl
theorem aeA {n1 n2 : Nat} {e : Int} {m1 m2 : Bool} (he : -10000 ≤ e) (he2 : e ≤ 2000) (hn : 0 < n1) (h : n1 < n2 ∨ (n1 = n2 ∧ (m1 = true → m2 = true))) : yM false n1 e m1 ≤ yM false n2 e m2 := by
 have hle : n1 ≤ n2 := by omega
 unfold yM
 rw [if_neg (by omega), if_neg (by omega), if_neg (by omega), if_neg (by omega), aoW, aoW]
 refine Nat.add_le_add_left ?_ _
 have hu := bbH hle e
 have l1 := aoC n1 e
 rcases Int.lt_or_eq_of_le hu with hlt | heq
 ·refine Nat.le_trans (pk_next l1 (agP _ _ _)) (Nat.le_trans (packM_up (by omega) (show yI n1 e + 1 ≤ yI n2 e by omega)) ?_)
  have hg := bdU (more := m2) (show -1074 < yI n2 e by omega) (show 0 < n2 by omega)
  have := atW (u := yI n2 e) (by omega) hg (agP _ _ _)
  unfold pk at this ⊢
  rw [if_neg (by decide)] at this
  exact this
 ·rw [← heq]
  refine atW l1 ?_ (agP _ _ _)
  unfold abJ
  rw [← heq]
  split
  ·exact Nat.mul_le_mul_right _ hle
  ·exact rne_mono (by omega) h
theorem awZ {n j : Nat} (h : 0 < n) : yQ (n * 2 ^ j) = yQ n + j := by
 have e : n * 2 ^ j / 2 ^ j = n := Nat.mul_div_cancel _ (Nat.pow_pos (by decide))
 have := auX (n := n * 2 ^ j) (j := j) (by rw [e]; exact h)
 rw [e] at this; exact this
theorem bcN {n j k : Nat} (hk : 1 ≤ k) : rne (n * 2 ^ j) (k + j) false = rne n k false := by
 have hp : 0 < 2 ^ j := Nat.pow_pos (by decide)
 have e1 : n * 2 ^ j / 2 ^ (k + j) = n / 2 ^ k := by rw [Nat.pow_add, Nat.mul_div_mul_right _ _ hp]
 have e2 : n * 2 ^ j / 2 ^ (k + j - 1) = n / 2 ^ (k - 1) := by rw [show k + j - 1 = k - 1 + j by omega, Nat.pow_add, Nat.mul_div_mul_right _ _ hp]
 have e3 : n * 2 ^ j % 2 ^ (k + j - 1) ≠ 0 ↔ n % 2 ^ (k - 1) ≠ 0 := by
  rw [show k + j - 1 = k - 1 + j by omega, Nat.pow_add, Nat.mul_mod_mul_right]
  constructor
  ·intro h q; rw [q, Nat.zero_mul] at h; exact h rfl
  ·intro h q
   rcases Nat.mul_eq_zero.1 q with q | q
   ·exact h q
   ·omega
 unfold rne
 rw [e1, e2]
 simp only [e3]
theorem bcO {n j k : Nat} (hk : 1 ≤ k) (hj : k ≤ j) : rne (n * 2 ^ j) k false = n * 2 ^ (j - k) := by
 have e1 : n * 2 ^ j / 2 ^ k = n * 2 ^ (j - k) := by
  rw [show j = j - k + k by omega, Nat.pow_add, ← Nat.mul_assoc, Nat.mul_div_cancel _ (Nat.pow_pos (by decide)), show j - k + k - k = j - k by omega]
 have e2 : n * 2 ^ j / 2 ^ (k - 1) = n * 2 ^ (j - k) * 2 := by
  rw [show j = (j - k + 1) + (k - 1) by omega, Nat.pow_add, ← Nat.mul_assoc, Nat.mul_div_cancel _ (Nat.pow_pos (by decide)), Nat.pow_succ, ← Nat.mul_assoc, show j - k + 1 + (k - 1) - k = j - k by omega]
 unfold rne
 rw [e1, e2, if_neg (by omega)]
theorem adJ {neg : Bool} {n j : Nat} {e : Int} (he : -10000 ≤ e) (he2 : e + j ≤ 2000) : yM neg (n * 2 ^ j) e false = yM neg n (e + j) false := by
 rcases Nat.eq_zero_or_pos n with h0 | hn
 ·subst h0; unfold yM; simp
 have hn2 : 0 < n * 2 ^ j := Nat.mul_pos hn (Nat.pow_pos (by decide))
 have hl := awZ (j := j) hn
 have hu : yI (n * 2 ^ j) e = yI n (e + j) := by unfold yI; rw [hl]; split <;> split <;> omega
 unfold yM
 rw [if_neg (by omega), if_neg (by omega), if_neg (by omega), if_neg (by omega), hu]
 congr 1
 unfold abJ
 rw [hu]
 by_cases h1 : yI n (e + j) ≤ e
 ·rw [if_pos h1, if_pos (by omega), Nat.mul_assoc, ← Nat.pow_add]
  congr 2; omega
 ·rw [if_neg h1]
  by_cases h2 : yI n (e + j) ≤ e + j
  ·rw [if_pos h2, bcO (by omega) (by omega)]
   congr 2; omega
  ·rw [if_neg h2, show (yI n (e + j) - e).toNat = (yI n (e + j) - (e + j)).toNat + j by omega, bcN (by omega)]
def aqR (a b k : Nat) : Nat := yM false (a * 2 ^ k / b) (-(k : Int)) (decide (a * 2 ^ k % b ≠ 0))
theorem rat_up {a b k : Nat} (hb : 0 < b) (h : 55 ≤ yQ (a * 2 ^ k / b)) (hk : k + 1 ≤ 10000) : aqR a b (k + 1) = aqR a b k := by
 have e1 : a * 2 ^ (k + 1) / b / 2 ^ 1 = a * 2 ^ k / b := by
  rw [Nat.pow_one, Nat.div_div_eq_div_mul, Nat.pow_succ, ← Nat.mul_assoc, Nat.mul_div_mul_right _ _ (by decide)]
 unfold aqR
 rw [akO (j := 1) (by rw [e1]; exact h) (by omega) (by omega), e1, show (-((k + 1 : Nat) : Int)) + ((1 : Nat) : Int) = -(k : Int) by omega]
 congr 1
 have hd := Nat.div_add_mod (a * 2 ^ k) b
 have hr := Nat.mod_lt (a * 2 ^ k) hb
 have e2 : a * 2 ^ (k + 1) = b * (2 * (a * 2 ^ k / b)) + 2 * (a * 2 ^ k % b) := by
  rw [Nat.pow_succ, ← Nat.mul_assoc, ← hd]
  generalize a * 2 ^ k / b = q
  generalize hr2 : (b * q + a * 2 ^ k % b) % b = r at *
  rw [Nat.mul_add_mod, Nat.mod_mod] at hr2
  rw [← hr2, Nat.mul_add_div hb, Nat.div_eq_of_lt hr, Nat.add_zero, Nat.add_mul, Nat.mul_assoc, Nat.mul_comm q 2, Nat.mul_comm 2 (a * 2 ^ k % b)]
 generalize hq : a * 2 ^ k / b = q at *
 generalize hrr : a * 2 ^ k % b = r at *
 rw [e2]
 rcases Nat.lt_or_ge (2 * r) b with hc | hc
 ·rw [Nat.mul_add_mod, Nat.mod_eq_of_lt hc, Nat.mul_add_div hb, Nat.div_eq_of_lt hc, Nat.add_zero, Nat.pow_one, Nat.mul_mod_right]
  by_cases hr0 : r = 0
  ·simp [hr0]
  ·simp [hr0]; omega
 ·have e3 : 2 * r = b * 1 + (2 * r - b) := by omega
  have hc2 : 2 * r - b < b := by omega
  rw [e3, ← Nat.add_assoc, ← Nat.mul_add, Nat.mul_add_mod, Nat.mod_eq_of_lt hc2, Nat.mul_add_div hb, Nat.div_eq_of_lt hc2, Nat.add_zero, Nat.pow_one]
  have hr0 : r ≠ 0 := by omega
  have : (2 * q + 1) % 2 = 1 := by omega
  simp [hr0, this]
theorem avT {a b k k2 : Nat} (hb : 0 < b) (h : 55 ≤ yQ (a * 2 ^ k / b)) (hk : k ≤ k2) (hk2 : k2 ≤ 10000) : aqR a b k2 = aqR a b k := by
 induction k2 with
 | zero => rw [show k = 0 by omega]
 | succ m ih =>
  rcases Nat.lt_or_ge m k with hm | hm
  ·rw [show m + 1 = k by omega]
  ·rw [rat_up hb ?_ hk2, ih hm (by omega)]
   refine Nat.le_trans h (aeL (Nat.div_le_div_right (Nat.mul_le_mul_left _ (Nat.pow_le_pow_right (by decide) hm))))
theorem bdE {m : Nat} (h : m < 9223372036854775808) : (m ||| 9223372036854775808) = 9223372036854775808 + m := by
 have := atZ (a := m) (b := 1) (k := 63) (by rw [show (2 : Nat) ^ 63 = 9223372036854775808 by decide]; exact h)
 rw [show 1 * (2 : Nat) ^ 63 = 9223372036854775808 by decide] at this
 omega
theorem packM_lt {m : Nat} {u : Int} (hm : m ≤ 9007199254740991) : abS m u ≤ ajF := by
 unfold abS ajF
 split
 ·omega
 ·split <;> omega
theorem bdT {v : Nat} {e : Int} {more : Bool} (h : e < yI v e) :
  abJ v e more = (if v / 2 ^ ((yI v e - e).toNat - 1) % 2 = 1 ∧ (v % 2 ^ ((yI v e - e).toNat - 1) ≠ 0 ∨ more = true ∨ v / 2 ^ (yI v e - e).toNat % 2 = 1) then v / 2 ^ (yI v e - e).toNat + 1 else v / 2 ^ (yI v e - e).toNat) := by
 unfold abJ
 rw [if_neg (by omega)]; rfl
theorem alK {v : Nat} {e : Int} {more : Bool} (h : yI v e ≤ e) : abJ v e more = v * 2 ^ (e - yI v e).toNat := by
 unfold abJ
 rw [if_pos h]
theorem anV {v : Nat} {e : Int} (h : e < yI v e) : v / 2 ^ ((yI v e - e).toNat - 1) < 18014398509481984 := by
 have hn : v < 2 ^ yQ v := qJ.1 (Nat.le_refl _)
 rw [Nat.div_lt_iff_lt_mul (Nat.pow_pos (by decide)), show (18014398509481984 : Nat) = 2 ^ 54 by decide, ← Nat.pow_add]
 refine Nat.lt_of_lt_of_le hn (Nat.pow_le_pow_right (by decide) ?_)
 unfold yI at *
 split at h <;> omega
theorem half_hi {x : Nat} (h : x < 18014398509481984) : x * 2 ^ 63 % M2 / M1 = x / 2 := by
 have e63 : (2 : Nat) ^ 63 = 9223372036854775808 := by decide
 rw [e63]; unfold M1 M2; omega
theorem awV {v k : Nat} (hk : 1 ≤ k) : v / 2 ^ (k - 1) / 2 = v / 2 ^ k := by
 rw [Nat.div_div_eq_div_mul, ← Nat.pow_succ, show (k - 1).succ = k by omega]
theorem arQ {v : Nat} {e : Int} (h : yI v e ≤ e) : v * 2 ^ (e - yI v e).toNat < M1 := by
 have := agP v e false
 rw [alK h] at this
 unfold M1; omega
theorem bbF {v : Nat} {e : Int} (h0 : 0 < v) (h : yI v e ≤ e) : e - yI v e ≤ 52 := by
 have hb : 0 < yQ v := aaW.2 (show 2 ^ 0 ≤ v from h0)
 unfold yI at *
 split at h <;> omega
theorem take_in {v x : Nat} (hx : x < 4294967296) : v * 2 ^ 32 % M2 / M1 = (v * 4294967296 + x) % M2 / M1 ∧ (v * 2 ^ 32 % M2 % M1 ||| x) = (v * 4294967296 + x) % M2 % M1 := by
 have e32 : (2 : Nat) ^ 32 = 4294967296 := by decide
 have h1 : v * 2 ^ 32 % M2 % M1 ||| x = v * 2 ^ 32 % M2 % M1 + x := by
  have h2 : v * 2 ^ 32 % M2 % M1 = (v % 4294967296) * 2 ^ 32 := by
   rw [shl_lo, e32]; unfold M1; omega
  rw [h2]; exact agE (by rw [e32]; exact hx)
 rw [h1, e32]
 unfold M1 M2
 constructor <;> omega
theorem blen0 {n : Nat} : ((yQ n : Nat) : Int) = 0 ↔ n = 0 := by
 have h := @aaW n 0
 rw [Nat.pow_zero] at h
 omega
def baB (n : Nat) (e : Int) : Bool := decide (n = 0 ∨ (e < -10000 ∧ e + yQ n < -2000) ∨ 2000 < e)
def farV (neg : Bool) (n : Nat) (e : Int) : Nat := if n = 0 ∨ (e < -10000 ∧ e + yQ n < -2000) then aaD neg else if 2000 < e then aaD neg + ajF else 0
theorem far_lo {neg : Bool} {n : Nat} {e : Int} (h : n = 0 ∨ (e < -10000 ∧ e + yQ n < -2000)) : farV neg n e = aaD neg ∧ baB n e = true := by
 unfold farV baB
 exact ⟨if_pos h, decide_eq_true (by omega)⟩
theorem far_hi {neg : Bool} {n : Nat} {e : Int} (h : ¬ (n = 0 ∨ (e < -10000 ∧ e + yQ n < -2000))) (h2 : 2000 < e) : farV neg n e = aaD neg + ajF ∧ baB n e = true := by
 unfold farV baB
 exact ⟨by rw [if_neg h, if_pos h2], decide_eq_true (by omega)⟩
theorem far_no {neg : Bool} {n : Nat} {e : Int} (h : ¬ (n = 0 ∨ (e < -10000 ∧ e + yQ n < -2000))) (h2 : ¬ 2000 < e) : farV neg n e = 0 ∧ baB n e = false := by
 unfold farV baB
 exact ⟨by rw [if_neg h, if_neg h2], decide_eq_false (by omega)⟩
theorem far_true {neg : Bool} {n : Nat} {e : Int} {more : Bool} (h : baB n e = true) : yM neg n e more = farV neg n e := by
 have h := of_decide_eq_true h
 unfold yM farV
 split
 ·rfl
 ·rw [if_pos (by omega), if_pos (by omega)]
theorem arU {neg : Bool} {n : Nat} {e : Int} {more : Bool} (h : baB n e = false) : 0 < n ∧ e ≤ 2000 ∧ -110000 ≤ e + yQ n ∧ yM neg n e more = atY neg (abJ n e more) (yI n e) := by
 have h := of_decide_eq_false h
 refine ⟨by omega, by omega, by omega, ?_⟩
 unfold yM
 rw [if_neg (by omega), if_neg (by omega)]

def aiG (m : Nat) : Nat := if m = 9007199254740992 then 4503599627370496 else m
def ahI (m : Nat) (u : Int) : Int := if m = 9007199254740992 then u + 1 else u
theorem awB (neg : Bool) (m : Nat) (u : Int) : atY neg m u = aaD neg + abS (aiG m) (ahI m u) := by
 unfold atY aiG ahI
 split <;> rfl
theorem awC {m : Nat} (h : m ≤ 9007199254740992) : aiG m ≤ 9007199254740991 := by unfold aiG; split <;> omega
theorem awA (m : Nat) (u : Int) : u ≤ ahI m u ∧ ahI m u ≤ u + 1 := by unfold ahI; split <;> omega
theorem shl52 {k : Nat} (h : k ≤ 100000) : k * 2 ^ 52 = k * 4503599627370496 := by rw [show (2 : Nat) ^ 52 = 4503599627370496 by decide]

set_option maxRecDepth 100000 in
theorem aeG (neg : Bool) (m : Nat) (hm : m ≤ 9007199254740992) (u : Int) (hu : -1074 ≤ u ∧ u ≤ 1000000) (H : Heap) : ACall Tryz.prog 231 [.bool neg, .int .u64 (m : Int), .int .i64 u] H (fun y H' => y = .int .u64 ((atY neg m u : Nat) : Int) ∧ H' = H) := by
 refine ACall.of_body Tryz.func231 rfl Tryz.ntmps231 Tryz.results231 rfl ?_
 refine .sr (.p rfl (zB (zJ 0)) (.ng ?_))
 refine AWP.seqToL [(1, .int .u64 ((aiG m : Nat) : Int)), (2, .int .i64 (ahI m u))] [0, 6] ?_ ?_
 ·refine .sr (.mv rfl rfl (.p rfl (yA (tm rfl) (zJ 9007199254740992)) (.ng ?_)))
  refine AWP.cond (tm rfl) (fun hc8 => ?_) (fun hc8 => ?_)
  ·try simp only [decide_eq_true_eq] at hc8
   refine .region (.mv rfl rfl (.p rfl (zR (tm rfl) zE (by omega)) (.p rfl (zB (zJ 4503599627370496)) (.as rfl rfl (.nil ?_)))))
   exact ⟨rfl, (yH rfl (by (unfold aiG; rw [if_pos (by omega)]; done)) (yH rfl (by (unfold ahI; rw [if_pos (by omega)]; done)) (zA rfl (zA rfl zL)))), rfl⟩
  ·try simp only [decide_eq_false_iff_not] at hc8
   refine .skip ?_
   exact ⟨rfl, (yH rfl (by (unfold aiG; rw [if_neg (by omega)]; done)) (yH rfl (by (unfold ahI; rw [if_neg (by omega)]; done)) (zA rfl (zA rfl zL)))), rfl⟩
 ·refine AWP.sub [(1, _), (2, _), (0, _), (6, _)] (zA rfl (zA rfl (zA rfl (zA rfl zL)))) ?_
  rw [awB]
  have hA := awC hm
  have hU := awA m u
  generalize aiG m = m1 at hA ⊢
  generalize ahI m u = u1 at hU ⊢
  refine AWP.seqToL [(1, .int .u64 ((abS m1 u1 : Nat) : Int))] [2, 0, 6] ?_ ?_
  ·refine .block (.sr (.mv rfl rfl (.p rfl (qH (tm rfl) (zJ 4503599627370496)) (.mv rfl rfl ?_))))
   refine zQ (t := 14) rfl (fun hg14 => ?_) (fun hg14 => ?_)
   ·have hh14 := hg14; try simp only [decide_eq_true_eq] at hh14
    refine .gp rfl rfl rfl (by assumption) (zC (tm rfl)) (.gp rfl rfl rfl (by assumption) (zR (tm rfl) zE (by omega)) (.gp rfl rfl rfl (by assumption) (qH (tm rfl) zE) (.p rfl (zN (tm rfl) (by assumption) (tm rfl)) (.as rfl rfl (.ng ?_)))))
    refine AWP.cond (tm rfl) (fun hc11 => ?_) (fun hc11 => ?_)
    ·try simp only [decide_eq_true_eq] at hc11
     try simp only [Bool.and_eq_true, decide_eq_true_eq] at hc11
     refine .region (.p rfl (zB (zJ 9218868437227405312)) (.nil ?_))
     refine Block.go ?_
     exact ⟨rfl, (yH rfl (by unfold abS; first | (rw [if_neg (by omega), if_pos (by omega)]; rfl) | (rw [if_pos (by omega)]; done) | (rw [if_neg (by omega), if_neg (by omega), shl52 (by omega)])) (zA rfl (zA rfl (zA rfl zL)))), rfl⟩
    ·try simp only [decide_eq_false_iff_not, Int.not_le] at hc11
     try simp only [Bool.and_eq_false_iff, decide_eq_false_iff_not] at hc11
     refine .sr (.mv rfl rfl (.p rfl (qH (tm rfl) (zJ 4503599627370496)) (.as rfl rfl (.ng ?_))))
     refine AWP.cond (tm rfl) (fun hc19 => ?_) (fun hc19 => ?_)
     ·try simp only [decide_eq_true_eq] at hc19
      refine .region (.mv rfl rfl (.mv rfl rfl (.p rfl (zR (tm rfl) zE (by omega)) (.p rfl (zZ (tm rfl) zE (by omega)) ?_))))
      refine .p rfl (.as (b := .int .u64 (((u1 + 1074).toNat : Nat) : Int)) (by congr 1; omega) (yD Tryz.underlying3 Tryz.underlying30 (tm rfl) (wrap64 (by omega) (by omega)))) ?_
      refine .p rfl (aaE (tm rfl) (zJ 52) (by omega) (by rw [shl52 (by omega)]; omega)) (.p rfl (yL (tm rfl) (tm rfl) (by (rw [shl52 (by omega)]; omega))) (.as rfl rfl (.nil ?_)))
      refine Block.go ?_
      exact ⟨rfl, (yH rfl (by unfold abS; first | (rw [if_neg (by omega), if_pos (by omega)]; rfl) | (rw [if_pos (by omega)]; done) | (rw [if_neg (by omega), if_neg (by omega), shl52 (by omega)])) (zA rfl (zA rfl (zA rfl zL)))), rfl⟩
     ·try simp only [decide_eq_false_iff_not, Int.not_le] at hc19
      refine .skip ?_
      refine Block.go ?_
      exact ⟨rfl, (yH rfl (by unfold abS; first | (rw [if_neg (by omega), if_pos (by omega)]; rfl) | (rw [if_pos (by omega)]; done) | (rw [if_neg (by omega), if_neg (by omega), shl52 (by omega)])) (zA rfl (zA rfl (zA rfl zL)))), rfl⟩
   ·have hh14 := hg14; try simp only [decide_eq_false_iff_not, Int.not_le] at hh14
    refine .gn rfl rfl rfl (by assumption) (.gn rfl rfl rfl (by assumption) (.gn rfl rfl rfl (by assumption) (.p rfl (zM (tm rfl) (by assumption) zK) (.as rfl rfl (.ng ?_)))))
    refine AWP.cond_false (tm rfl) (by rfl) ?_
    refine .sr (.mv rfl rfl (.p rfl (qH (tm rfl) (zJ 4503599627370496)) (.as rfl rfl (.ng ?_))))
    refine AWP.cond (tm rfl) (fun hc19 => ?_) (fun hc19 => ?_)
    ·try simp only [decide_eq_true_eq] at hc19
     refine .region (.mv rfl rfl (.mv rfl rfl (.p rfl (zR (tm rfl) zE (by omega)) (.p rfl (zZ (tm rfl) zE (by omega)) ?_))))
     refine .p rfl (.as (b := .int .u64 (((u1 + 1074).toNat : Nat) : Int)) (by congr 1; omega) (yD Tryz.underlying3 Tryz.underlying30 (tm rfl) (wrap64 (by omega) (by omega)))) ?_
     refine .p rfl (aaE (tm rfl) (zJ 52) (by omega) (by rw [shl52 (by omega)]; omega)) (.p rfl (yL (tm rfl) (tm rfl) (by (rw [shl52 (by omega)]; omega))) (.as rfl rfl (.nil ?_)))
     refine Block.go ?_
     exact ⟨rfl, (yH rfl (by unfold abS; first | (rw [if_neg (by omega), if_pos (by omega)]; rfl) | (rw [if_pos (by omega)]; done) | (rw [if_neg (by omega), if_neg (by omega), shl52 (by omega)])) (zA rfl (zA rfl (zA rfl zL)))), rfl⟩
    ·try simp only [decide_eq_false_iff_not, Int.not_le] at hc19
     refine .skip ?_
     refine Block.go ?_
     exact ⟨rfl, (yH rfl (by unfold abS; first | (rw [if_neg (by omega), if_pos (by omega)]; rfl) | (rw [if_pos (by omega)]; done) | (rw [if_neg (by omega), if_neg (by omega), shl52 (by omega)])) (zA rfl (zA rfl (zA rfl zL)))), rfl⟩
  ·refine AWP.sub [(1, _), (2, _), (0, _), (6, _)] (zA rfl (zA rfl (zA rfl (zA rfl zL)))) ?_
   have hM := packM_lt (u := u1) hA
   have hM2 : abS m1 u1 < 9223372036854775808 := Nat.lt_of_le_of_lt hM (by decide)
   refine .seq (.sr (.mv rfl rfl (.ng ?_)))
   refine AWP.cond (tm rfl) (fun hc29 => ?_) (fun hc29 => ?_)
   ·try simp only [decide_eq_true_eq, decide_eq_false_iff_not, Bool.not_eq_true', Bool.not_eq_false', Int.not_lt, Int.not_le, ne_eq, Decidable.not_not] at hc29
    refine .region (.mv rfl rfl (.p rfl (aaF (tm rfl) (zJ 9223372036854775808) (by omega) (by omega)) (.as rfl rfl (.nr (.mv rfl rfl (.as rfl rfl (.ng (.ret ?_))))))))
    refine Ret.go (.cons (.tmp _ _ rfl) .nil) _ (Heap.le.refl _) ?_
    refine ⟨?_, rfl⟩
    simp only [yZ, aaD]
    rw [if_pos (by assumption), bdE hM2]
   ·try simp only [decide_eq_true_eq, decide_eq_false_iff_not, Bool.not_eq_true', Bool.not_eq_false', Int.not_lt, Int.not_le, ne_eq, Decidable.not_not] at hc29
    refine .skip ?_
    refine Next.go ?_
    refine .sr (.mv rfl rfl (.as rfl rfl (.ng (.ret ?_))))
    refine Ret.go (.cons (.tmp _ _ rfl) .nil) _ (Heap.le.refl _) ?_
    refine ⟨?_, rfl⟩
    simp only [yZ, aaD]
    rw [if_neg (by simp_all), Nat.zero_add]

set_option maxRecDepth 100000 in
theorem axP (n : Nat) (e : Int) (hn : yQ n ≤ 100000) (he : -1000000000000000 ≤ e ∧ e ≤ 1000000000000000) (H : Heap) : ACall Tryz.prog 230 [.int .i64 (yQ n : Int), .int .i64 e] H (fun y H' => y = .int .i64 (yI n e) ∧ H' = H) := by
 refine ACall.of_body Tryz.func230 rfl Tryz.ntmps230 Tryz.results230 rfl ?_
 refine .sr (.p rfl (zB zE) (.nr (.mv rfl rfl (.mv rfl rfl (.p rfl (zR (tm rfl) (tm rfl) (by omega)) (.p rfl (zZ (tm rfl) zE (by omega)) (.p rfl (abX (tm rfl) zE) (.as rfl rfl ?_))))))))
 refine .ng (.ret ?_)
 refine Ret.go (.cons (.tmp _ _ rfl) .nil) _ (Heap.le.refl _) ?_
 refine ⟨?_, rfl⟩
 simp only [yZ, yI, auK] <;> (congr 1; split <;> split <;> omega)

set_option maxRecDepth 100000 in
theorem beR (neg : Bool) (n : Nat) (e : Int) (hn : yQ n ≤ 100000) (he : -1000000000000000 ≤ e ∧ e ≤ 1000000000000000) (H : Heap) : ACall Tryz.prog 229 [.bool neg, .int .i64 (yQ n : Int), .int .i64 e] H (fun y H' => y = .tuple [.int .u64 ((farV neg n e : Nat) : Int), .bool (baB n e)] ∧ H' = H) := by
 have hb0 := @blen0 n
 refine ACall.of_body Tryz.func229 rfl Tryz.ntmps229 Tryz.results229 rfl ?_
 refine .sr (.p rfl (zB (zJ 0)) (.p rfl (zB zK) (.ng (.seq (.block (.sr (.mv rfl rfl (.p rfl (yA (tm rfl) zE) ?_))))))))
 refine .mv rfl rfl ?_
 refine zQ (t := 11) rfl (fun hg11 => ?_) (fun hg11 => ?_)
 ·have hh11 := hg11; try simp only [decide_eq_true_eq] at hh11
  refine .gn rfl rfl rfl (by assumption) (.gn rfl rfl rfl (by assumption) (.gn rfl rfl rfl (by assumption) ?_))
  refine AList.gdead rfl rfl rfl ?_
  refine AList.gdead rfl rfl rfl ?_
  refine AList.gdead rfl rfl rfl ?_
  refine AList.gdead rfl rfl rfl ?_
  refine .gn rfl rfl rfl (by assumption) (.p rfl (zN (tm rfl) (by assumption) zK) (.as rfl rfl (.ng ?_)))
  refine AWP.cond_true (tm rfl) (by rfl) ?_
  refine .sr (.mv rfl rfl (.cl rfl Tryz.call231 (.cons (tm rfl) (.cons (zJ 0) (.cons zE .nil))) (aeG _ _ (by omega) _ (by omega) _) (.as rfl rfl (.p rfl (zB zK) (.ng (.ret ?_))))))
  refine Block.rt ?_
  refine Next.rt ?_
  refine Ret.go (.cons (.tmp _ _ rfl) (.cons (.tmp _ _ rfl) .nil)) _ (Heap.le.refl _) ?_
  refine ⟨?_, rfl⟩
  obtain ⟨e1, e2⟩ := far_lo (neg := neg) (n := n) (e := e) (by omega)
  rw [e1, e2]
  rfl
 ·have hh11 := hg11; try simp only [decide_eq_false_iff_not] at hh11
  refine .gp rfl rfl rfl (by assumption) (zC (tm rfl)) (.gp rfl rfl rfl (by assumption) (zY (tm rfl) zE) (.gp rfl rfl rfl (by assumption) (zC (tm rfl)) ?_))
  refine zQ (t := 14) rfl (fun hg14 => ?_) (fun hg14 => ?_)
  ·have hh14 := hg14; try simp only [decide_eq_true_eq] at hh14
   refine .gp rfl rfl rfl (by assumption) (zC (tm rfl)) (.gp rfl rfl rfl (by assumption) (zC (tm rfl)) (.gp rfl rfl rfl (by assumption) (zR (tm rfl) (tm rfl) (by omega)) (.gp rfl rfl rfl (by assumption) (zY (tm rfl) zE) (.gp rfl rfl rfl (by assumption) (zN (tm rfl) (by assumption) (tm rfl)) (.p rfl (zM (tm rfl) (by assumption) (tm rfl)) (.as rfl rfl (.ng ?_)))))))
   refine AWP.cond (tm rfl) (fun hc8 => ?_) (fun hc8 => ?_)
   ·try simp only [decide_eq_true_eq] at hc8
    refine .sr (.mv rfl rfl (.cl rfl Tryz.call231 (.cons (tm rfl) (.cons (zJ 0) (.cons zE .nil))) (aeG _ _ (by omega) _ (by omega) _) (.as rfl rfl (.p rfl (zB zK) (.ng (.ret ?_))))))
    refine Block.rt ?_
    refine Next.rt ?_
    refine Ret.go (.cons (.tmp _ _ rfl) (.cons (.tmp _ _ rfl) .nil)) _ (Heap.le.refl _) ?_
    refine ⟨?_, rfl⟩
    obtain ⟨e1, e2⟩ := far_lo (neg := neg) (n := n) (e := e) (by omega)
    rw [e1, e2]
    rfl
   ·try simp only [decide_eq_false_iff_not, Int.not_lt] at hc8
    refine .sr (.mv rfl rfl (.p rfl (yF (tm rfl) zE) (.as rfl rfl (.ng ?_))))
    refine AWP.cond (tm rfl) (fun hc23 => ?_) (fun hc23 => ?_)
    ·try simp only [decide_eq_true_eq] at hc23
     refine .sr (.mv rfl rfl (.cl rfl Tryz.call231 (.cons (tm rfl) (.cons (zJ 4503599627370496) (.cons zE .nil))) (aeG _ _ (by omega) _ (by omega) _) (.as rfl rfl (.p rfl (zB zK) (.ng (.ret ?_))))))
     refine Block.rt ?_
     refine Next.rt ?_
     refine Ret.go (.cons (.tmp _ _ rfl) (.cons (.tmp _ _ rfl) .nil)) _ (Heap.le.refl _) ?_
     refine ⟨?_, rfl⟩
     obtain ⟨e1, e2⟩ := far_hi (neg := neg) (n := n) (e := e) (by omega) (by omega)
     rw [e1, e2]
     rfl
    ·try simp only [decide_eq_false_iff_not, Int.not_lt] at hc23
     refine .skip ?_
     refine Block.go ?_
     refine Next.go ?_
     refine .sr (.p rfl (zB (zJ 0)) (.p rfl (zB zK) (.ng (.ret ?_))))
     refine Ret.go (.cons (.tmp _ _ rfl) (.cons (.tmp _ _ rfl) .nil)) _ (Heap.le.refl _) ?_
     refine ⟨?_, rfl⟩
     obtain ⟨e1, e2⟩ := far_no (neg := neg) (n := n) (e := e) (by omega) (by omega)
     rw [e1, e2]
     rfl
  ·have hh14 := hg14; try simp only [decide_eq_false_iff_not, Int.not_lt] at hh14
   refine .gn rfl rfl rfl (by assumption) (.gn rfl rfl rfl (by assumption) (.gn rfl rfl rfl (by assumption) (.gn rfl rfl rfl (by assumption) (.gp rfl rfl rfl (by assumption) (zM (tm rfl) (by assumption) zK) (.p rfl (zM (tm rfl) (by assumption) (tm rfl)) (.as rfl rfl (.ng ?_)))))))
   refine AWP.cond_false (tm rfl) (by rfl) ?_
   refine .sr (.mv rfl rfl (.p rfl (yF (tm rfl) zE) (.as rfl rfl (.ng ?_))))
   refine AWP.cond (tm rfl) (fun hc23 => ?_) (fun hc23 => ?_)
   ·try simp only [decide_eq_true_eq] at hc23
    refine .sr (.mv rfl rfl (.cl rfl Tryz.call231 (.cons (tm rfl) (.cons (zJ 4503599627370496) (.cons zE .nil))) (aeG _ _ (by omega) _ (by omega) _) (.as rfl rfl (.p rfl (zB zK) (.ng (.ret ?_))))))
    refine Block.rt ?_
    refine Next.rt ?_
    refine Ret.go (.cons (.tmp _ _ rfl) (.cons (.tmp _ _ rfl) .nil)) _ (Heap.le.refl _) ?_
    refine ⟨?_, rfl⟩
    obtain ⟨e1, e2⟩ := far_hi (neg := neg) (n := n) (e := e) (by omega) (by omega)
    rw [e1, e2]
    rfl
   ·try simp only [decide_eq_false_iff_not, Int.not_lt] at hc23
    refine .skip ?_
    refine Block.go ?_
    refine Next.go ?_
    refine .sr (.p rfl (zB (zJ 0)) (.p rfl (zB zK) (.ng (.ret ?_))))
    refine Ret.go (.cons (.tmp _ _ rfl) (.cons (.tmp _ _ rfl) .nil)) _ (Heap.le.refl _) ?_
    refine ⟨?_, rfl⟩
    obtain ⟨e1, e2⟩ := far_no (neg := neg) (n := n) (e := e) (by omega) (by omega)
    rw [e1, e2]
    rfl
def dM (v : Nat) (k : Int) : Nat := if k ≤ 0 then v * 2 ^ (-k).toNat else v / 2 ^ k.toNat
def dH (v : Nat) (k : Int) : Bool := decide (0 < k ∧ v / 2 ^ (k.toNat - 1) % 2 = 1)
def dR (v : Nat) (k : Int) : Bool := decide (0 < k ∧ v % 2 ^ (k.toNat - 1) ≠ 0)
theorem if_iff {P Q : Prop} [Decidable P] [Decidable Q] (h : P ↔ Q) (a b : Nat) : (if P then a else b) = if Q then a else b := by
 by_cases hp : P
 ·rw [if_pos hp, if_pos (h.1 hp)]
 ·rw [if_neg hp, if_neg (fun q => hp (h.2 q))]
theorem mant_d (v : Nat) (e : Int) (more : Bool) :
  abJ v e more = if (dH v (yI v e - e) && (dR v (yI v e - e) || more || decide (((dM v (yI v e - e) &&& 1 : Nat) : Int) = ((1 : Nat) : Int)))) = true then dM v (yI v e - e) + 1 else dM v (yI v e - e) := by
 have e1 : ∀ x : Nat, (decide (((x &&& 1 : Nat) : Int) = ((1 : Nat) : Int))) = decide (x % 2 = 1) := fun x => by
  refine decide_eq_decide.2 ?_
  rw [show (1 : Nat) = 2 ^ 1 - 1 by decide, Nat.and_two_pow_sub_one_eq_mod]
  omega
 rw [e1]
 by_cases h : yI v e ≤ e
 ·have hd : dM v (yI v e - e) = abJ v e more := by
   rw [alK h]; unfold dM; rw [if_pos (by omega)]; congr 2; omega
  have hh : dH v (yI v e - e) = false := by unfold dH; exact decide_eq_false (by omega)
  rw [hh, Bool.false_and, if_neg (by decide), hd]
 ·have hd : dM v (yI v e - e) = v / 2 ^ (yI v e - e).toNat := by unfold dM; rw [if_neg (by omega)]
  have hp : 0 < yI v e - e := by omega
  rw [bdT (by omega), hd]
  have hH : dH v (yI v e - e) = decide (v / 2 ^ ((yI v e - e).toNat - 1) % 2 = 1) := by unfold dH; exact decide_eq_decide.2 ⟨fun q => q.2, fun q => ⟨hp, q⟩⟩
  have hR : dR v (yI v e - e) = decide (v % 2 ^ ((yI v e - e).toNat - 1) ≠ 0) := by unfold dR; exact decide_eq_decide.2 ⟨fun q => q.2, fun q => ⟨hp, q⟩⟩
  rw [hH, hR]
  refine if_iff ?_ _ _
  simp only [Bool.and_eq_true, Bool.or_eq_true, decide_eq_true_eq, or_assoc]

set_option maxRecDepth 100000 in
theorem aqF (neg : Bool) (n : Nat) (e : Int) (more : Bool) (hn : yQ n ≤ 100000) (he : -1000000000000000 ≤ e ∧ e ≤ 1000000000000000) (f : FuncId) (cap : List AV) (H : Heap) (hent : ∀ args w, (callFunc f args).run Tryz.prog w = .ok (.enter f args) w) (hf : baB n e = false → ACall Tryz.prog f ([.int .i64 (yI n e - e)] ++ cap) H (fun y H' => y = .tuple [.int .u64 ((dM n (yI n e - e) : Nat) : Int), .bool (dH n (yI n e - e)), .bool (dR n (yI n e - e))] ∧ H' = H)) : ACall Tryz.prog 191 [.bool neg, .int .i64 (yQ n : Int), .int .i64 e, .bool more, .func f cap] H (fun y H' => y = .int .u64 ((yM neg n e more : Nat) : Int) ∧ H' = H) := by
 have hmd := mant_d n e more
 have hml := agP n e more
 have hdm : dM n (yI n e - e) ≤ 9007199254740992 := by rw [hmd] at hml; split at hml <;> omega
 have hul := aoC n e
 have hur : yI n e ≤ 1000000000000000 + 100000 := by unfold yI; split <;> omega
 refine ACall.of_body Tryz.func191 rfl Tryz.ntmps191 Tryz.results191 rfl ?_
 refine .sr (.p rfl (zB (zJ 0)) (.ng (.seq (.sr (.mv rfl rfl (.mv rfl rfl (.mv rfl rfl (.cl rfl Tryz.call229 (evs3 rfl rfl rfl) (beR neg n e hn he _) ?_))))))))
 refine .mv rfl rfl (.p rfl (zD (tm rfl) rfl) (.p rfl (zD (tm rfl) rfl) (.as rfl rfl (.as rfl rfl (.nr (.mv rfl rfl (.ng ?_)))))))
 refine AWP.cond (tm rfl) (fun hc24 => ?_) (fun hc24 => ?_)
 ·try simp only [decide_eq_true_eq, decide_eq_false_iff_not, Bool.not_eq_true', Bool.not_eq_false', Int.not_lt, Int.not_le, ne_eq, Decidable.not_not] at hc24
  have hfar : baB n e = true := hc24
  refine .sr (.mv rfl rfl (.as rfl rfl (.ng (.ret ?_))))
  refine Next.rt ?_
  refine Ret.go (.cons (.tmp _ _ rfl) .nil) _ (Heap.le.refl _) ?_
  refine ⟨?_, rfl⟩
  rw [far_true hfar]; rfl
 ·try simp only [decide_eq_true_eq, decide_eq_false_iff_not, Bool.not_eq_true', Bool.not_eq_false', Int.not_lt, Int.not_le, ne_eq, Decidable.not_not] at hc24
  have hfar : baB n e = false := hc24
  obtain ⟨hf1, hf2, hf3, hf4⟩ := arU (neg := neg) (more := more) hfar
  have hup : yI n e ≤ 1000000 := by unfold yI; split <;> omega
  refine .skip ?_
  refine Next.go ?_
  refine .sr (.mv rfl rfl (.mv rfl rfl (.cl rfl Tryz.call230 (evs2 rfl rfl) (axP n e hn he _) (.as rfl rfl (.nr (.mv rfl rfl (.mv rfl rfl (.mv rfl rfl ?_))))))))
  refine .p rfl (zZ (tm rfl) (tm rfl) (by omega)) (.e rfl (apZ hent (tm rfl) (evs1 rfl) (hf hfar)) (.mv rfl rfl (.p rfl (zD (tm rfl) rfl) (.p rfl (zD (tm rfl) rfl) (.p rfl (zD (tm rfl) rfl) (.as rfl rfl (.as rfl rfl (.as rfl rfl ?_))))))))
  refine .ng ?_
  refine AWP.seqToL [(14, .int .u64 ((abJ n e more : Nat) : Int))] [0, 10, 13] ?_ ?_
  ·refine AWP.seqTo 49 (.bool ((dH n (yI n e - e) && (dR n (yI n e - e) || more || decide (((dM n (yI n e - e) &&& 1 : Nat) : Int) = ((1 : Nat) : Int)))))) [0, 10, 13, 14] ?_ ?_
   ·-- region 6
    refine .region (.mv rfl rfl (.mv rfl rfl ?_))
    refine zQ (t := 39) rfl (fun hg39 => ?_) (fun hg39 => ?_)
    ·refine .gp rfl rfl rfl (by assumption) (zC (tm rfl)) (.gp rfl rfl rfl (by assumption) (zC (tm rfl)) ?_)
     refine zQ (t := 41) rfl (fun hg41 => ?_) (fun hg41 => ?_)
     ·refine .gn rfl rfl rfl (by assumption) (.gp rfl rfl rfl (by assumption) (zN (tm rfl) (by assumption) zK) (.gp rfl rfl rfl (by assumption) (zC (tm rfl)) (.gn rfl rfl rfl (by rfl) (.gn rfl rfl rfl (by rfl) (.gn rfl rfl rfl (by rfl) (.gp rfl rfl rfl (by assumption) (zN (tm rfl) (by rfl) zK) (.p rfl (zN (tm rfl) (by assumption) (tm rfl)) (.nil ?_))))))))
      exact ⟨rfl, yV rfl (by (rw [show dH n (yI n e - e) = _ from hg39, show dR n (yI n e - e) = _ from hg41]; rfl)) (zA rfl (zA rfl (zA rfl (zA rfl zL)))), rfl⟩
     ·refine .gp rfl rfl rfl (by assumption) (zC (tm rfl)) (.gp rfl rfl rfl (by assumption) (zM (tm rfl) (by assumption) (tm rfl)) (.gp rfl rfl rfl (by assumption) (zC (tm rfl)) ?_))
      refine zQ (t := 44) rfl (fun hg44 => ?_) (fun hg44 => ?_)
      ·refine .gn rfl rfl rfl (by assumption) (.gn rfl rfl rfl (by assumption) (.gn rfl rfl rfl (by assumption) (.gp rfl rfl rfl (by assumption) (zN (tm rfl) (by assumption) zK) (.p rfl (zN (tm rfl) (by assumption) (tm rfl)) (.nil ?_)))))
       exact ⟨rfl, yV rfl (by (rw [show dH n (yI n e - e) = _ from hg39, show dR n (yI n e - e) = _ from hg41, show more = _ from hg44]; rfl)) (zA rfl (zA rfl (zA rfl (zA rfl zL)))), rfl⟩
      ·refine .gp rfl rfl rfl (by assumption) (zC (tm rfl)) (.gp rfl rfl rfl (by assumption) (abG (tm rfl) (zJ 1) (by omega) (by omega)) (.gp rfl rfl rfl (by assumption) (yA (tm rfl) (zJ 1)) (.gp rfl rfl rfl (by assumption) (zM (tm rfl) (by assumption) (tm rfl)) (.p rfl (zN (tm rfl) (by assumption) (tm rfl)) (.nil ?_)))))
       exact ⟨rfl, yV rfl (by (rw [show dH n (yI n e - e) = _ from hg39, show dR n (yI n e - e) = _ from hg41, show more = _ from hg44]; rfl)) (zA rfl (zA rfl (zA rfl (zA rfl zL)))), rfl⟩
    ·refine .gn rfl rfl rfl (by assumption) (.gn rfl rfl rfl (by assumption) ?_)
     refine AList.gdead rfl rfl rfl ?_
     refine .gn rfl rfl rfl (by assumption) (.gn rfl rfl rfl (by assumption) ?_)
     refine AList.gdead rfl rfl rfl ?_
     refine AList.gdead rfl rfl rfl ?_
     refine AList.gdead rfl rfl rfl ?_
     refine .gn rfl rfl rfl (by assumption) (.p rfl (zM (tm rfl) (by assumption) zK) (.nil ?_))
     exact ⟨rfl, yV rfl (by (rw [show dH n (yI n e - e) = _ from hg39]; rfl)) (zA rfl (zA rfl (zA rfl (zA rfl zL)))), rfl⟩
   ·refine AWP.sub [(49, _), (0, _), (10, _), (13, _), (14, _)] (zA rfl (zA rfl (zA rfl (zA rfl (zA rfl zL))))) ?_
    refine AWP.cond (tm rfl) (fun hc49 => ?_) (fun hc49 => ?_)
    ·try simp only [decide_eq_true_eq, decide_eq_false_iff_not, Bool.not_eq_true', Bool.not_eq_false', Int.not_lt, Int.not_le, ne_eq, Decidable.not_not] at hc49
     rw [if_pos hc49] at hmd
     refine .region (.mv rfl rfl (.p rfl (yL (tm rfl) (zJ 1) (by omega)) (.as rfl rfl (.nil ?_))))
     exact ⟨rfl, (yH rfl (by rw [hmd]) (zA rfl (zA rfl (zA rfl zL)))), rfl⟩
    ·try simp only [decide_eq_true_eq, decide_eq_false_iff_not, Bool.not_eq_true', Bool.not_eq_false', Int.not_lt, Int.not_le, ne_eq, Decidable.not_not] at hc49
     rw [if_neg (by rw [hc49]; decide)] at hmd
     refine .skip ?_
     exact ⟨rfl, (yH rfl (by rw [hmd]) (zA rfl (zA rfl (zA rfl zL)))), rfl⟩
  ·refine AWP.sub [(14, _), (0, _), (10, _), (13, _)] (zA rfl (zA rfl (zA rfl (zA rfl zL)))) ?_
   refine .sr (.mv rfl rfl (.mv rfl rfl (.mv rfl rfl (.cl rfl Tryz.call231 (evs3 rfl rfl rfl) (aeG neg _ hml _ (by constructor <;> omega) _) (.as rfl rfl (.ng (.ret ?_)))))))
   refine Ret.go (.cons (.tmp _ _ rfl) .nil) _ (Heap.le.refl _) ?_
   refine ⟨?_, rfl⟩
   rw [hf4]; rfl

set_option maxRecDepth 100000 in
theorem baE (v : Nat) (hv : v < M2) (k : Int) (hk : -52 ≤ k ∧ k ≤ 1000000) (h0 : k ≤ 0 → v * 2 ^ (-k).toNat < M1) (h1 : 0 < k → v / 2 ^ (k.toNat - 1) < 18014398509481984) (H : Heap) : ACall Tryz.prog 193 [.int .i64 k, .iptr (u2 v).cells] H (fun y H' => y = .tuple [.int .u64 ((dM v k : Nat) : Int), .bool (dH v k), .bool (dR v k)] ∧ H' = H) := by
 refine ACall.of_body Tryz.func193 rfl Tryz.ntmps193 Tryz.results193 rfl ?_
 refine .sr (.p rfl (zB (zJ 0)) (.p rfl (zB zK) (.p rfl (zB zK) (.ng (.seq (.sr (.mv rfl rfl (.p rfl (abM (tm rfl) zE) ?_))))))))
 refine .ng ?_
 refine AWP.cond (tm rfl) (fun hc9 => ?_) (fun hc9 => ?_)
 ·try simp only [decide_eq_true_eq] at hc9
  have hq := h0 (by omega)
  refine .sr (.p rfl (zU Tryz.isAgg122 Tryz.sizeOf122 (tm rfl) (Nat.le_of_ble_eq_true rfl)) (.mv rfl rfl (.p rfl (abB (tm rfl) (by omega)) (.cl rfl Tryz.call194 (evs2 rfl rfl) (afK v (-k).toNat (by omega) (-k) (by omega) _) (.p rfl (ajD Tryz.underlying122 rfl Tryz.isAgg30 Tryz.sizeOf30 (tm rfl) rfl) (.as rfl rfl (.p rfl (zB zK) (.p rfl (zB zK) ?_))))))))
  refine .ng (.ret ?_)
  refine Next.rt ?_
  refine Ret.go (.cons (.tmp _ _ rfl) (.cons (.tmp _ _ rfl) (.cons (.tmp _ _ rfl) .nil))) _ (Heap.le.refl _) ?_
  refine ⟨?_, rfl⟩
  have e1 : dM v k = v * 2 ^ (-k).toNat := by unfold dM; rw [if_pos (by omega)]
  have e2 : dH v k = false := by unfold dH; exact decide_eq_false (by omega)
  have e3 : dR v k = false := by unfold dR; exact decide_eq_false (by omega)
  have e4 : v * 2 ^ (-k).toNat % M2 % M1 = v * 2 ^ (-k).toNat := by rw [Nat.mod_eq_of_lt (Nat.lt_trans hq (by decide +kernel)), Nat.mod_eq_of_lt hq]
  rw [e1, e2, e3]
  show AV.tuple [.int .u64 ((v * 2 ^ (-k).toNat % M2 % M1 : Nat) : Int), _, _] = _
  rw [e4]
 ·try simp only [decide_eq_false_iff_not, Int.not_le] at hc9
  have hq := h1 (by omega)
  have hqm : v / 2 ^ (k.toNat - 1) % M1 < 18446744073709551616 := adZ _
  refine .skip ?_
  refine Next.go ?_
  refine .sr (.p rfl (zU Tryz.isAgg122 Tryz.sizeOf122 (tm rfl) (Nat.le_of_ble_eq_true rfl)) (.mv rfl rfl (.p rfl (zZ (tm rfl) zE (by omega)) (.cl rfl Tryz.call195 (evs2 rfl rfl) (axL v hv (k.toNat - 1) (by omega) (k - 1) (by omega) _) (.mv rfl rfl (.p rfl (zD (tm rfl) rfl) (.p rfl (zD (tm rfl) rfl) (.s rfl (zT Tryz.zeroValue122 (zr122)) ?_))))))))
  rintro _ _ ⟨b6, hb6, rfl, hH⟩
  obtain rfl := hH.symm
  refine .e0 (zH Tryz.sizeOf122 (tm rfl) (tm rfl) rfl rfl (.inr ⟨_, rfl⟩) (Heap.objs_set_same _ _ _) (Nat.le_of_ble_eq_true rfl)) ?_
  try first | rw [Heap.set_set] | rw [Heap.set_under (by assumption)]
  refine .as rfl rfl (.ng ?_)
  refine AWP.frz (t := 6) rfl (hb6) ?_
  refine .seq ?_
  refine AWP.draw [(0, true), (3, true), (4, true), (5, true), (6, true), (7, true), (1, false), (2, true), (8, true), (9, true), (10, true)] rfl (by decide +kernel) ?_
  refine .p rfl rfl (zU Tryz.isAgg122 Tryz.sizeOf122 (tm rfl) (Nat.le_of_ble_eq_true rfl)) (.p rfl rfl (zG Tryz.underlying122 rfl Tryz.sizeOf30 (tm rfl)) (.p rfl rfl (zF Tryz.isAgg30 (tm rfl)) (.p rfl rfl (abG (tm rfl) (zJ 1) (by assumption) (by omega)) (.p rfl rfl (yA (tm rfl) (zJ 1)) (.p rfl rfl (zC (tm rfl)) (.s rfl rfl (zP Tryz.call194 (.cons (tm rfl) (.cons zE .nil)) (afK (v / 2 ^ (k.toNat - 1)) 63 (by decide) 63 rfl _)) ?_))))))
  rintro _ _ ⟨rfl, hH⟩
  obtain rfl := hH.symm
  refine .p rfl rfl (ajD Tryz.underlying122 rfl Tryz.isAgg30 Tryz.sizeOf30 (tm rfl) rfl) (.p rfl rfl (zB (tm rfl)) (.p rfl rfl (zB (tm rfl)) (.p rfl rfl (zB (tm rfl)) (.nil ?_))))
  refine Next.go ?_
  refine .ret ?_
  refine Ret.go (.cons (.tmp _ _ rfl) (.cons (.tmp _ _ rfl) (.cons (.tmp _ _ rfl) .nil))) _ (Heap.le.refl _) ?_
  refine ⟨?_, rfl⟩
  have e1 : dM v k = v / 2 ^ k.toNat := by unfold dM; rw [if_neg (by omega)]
  have e2 : dH v k = decide (v / 2 ^ (k.toNat - 1) % 2 = 1) := by unfold dH; exact decide_eq_decide.2 ⟨fun q => q.2, fun q => ⟨by omega, q⟩⟩
  have e3 : dR v k = decide (v % 2 ^ (k.toNat - 1) ≠ 0) := by unfold dR; exact decide_eq_decide.2 ⟨fun q => q.2, fun q => ⟨by omega, q⟩⟩
  have e4 : v / 2 ^ (k.toNat - 1) * 2 ^ 63 % M2 / M1 = v / 2 ^ k.toNat := by rw [half_hi hq, awV (by omega)]
  have e5 : decide (((v / 2 ^ (k.toNat - 1) % M1 &&& 1 : Nat) : Int) = ((1 : Nat) : Int)) = decide (v / 2 ^ (k.toNat - 1) % 2 = 1) := by
   refine decide_eq_decide.2 ?_
   rw [Nat.mod_eq_of_lt (Nat.lt_trans hq (by decide +kernel)), show (1 : Nat) = 2 ^ 1 - 1 by decide, Nat.and_two_pow_sub_one_eq_mod]
   omega
  rw [e1, e2, e3]
  show AV.tuple [.int .u64 ((v / 2 ^ (k.toNat - 1) * 2 ^ 63 % M2 / M1 : Nat) : Int), .bool (decide (((v / 2 ^ (k.toNat - 1) % M1 &&& 1 : Nat) : Int) = ((1 : Nat) : Int))), _] = _
  rw [e4, e5]

theorem wLen2 (v : Nat) (hv : v < M2) (H : Heap) : ACall Tryz.prog 192 [u2 v] H (fun y H' => y = .int .i64 (yQ v : Int) ∧ H' = H) := by
 have h := axM (v / M1) (v % M1) (beI hv) (adZ v) H
 rw [show v / M1 * 18446744073709551616 + v % M1 = v from by have := Nat.div_add_mod v M1; rw [Nat.mul_comm] at this; exact this] at h
 exact h
theorem down_ok (v : Nat) (hv : v < M2) (e : Int) (hfar : baB v e = false) (H : Heap) : ACall Tryz.prog 193 ([.int .i64 (yI v e - e)] ++ [.iptr (u2 v).cells]) H (fun y H' => y = .tuple [.int .u64 ((dM v (yI v e - e) : Nat) : Int), .bool (dH v (yI v e - e)), .bool (dR v (yI v e - e))] ∧ H' = H) := by
 obtain ⟨h0, h1, h2, h3⟩ := arU (neg := false) (more := false) hfar
 have hb : yQ v ≤ 128 := qJ.2 (by rw [show (2 : Nat) ^ 128 = M2 by decide +kernel]; exact hv)
 refine baE v hv (yI v e - e) ⟨?_, ?_⟩ (fun q => ?_) (fun q => ?_) H
 ·rcases Int.lt_or_le e (yI v e) with h | h
  ·omega
  ·have := bbF h0 h; omega
 ·unfold yI; split <;> omega
 ·have := arQ (v := v) (e := e) (by omega)
  rw [show (-(yI v e - e)).toNat = (e - yI v e).toNat by omega]; exact this
 ·exact anV (by omega)

set_option maxRecDepth 100000 in
theorem aiS (neg : Bool) (v : Nat) (hv : v < M2) (e : Int) (he : -1000000000000000 ≤ e ∧ e ≤ 1000000000000000) (more : Bool) (H : Heap) : ACall Tryz.prog 147 [.bool neg, u2 v, .int .i64 e, .bool more] H (fun y H' => y = .int .u64 ((yM neg v e more : Nat) : Int) ∧ H' = H) := by
 refine ACall.of_body Tryz.func147 rfl Tryz.ntmps147 Tryz.results147 rfl ?_
 refine .sr (.e rfl (yR (tm rfl) (.inr ⟨_, rfl⟩)) (.p rfl (zB (zJ 0)) (.nr (.mv rfl rfl (.p rfl (zU Tryz.isAgg122 Tryz.sizeOf122 (tm rfl) (Nat.le_of_ble_eq_true rfl)) (.cl rfl Tryz.call192 (evs1 rfl) (wLen2 v hv _) (.mv rfl rfl (.mv rfl rfl ?_))))))))
 refine .p rfl (ayU (tm rfl)) ?_
 refine .cl rfl Tryz.call191 (.cons (tm rfl) (.cons (tm rfl) (evs3 rfl rfl rfl))) (aqF neg v e more (by have : yQ v ≤ 128 := qJ.2 (by rw [show (2 : Nat) ^ 128 = M2 by decide +kernel]; exact hv); omega) he 193 [.iptr (u2 v).cells] _ Tryz.call193 (fun hfar => down_ok v hv e hfar _)) ?_
 refine .as rfl rfl (.ng (.ret ?_))
 refine Ret.go (.cons (.tmp _ _ rfl) .nil) _ (Heap.le.refl _) ?_
 exact ⟨rfl, rfl⟩
def amK (k : Int) : Int := if k < 0 then -((yQ (10 ^ (-k).toNat) + 127 : Nat) : Int) else (yQ (10 ^ k.toNat) : Int) - 128
def aeX (k : Int) : Nat :=
 if k < 0 then 2 ^ (yQ (10 ^ (-k).toNat) + 127) / 10 ^ (-k).toNat
 else if yQ (10 ^ k.toNat) ≤ 128 then 10 ^ k.toNat * 2 ^ (128 - yQ (10 ^ k.toNat))
 else 10 ^ k.toNat / 2 ^ (yQ (10 ^ k.toNat) - 128)
def asJ (k : Int) : Bool := if k < 0 then false else decide (yQ (10 ^ k.toNat) ≤ 128 ∨ 10 ^ k.toNat % 2 ^ (yQ (10 ^ k.toNat) - 128) = 0)
def agL (m : Nat) (k : Int) : Nat :=
 if 0 ≤ k then yM false (m * 10 ^ k.toNat) 0 false else aqR m (10 ^ (-k).toNat) (yQ (10 ^ (-k).toNat) + 127)
def agD (m : Nat) (k : Int) : Nat := yM false (aeX k * m) (amK k) false
def akV (m : Nat) (k : Int) : Bool := asJ k || decide (yM false ((aeX k + 1) * m) (amK k) false = agD m k)
def aoF (m : Nat) (k : Int) : Nat := yQ (10 ^ (-k).toNat) + 66 - yQ m
def akC (m : Nat) (k : Int) : Nat := if 0 ≤ k then yM false (m * 10 ^ k.toNat) 0 false else aqR m (10 ^ (-k).toNat) (aoF m k)

theorem abH (j : Nat) : 0 < 10 ^ j := Nat.pow_pos (by decide)
theorem ten_two (j : Nat) : 10 ^ j < 2 ^ (4 * j + 1) := by
 refine Nat.lt_of_le_of_lt (Nat.pow_le_pow_left (show 10 ≤ 2 ^ 4 by decide) j) ?_
 rw [← Nat.pow_mul]
 exact Nat.pow_lt_pow_right (by decide) (by omega)
theorem afL (j : Nat) : yQ (10 ^ j) ≤ 4 * j + 1 := qJ.2 (ten_two j)
theorem acS {n : Nat} (h : 0 < n) : 0 < yQ n := aaW.2 (by rw [Nat.pow_zero]; exact h)
theorem alZ {n : Nat} (h : 0 < n) : 2 ^ (yQ n - 1) ≤ n := aaW.1 (by have := acS h; omega)
theorem adX (n : Nat) : n < 2 ^ yQ n := qJ.1 (Nat.le_refl _)
theorem atH {m b K p : Nat} (hm : 0 < m) (hp : 0 < p) (hb : 0 < b) (hK : K ≤ 10000) (h1 : p * b ≤ 2 ^ K) (h2 : 2 ^ K < (p + 1) * b) :
  yM false (p * m) (-(K : Int)) false ≤ aqR m b K ∧ aqR m b K ≤ yM false ((p + 1) * m) (-(K : Int)) false := by
 have hpm : 0 < p * m := Nat.mul_pos hp hm
 have e1 : p * m ≤ m * 2 ^ K / b := by
  rw [Nat.le_div_iff_mul_le hb, Nat.mul_comm p m, Nat.mul_assoc]
  exact Nat.mul_le_mul_left _ h1
 have e2 : m * 2 ^ K / b < (p + 1) * m := by
  rw [Nat.div_lt_iff_lt_mul hb, Nat.mul_comm (p + 1) m, Nat.mul_assoc]
  exact Nat.mul_lt_mul_of_pos_left h2 hm
 unfold aqR
 constructor
 ·refine aeA (by omega) (by omega) hpm ?_
  rcases Nat.lt_or_eq_of_le e1 with h | h
  ·exact .inl h
  ·exact .inr ⟨h, fun q => by cases q⟩
 ·exact aeA (by omega) (by omega) (by omega) (.inl e2)
theorem auA {m t p j : Nat} (hm : 0 < m) (hj : j ≤ 2000) (hb : 55 ≤ yQ p) (h1 : p * 2 ^ j ≤ t) (h2 : t < (p + 1) * 2 ^ j) :
  yM false (p * m) (j : Int) false ≤ yM false (m * t) 0 false ∧ yM false (m * t) 0 false ≤ yM false ((p + 1) * m) (j : Int) false := by
 have hj0 : 0 < 2 ^ j := Nat.pow_pos (by decide)
 have hp : 0 < p := by
  rcases Nat.eq_zero_or_pos p with h | h
  ·subst h; have := qJ.2 (show 0 < 2 ^ 0 by decide); omega
  ·exact h
 have hpm : 0 < p * m := Nat.mul_pos hp hm
 have e1 : p * m ≤ m * t / 2 ^ j := by
  rw [Nat.le_div_iff_mul_le hj0, Nat.mul_comm p m, Nat.mul_assoc]
  exact Nat.mul_le_mul_left _ h1
 have e2 : m * t / 2 ^ j < (p + 1) * m := by
  rw [Nat.div_lt_iff_lt_mul hj0, Nat.mul_comm (p + 1) m, Nat.mul_assoc]
  exact Nat.mul_lt_mul_of_pos_left h2 hm
 have hbl : 55 ≤ yQ (m * t / 2 ^ j) := Nat.le_trans hb (aeL (Nat.le_trans (Nat.le_mul_of_pos_right _ hm) e1))
 rw [akO (n := m * t) (j := j) hbl (by omega) (by omega), show (0 : Int) + (j : Int) = (j : Int) by omega]
 constructor
 ·refine aeA (by omega) (by omega) hpm ?_
  rcases Nat.lt_or_eq_of_le e1 with h | h
  ·exact .inl h
  ·exact .inr ⟨h, fun q => by cases q⟩
 ·exact aeA (by omega) (by omega) (by omega) (.inl e2)
theorem atT {j : Nat} : 0 < 2 ^ (yQ (10 ^ j) + 127) / 10 ^ j := by
 rw [Nat.div_pos_iff]
 refine ⟨abH j, Nat.le_trans (Nat.le_of_lt (adX _)) (Nat.pow_le_pow_right (by decide) (by omega))⟩
theorem atN {m : Nat} {k : Int} (hm : 0 < m) (hk : -400 ≤ k ∧ k ≤ 400) (h : akV m k = true) : agD m k = agL m k := by
 unfold akV agD at h
 unfold agD agL
 rcases Int.lt_or_le k 0 with hn | hn
 ·rw [if_neg (by omega)]
  have hA : asJ k = false := by unfold asJ; rw [if_pos hn]
  have hE : amK k = -((yQ (10 ^ (-k).toNat) + 127 : Nat) : Int) := by unfold amK; rw [if_pos hn]
  have hP : aeX k = 2 ^ (yQ (10 ^ (-k).toNat) + 127) / 10 ^ (-k).toNat := by unfold aeX; rw [if_pos hn]
  rw [hA, Bool.false_or, decide_eq_true_eq] at h
  have hbl := afL (-k).toNat
  have ht := abH (-k).toNat
  have hp := @atT (-k).toNat
  rw [hE, hP] at h
  rw [hE, hP]
  generalize hK : yQ (10 ^ (-k).toNat) + 127 = K at *
  obtain ⟨a, b⟩ := atH (m := m) (b := 10 ^ (-k).toNat) (K := K) (p := 2 ^ K / 10 ^ (-k).toNat) hm hp ht (by omega) (Nat.div_mul_le_self _ _) (by
    have := Nat.lt_succ_self (2 ^ K / 10 ^ (-k).toNat)
    exact (Nat.div_lt_iff_lt_mul ht).1 this)
  rw [h] at b
  exact Nat.le_antisymm a b
 ·rw [if_pos hn]
  have hE : amK k = (yQ (10 ^ k.toNat) : Int) - 128 := by unfold amK; rw [if_neg (by omega)]
  have hbl := afL k.toNat
  have ht := abH k.toNat
  rcases Nat.lt_or_ge 128 (yQ (10 ^ k.toNat)) with hl | hl
  ·have hP : aeX k = 10 ^ k.toNat / 2 ^ (yQ (10 ^ k.toNat) - 128) := by unfold aeX; rw [if_neg (by omega), if_neg (by omega)]
   have hA : asJ k = decide (10 ^ k.toNat % 2 ^ (yQ (10 ^ k.toNat) - 128) = 0) := by
    unfold asJ; rw [if_neg (by omega)]; exact decide_eq_decide.2 ⟨fun q => q.resolve_left (by omega), .inr⟩
   have hj : (yQ (10 ^ k.toNat) : Int) - 128 = ((yQ (10 ^ k.toNat) - 128 : Nat) : Int) := by omega
   rw [hE, hj, hP, hA] at h
   rw [hE, hj, hP]
   have hb : yQ (10 ^ k.toNat / 2 ^ (yQ (10 ^ k.toNat) - 128)) = 128 := by
    have hpos : 0 < 10 ^ k.toNat / 2 ^ (yQ (10 ^ k.toNat) - 128) := by
     rw [Nat.div_pos_iff]
     exact ⟨Nat.pow_pos (by decide), Nat.le_trans (Nat.pow_le_pow_right (by decide) (by omega)) (alZ ht)⟩
    have := auX hpos
    omega
   generalize hjj : yQ (10 ^ k.toNat) - 128 = j at *
   generalize htt : 10 ^ k.toNat = t at *
   have hj0 : 0 < 2 ^ j := Nat.pow_pos (by decide)
   rw [Bool.or_eq_true, decide_eq_true_eq, decide_eq_true_eq] at h
   rcases h with h | h
   ·have e : m * t = t / 2 ^ j * m * 2 ^ j := by
     have := Nat.div_add_mod t (2 ^ j)
     rw [h, Nat.add_zero] at this
     conv => lhs; rw [← this]
     rw [Nat.mul_comm (2 ^ j), ← Nat.mul_assoc, Nat.mul_comm m]
    rw [e, adJ (by omega) (by omega), show (0 : Int) + (j : Int) = (j : Int) by omega]
   ·obtain ⟨a, b⟩ := auA (m := m) (t := t) (p := t / 2 ^ j) (j := j) hm (by omega) (by omega) (Nat.div_mul_le_self _ _) ((Nat.div_lt_iff_lt_mul hj0).1 (Nat.lt_succ_self _))
    rw [h] at b
    exact Nat.le_antisymm a b
  ·have hP : aeX k = 10 ^ k.toNat * 2 ^ (128 - yQ (10 ^ k.toNat)) := by unfold aeX; rw [if_neg (by omega), if_pos hl]
   rw [hE, hP, show (yQ (10 ^ k.toNat) : Int) - 128 = -((128 - yQ (10 ^ k.toNat) : Nat) : Int) by omega]
   rw [show 10 ^ k.toNat * 2 ^ (128 - yQ (10 ^ k.toNat)) * m = m * 10 ^ k.toNat * 2 ^ (128 - yQ (10 ^ k.toNat)) by rw [Nat.mul_comm _ m, ← Nat.mul_assoc]]
   rw [adJ (by omega) (by omega)]
   congr 1; omega
theorem aqC {m : Nat} {k : Int} (hm : 0 < m) (hk : -2000 ≤ k) : akC m k = agL m k := by
 unfold akC agL
 split
 ·rfl
 ·rename_i hn
  have hbl := afL (-k).toNat
  have ht := abH (-k).toNat
  have hb := acS hm
  refine (avT ht ?_ (by unfold aoF; omega) (by omega)).symm
  have h1 := alZ hm
  have h2 := adX (10 ^ (-k).toNat)
  have h3 : 2 ^ 65 ≤ m * 2 ^ aoF m k / 10 ^ (-k).toNat := by
   rw [Nat.le_div_iff_mul_le ht]
   refine Nat.le_trans (Nat.mul_le_mul_left _ (Nat.le_of_lt h2)) (Nat.le_trans ?_ (Nat.mul_le_mul_right _ h1))
   rw [← Nat.pow_add, ← Nat.pow_add]
   exact Nat.pow_le_pow_right (by decide) (by unfold aoF; omega)
  have := aaW.2 h3
  omega
theorem abL (n : Nat) (e : Int) (more : Bool) : yM false n e more ≤ ajF := by
 unfold yM
 split
 ·exact Nat.zero_le _
 ·split
  ·exact Nat.le_of_eq (by unfold aaD; simp)
  ·rw [aoW]
   have h := agP n e more
   unfold aaD pk
   rw [if_neg (by decide), Nat.zero_add]
   split
   ·exact arC _ _ (by decide)
   ·exact arC _ _ (by omega)
end Go.Proofs.YtfkeflcdadlmdaaGreatDoor
