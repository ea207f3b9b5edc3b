/-
  Rounding to binary64, as a function of naturals: what is far below may be told as 'a little more';
  it goes up with what is rounded; it may be scaled; a fraction may be worked out to any places.
-/
import Derived.Test.YtfkeflcdadlmdaaGreatDoorN1
import Derived.Test.YtfkeflcdadlmdaaGreatDoorP1
import Derived.Test.YtfkeflcdadlmdaaGreatDoorSsk
import Derived.Test.YtfkeflcdadlmdaaGreatDoorX1
namespace Go.Proofs.YtfkeflcdadlmdaaGreatDoor
open Go Go.RowKit

def rne (n k : Nat) (more : Bool) : Nat :=
 if n / 2 ^ (k - 1) % 2 = 1 ∧ (n % 2 ^ (k - 1) ≠ 0 ∨ more = true ∨ n / 2 ^ k % 2 = 1) then n / 2 ^ k + 1 else n / 2 ^ k
def unitN (n : Nat) (e : Int) : Int := if e + blen n - 53 < -1074 then -1074 else e + blen n - 53
def mantN (n : Nat) (e : Int) (more : Bool) : Nat := if unitN n e ≤ e then n * 2 ^ (e - unitN n e).toNat else rne n (unitN n e - e).toNat more
def infN : Nat := 9218868437227405312
def signN (neg : Bool) : Nat := if neg = true then 9223372036854775808 else 0
def packM (m : Nat) (u : Int) : Nat :=
 if m < 4503599627370496 then m
 else if u + 1075 ≥ 2047 then infN
 else m + (u + 1074).toNat * 4503599627370496
def packN (neg : Bool) (m : Nat) (u : Int) : Nat := signN neg + (if m = 9007199254740992 then packM 4503599627370496 (u + 1) else packM m u)
def roundN (neg : Bool) (n : Nat) (e : Int) (more : Bool) : Nat :=
 if n = 0 ∨ (e < -10000 ∧ e + blen n < -2000) then signN neg
 else if 2000 < e then signN neg + infN
 else packN neg (mantN n e more) (unitN n e)
theorem blen_hi {n j : Nat} (h : 0 < n / 2 ^ j) : blen n = blen (n / 2 ^ j) + j := by
 have h1 : blen n ≤ blen (n / 2 ^ j) + j := by
  rw [qI, Nat.pow_add]
  exact (Nat.div_lt_iff_lt_mul (Nat.pow_pos (by decide))).1 (qI.1 (Nat.le_refl _))
 have h2 : blen (n / 2 ^ j) + j ≤ blen n := by
  have hb : 0 < blen (n / 2 ^ j) := aaS.2 (by rw [Nat.pow_zero]; exact h)
  have h3 : 2 ^ (blen (n / 2 ^ j) - 1) ≤ n / 2 ^ j := aaS.1 (by omega)
  have h4 : 2 ^ (blen (n / 2 ^ j) - 1 + j) ≤ n := by
   rw [Nat.pow_add]
   exact Nat.le_trans (Nat.mul_le_mul_right _ h3) (Nat.div_mul_le_self _ _)
  have := aaS.2 h4
  omega
 omega
theorem rne_cut {n j k : Nat} {more : Bool} (hk : 2 ≤ k) : rne n (k + j) more = rne (n / 2 ^ j) k (more || decide (n % 2 ^ j ≠ 0)) := by
 have e1 : n / 2 ^ (k + j) = n / 2 ^ j / 2 ^ k := by rw [Nat.div_div_eq_div_mul, ← Nat.pow_add, Nat.add_comm]
 have e2 : n / 2 ^ (k + j - 1) = n / 2 ^ j / 2 ^ (k - 1) := by rw [Nat.div_div_eq_div_mul, ← Nat.pow_add, show k + j - 1 = j + (k - 1) by omega]
 have e3 : n % 2 ^ (k + j - 1) ≠ 0 ↔ (n % 2 ^ j ≠ 0 ∨ n / 2 ^ j % 2 ^ (k - 1) ≠ 0) := by
  rw [show k + j - 1 = j + (k - 1) by omega, Nat.pow_add, Nat.mod_mul]
  have h : 0 < 2 ^ j := Nat.pow_pos (by decide)
  constructor
  ·intro q
   by_cases h1 : n % 2 ^ j = 0
   ·right; intro h2; rw [h1, h2] at q; simp at q
   ·exact .inl h1
  ·rintro (q | q) h1
   ·omega
   ·have : 0 < 2 ^ j * (n / 2 ^ j % 2 ^ (k - 1)) := Nat.mul_pos h (Nat.pos_of_ne_zero q)
    omega
 unfold rne
 rw [e1, e2]
 have e4 : (n % 2 ^ (k + j - 1) ≠ 0 ∨ more = true ∨ n / 2 ^ j / 2 ^ k % 2 = 1) ↔ (n / 2 ^ j % 2 ^ (k - 1) ≠ 0 ∨ (more || decide (n % 2 ^ j ≠ 0)) = true ∨ n / 2 ^ j / 2 ^ k % 2 = 1) := by
  rw [e3, Bool.or_eq_true, decide_eq_true_eq]
  constructor
  ·rintro ((h | h) | h | h)
   ·exact .inr (.inl (.inr h))
   ·exact .inl h
   ·exact .inr (.inl (.inl h))
   ·exact .inr (.inr h)
  ·rintro (h | (h | h) | h)
   ·exact .inl (.inr h)
   ·exact .inr (.inl h)
   ·exact .inl (.inl h)
   ·exact .inr (.inr h)
 simp only [e4]
theorem avK {neg : Bool} {n j : Nat} {e : Int} {more : Bool} (hb : 55 ≤ blen (n / 2 ^ j)) (he : -10000 ≤ e) (he2 : e ≤ 2000) :
  roundN neg n e more = roundN neg (n / 2 ^ j) (e + j) (more || decide (n % 2 ^ j ≠ 0)) := by
 have hp : 0 < n / 2 ^ j := by
  have := aaS.1 (show 0 < blen (n / 2 ^ j) by omega)
  rw [Nat.pow_zero] at this; exact this
 have hn : 0 < n := by
  rcases Nat.eq_zero_or_pos n with h | h
  ·subst h; simp at hp
  ·exact h
 have hl := blen_hi hp
 have hu : unitN n e = unitN (n / 2 ^ j) (e + j) := by unfold unitN; rw [hl]; split <;> split <;> omega
 have hu2 : unitN n e ≥ e + j + 2 := by unfold unitN; split <;> omega
 have hm : mantN n e more = mantN (n / 2 ^ j) (e + j) (more || decide (n % 2 ^ j ≠ 0)) := by
  unfold mantN
  rw [if_neg (by omega), ← hu, if_neg (by omega), show (unitN n e - e).toNat = (unitN n e - (e + j)).toNat + j by omega]
  exact rne_cut (by omega)
 unfold roundN
 rw [if_neg (by omega), if_neg (by omega), if_neg (by omega), hm, hu]
 by_cases h2 : 2000 < e + (j : Int)
 ·rw [if_pos h2]
  -- far above: endless
  have hu3 : unitN (n / 2 ^ j) (e + j) = e + j + blen (n / 2 ^ j) - 53 := by unfold unitN; split <;> omega
  have hge : 4503599627370496 ≤ mantN (n / 2 ^ j) (e + j) (more || decide (n % 2 ^ j ≠ 0)) := by
   unfold mantN
   rw [if_neg (by omega)]
   have h5 : 2 ^ 52 ≤ n / 2 ^ j / 2 ^ (unitN (n / 2 ^ j) (e + j) - (e + j)).toNat := by
    rw [Nat.le_div_iff_mul_le (Nat.pow_pos (by decide)), ← Nat.pow_add]
    refine aaS.1 ?_
    omega
   unfold rne
   split <;> omega
  unfold packN
  split
  ·unfold packM; rw [if_neg (by omega), if_pos (by omega)]
  ·unfold packM; rw [if_neg (by omega), if_pos (by omega)]
 ·rw [if_neg h2]
theorem rne_mono {n1 n2 k : Nat} {m1 m2 : Bool} (hk : 1 ≤ k) (h : n1 < n2 ∨ (n1 = n2 ∧ (m1 = true → m2 = true))) : rne n1 k m1 ≤ rne n2 k m2 := by
 have hn : n1 ≤ n2 := by omega
 have hp : 2 ^ k = 2 ^ (k - 1) * 2 := by rw [← Nat.pow_succ, show (k - 1).succ = k by omega]
 have hq : n1 / 2 ^ (k - 1) ≤ n2 / 2 ^ (k - 1) := Nat.div_le_div_right hn
 have e1 : n1 / 2 ^ k = n1 / 2 ^ (k - 1) / 2 := by rw [hp, Nat.div_div_eq_div_mul]
 have e2 : n2 / 2 ^ k = n2 / 2 ^ (k - 1) / 2 := by rw [hp, Nat.div_div_eq_div_mul]
 have d1 := Nat.div_add_mod n1 (2 ^ (k - 1))
 have d2 := Nat.div_add_mod n2 (2 ^ (k - 1))
 unfold rne
 rw [e1, e2]
 generalize n1 / 2 ^ (k - 1) = q1 at *
 generalize n2 / 2 ^ (k - 1) = q2 at *
 generalize hr1 : n1 % 2 ^ (k - 1) = r1 at *
 generalize hr2 : n2 % 2 ^ (k - 1) = r2 at *
 rcases Nat.lt_or_ge q1 q2 with hlt | hge
 ·-- a whole half apart: only q2 = q1 + 1 with q1 odd, q2 even or q1 even, q2 odd matter
  split <;> split <;> omega
 ·have hqe : q1 = q2 := by omega
  subst hqe
  have hrr : r1 < r2 ∨ (r1 = r2 ∧ (m1 = true → m2 = true)) := by
   rcases h with h | ⟨h, hm⟩
   ·left; omega
   ·right; exact ⟨by omega, hm⟩
  split
  ·rename_i c1
   rw [if_pos]
   ·exact Nat.le_refl _
   ·refine ⟨c1.1, ?_⟩
    rcases c1.2 with c | c | c
    ·left; omega
    ·rcases hrr with hrr | ⟨_, hm⟩
     ·left; omega
     ·exact .inr (.inl (hm c))
    ·exact .inr (.inr c)
  ·split <;> omega
def pk (m : Nat) (u : Int) : Nat := if m = 9007199254740992 then packM 4503599627370496 (u + 1) else packM m u
theorem alZ (m : Nat) (u : Int) (h : m < 9007199254740992) : packM m u ≤ infN := by
 unfold packM infN
 split
 ·omega
 ·split <;> omega
theorem aoN {m1 m2 : Nat} {u : Int} (hu : -1074 ≤ u) (h : m1 ≤ m2) (h2 : m2 ≤ 9007199254740992) : pk m1 u ≤ pk m2 u := by
 unfold pk packM infN
 repeat' split
 all_goals omega
theorem pk_next {m : Nat} {u : Int} (hu : -1074 ≤ u) (h : m ≤ 9007199254740992) : pk m u ≤ packM 4503599627370496 (u + 1) := by
 have := aoN hu h (Nat.le_refl _)
 unfold pk at this ⊢
 rw [if_pos rfl] at this
 exact this
theorem packM_up {u1 u2 : Int} (h1 : -1074 ≤ u1) (h : u1 ≤ u2) : packM 4503599627370496 u1 ≤ packM 4503599627370496 u2 := by
 unfold packM infN
 repeat' split
 all_goals omega
theorem apP (n : Nat) (e : Int) : -1074 ≤ unitN n e := by unfold unitN; split <;> omega
theorem anE {a b : Nat} (h : a ≤ b) : blen a ≤ blen b := qI.2 (Nat.lt_of_le_of_lt h (qI.1 (Nat.le_refl _)))
theorem auQ {a b : Nat} (h : a ≤ b) (e : Int) : unitN a e ≤ unitN b e := by
 have := anE h
 unfold unitN; split <;> split <;> omega
theorem rne_le {n k b : Nat} {more : Bool} (h : n < 2 ^ (b + k)) : rne n k more ≤ 2 ^ b := by
 have : n / 2 ^ k < 2 ^ b := by rw [Nat.div_lt_iff_lt_mul (Nat.pow_pos (by decide)), ← Nat.pow_add]; exact h
 unfold rne; split <;> omega
theorem aeS (n : Nat) (e : Int) (more : Bool) : mantN n e more ≤ 9007199254740992 := by
 have hn : n < 2 ^ blen n := qI.1 (Nat.le_refl _)
 have e53 : (9007199254740992 : Nat) = 2 ^ 53 := by decide
 unfold mantN
 split
 ·rename_i h
  have hb : blen n + (e - unitN n e).toNat ≤ 53 := by unfold unitN at *; split at h <;> omega
  rw [e53]
  refine Nat.le_trans ?_ (Nat.pow_le_pow_right (by decide) hb)
  rw [Nat.pow_add]
  exact Nat.mul_le_mul_right _ (Nat.le_of_lt hn)
 ·rename_i h
  rw [e53]
  refine rne_le (Nat.lt_of_lt_of_le hn (Nat.pow_le_pow_right (by decide) ?_))
  unfold unitN at *; split at h <;> omega
theorem mant_ge {n : Nat} {e : Int} {more : Bool} (h : -1074 < unitN n e) (hn : 0 < n) : 4503599627370496 ≤ mantN n e more := by
 have hb : 2 ^ (blen n - 1) ≤ n := aaS.1 (by have := aaS.2 (show 2 ^ 0 ≤ n from hn); omega)
 have hb0 : 0 < blen n := aaS.2 (show 2 ^ 0 ≤ n from hn)
 have e52 : (4503599627370496 : Nat) = 2 ^ 52 := by decide
 have hu : unitN n e = e + blen n - 53 := by unfold unitN at *; split at h <;> omega
 unfold mantN
 split
 ·rw [e52]
  refine Nat.le_trans (Nat.pow_le_pow_right (by decide) (show 52 ≤ blen n - 1 + (e - unitN n e).toNat by omega)) ?_
  rw [Nat.pow_add]
  exact Nat.mul_le_mul_right _ hb
 ·have h5 : 2 ^ 52 ≤ n / 2 ^ (unitN n e - e).toNat := by
   rw [Nat.le_div_iff_mul_le (Nat.pow_pos (by decide)), ← Nat.pow_add]
   refine Nat.le_trans (Nat.pow_le_pow_right (by decide) ?_) hb
   omega
  unfold rne
  split <;> omega
theorem avS (neg : Bool) (m : Nat) (u : Int) : packN neg m u = signN neg + pk m u := rfl
theorem asB {n1 n2 : Nat} {e : Int} {m1 m2 : Bool} (he : -10000 ≤ e) (he2 : e ≤ 2000) (hn : 0 < n1) (h : n1 < n2 ∨ (n1 = n2 ∧ (m1 = true → m2 = true))) : roundN false n1 e m1 ≤ roundN false n2 e m2 := by
 have hle : n1 ≤ n2 := by omega
 unfold roundN
 rw [if_neg (by omega), if_neg (by omega), if_neg (by omega), if_neg (by omega), avS, avS]
 refine Nat.add_le_add_left ?_ _
 have hu := auQ hle e
 have l1 := apP n1 e
 rcases Int.lt_or_eq_of_le hu with hlt | heq
 ·refine Nat.le_trans (pk_next l1 (aeS _ _ _)) (Nat.le_trans (packM_up (by omega) (show unitN n1 e + 1 ≤ unitN n2 e by omega)) ?_)
  have hg := mant_ge (more := m2) (show -1074 < unitN n2 e by omega) (show 0 < n2 by omega)
  have := aoN (u := unitN n2 e) (by omega) hg (aeS _ _ _)
  unfold pk at this ⊢
  rw [if_neg (by decide)] at this
  exact this
 ·rw [← heq]
  refine aoN l1 ?_ (aeS _ _ _)
  unfold mantN
  rw [← heq]
  split
  ·exact Nat.mul_le_mul_right _ hle
  ·exact rne_mono (by omega) h
def ratN (a b k : Nat) : Nat := roundN false (a * 2 ^ k / b) (-(k : Int)) (decide (a * 2 ^ k % b ≠ 0))
theorem avW {m : Nat} (h : m < 9223372036854775808) : (m ||| 9223372036854775808) = 9223372036854775808 + m := by
 have := aoR (a := m) (b := 1) (k := 63) (by rw [show (2 : Nat) ^ 63 = 9223372036854775808 by decide]; exact h)
 rw [show 1 * (2 : Nat) ^ 63 = 9223372036854775808 by decide] at this
 omega
theorem packM_lt {m : Nat} {u : Int} (hm : m ≤ 9007199254740991) : packM m u ≤ infN := by
 unfold packM infN
 split
 ·omega
 ·split <;> omega
theorem mant_up {v : Nat} {e : Int} {more : Bool} (h : e < unitN v e) :
  mantN v e more = (if v / 2 ^ ((unitN v e - e).toNat - 1) % 2 = 1 ∧ (v % 2 ^ ((unitN v e - e).toNat - 1) ≠ 0 ∨ more = true ∨ v / 2 ^ (unitN v e - e).toNat % 2 = 1) then v / 2 ^ (unitN v e - e).toNat + 1 else v / 2 ^ (unitN v e - e).toNat) := by
 unfold mantN
 rw [if_neg (by omega)]; rfl
theorem amE {v : Nat} {e : Int} {more : Bool} (h : unitN v e ≤ e) : mantN v e more = v * 2 ^ (e - unitN v e).toNat := by
 unfold mantN
 rw [if_pos h]
theorem atV {v : Nat} {e : Int} (h : e < unitN v e) : v / 2 ^ ((unitN v e - e).toNat - 1) < 18014398509481984 := by
 have hn : v < 2 ^ blen v := qI.1 (Nat.le_refl _)
 rw [Nat.div_lt_iff_lt_mul (Nat.pow_pos (by decide)), show (18014398509481984 : Nat) = 2 ^ 54 by decide, ← Nat.pow_add]
 refine Nat.lt_of_lt_of_le hn (Nat.pow_le_pow_right (by decide) ?_)
 unfold unitN at *
 split at h <;> omega
theorem half_hi {x : Nat} (h : x < 18014398509481984) : x * 2 ^ 63 % M2 / M1 = x / 2 := by
 have e63 : (2 : Nat) ^ 63 = 9223372036854775808 := by decide
 rw [e63]; unfold M1 M2; omega
theorem div_half {v k : Nat} (hk : 1 ≤ k) : v / 2 ^ (k - 1) / 2 = v / 2 ^ k := by
 rw [Nat.div_div_eq_div_mul, ← Nat.pow_succ, show (k - 1).succ = k by omega]
theorem axA {v : Nat} {e : Int} (h : unitN v e ≤ e) : v * 2 ^ (e - unitN v e).toNat < M1 := by
 have := aeS v e false
 rw [amE h] at this
 unfold M1; omega
theorem up_room {v : Nat} {e : Int} (h0 : 0 < v) (h : unitN v e ≤ e) : e - unitN v e ≤ 52 := by
 have hb : 0 < blen v := aaS.2 (show 2 ^ 0 ≤ v from h0)
 unfold unitN at *
 split at h <;> omega
theorem take_in {v x : Nat} (hx : x < 4294967296) : v * 2 ^ 32 % M2 / M1 = (v * 4294967296 + x) % M2 / M1 ∧ (v * 2 ^ 32 % M2 % M1 ||| x) = (v * 4294967296 + x) % M2 % M1 := by
 have e32 : (2 : Nat) ^ 32 = 4294967296 := by decide
 have h1 : v * 2 ^ 32 % M2 % M1 ||| x = v * 2 ^ 32 % M2 % M1 + x := by
  have h2 : v * 2 ^ 32 % M2 % M1 = (v % 4294967296) * 2 ^ 32 := by
   rw [shl_lo, e32]; unfold M1; omega
  rw [h2]; exact adD (by rw [e32]; exact hx)
 rw [h1, e32]
 unfold M1 M2
 constructor <;> omega
theorem blen0 {n : Nat} : ((blen n : Nat) : Int) = 0 ↔ n = 0 := by
 have h := @aaS n 0
 rw [Nat.pow_zero] at h
 omega
def farB (n : Nat) (e : Int) : Bool := decide (n = 0 ∨ (e < -10000 ∧ e + blen n < -2000) ∨ 2000 < e)
def farV (neg : Bool) (n : Nat) (e : Int) : Nat := if n = 0 ∨ (e < -10000 ∧ e + blen n < -2000) then signN neg else if 2000 < e then signN neg + infN else 0
theorem far_lo {neg : Bool} {n : Nat} {e : Int} (h : n = 0 ∨ (e < -10000 ∧ e + blen n < -2000)) : farV neg n e = signN neg ∧ farB n e = true := by
 unfold farV farB
 exact ⟨if_pos h, decide_eq_true (by omega)⟩
theorem far_hi {neg : Bool} {n : Nat} {e : Int} (h : ¬ (n = 0 ∨ (e < -10000 ∧ e + blen n < -2000))) (h2 : 2000 < e) : farV neg n e = signN neg + infN ∧ farB n e = true := by
 unfold farV farB
 exact ⟨by rw [if_neg h, if_pos h2], decide_eq_true (by omega)⟩
theorem far_no {neg : Bool} {n : Nat} {e : Int} (h : ¬ (n = 0 ∨ (e < -10000 ∧ e + blen n < -2000))) (h2 : ¬ 2000 < e) : farV neg n e = 0 ∧ farB n e = false := by
 unfold farV farB
 exact ⟨by rw [if_neg h, if_neg h2], decide_eq_false (by omega)⟩
theorem far_true {neg : Bool} {n : Nat} {e : Int} {more : Bool} (h : farB n e = true) : roundN neg n e more = farV neg n e := by
 have h := of_decide_eq_true h
 unfold roundN farV
 split
 ·rfl
 ·rw [if_pos (by omega), if_pos (by omega)]
theorem amM {neg : Bool} {n : Nat} {e : Int} {more : Bool} (h : farB n e = false) : 0 < n ∧ e ≤ 2000 ∧ -110000 ≤ e + blen n ∧ roundN neg n e more = packN neg (mantN n e more) (unitN n e) := by
 have h := of_decide_eq_false h
 refine ⟨by omega, by omega, by omega, ?_⟩
 unfold roundN
 rw [if_neg (by omega), if_neg (by omega)]

def packA (m : Nat) : Nat := if m = 9007199254740992 then 4503599627370496 else m
def packU (m : Nat) (u : Int) : Int := if m = 9007199254740992 then u + 1 else u
theorem packN_eq (neg : Bool) (m : Nat) (u : Int) : packN neg m u = signN neg + packM (packA m) (packU m u) := by
 unfold packN packA packU
 split <;> rfl
theorem packA_lt {m : Nat} (h : m ≤ 9007199254740992) : packA m ≤ 9007199254740991 := by unfold packA; split <;> omega
theorem packU_le (m : Nat) (u : Int) : u ≤ packU m u ∧ packU m u ≤ u + 1 := by unfold packU; split <;> omega
theorem shl52 {k : Nat} (h : k ≤ 100000) : k * 2 ^ 52 = k * 4503599627370496 := by rw [show (2 : Nat) ^ 52 = 4503599627370496 by decide]

set_option maxRecDepth 100000 in
theorem abR (neg : Bool) (m : Nat) (hm : m ≤ 9007199254740992) (u : Int) (hu : -1074 ≤ u ∧ u ≤ 1000000) (H : Heap) : ACall Tryz.prog 231 [.bool neg, .int .u64 (m : Int), .int .i64 u] H (fun y H' => y = .int .u64 ((packN neg m u : Nat) : Int) ∧ H' = H) := by
 refine ACall.of_body Tryz.func231 rfl Tryz.ntmps231 Tryz.results231 rfl ?_
 refine .sr (.p rfl (zA (zJ 0)) ?_)
 refine .ng ?_
 refine AWP.seqToL [(1, .int .u64 ((packA m : Nat) : Int)), (2, .int .i64 (packU m u))] [0, 6] ?_ ?_
 ·refine .sr (.mv rfl rfl (.p rfl (yC (tm rfl) (zJ 9007199254740992)) ?_))
  refine .ng ?_
  refine AWP.cond (tm rfl) (fun hc8 => ?_) (fun hc8 => ?_)
  ·try simp only [decide_eq_true_eq] at hc8
   refine .region ?_
   refine .mv rfl rfl (.p rfl (zS (tm rfl) zE (by omega)) ?_)
   refine .p rfl (zA (zJ 4503599627370496)) ?_
   refine .as rfl rfl (.nil ?_)
   exact ⟨rfl, (yH rfl (by (unfold packA; rw [if_pos (by omega)]; done)) (yH rfl (by (unfold packU; rw [if_pos (by omega)]; done)) (zB rfl (zB rfl zK)))), rfl⟩
  ·try simp only [decide_eq_false_iff_not] at hc8
   refine .skip ?_
   exact ⟨rfl, (yH rfl (by (unfold packA; rw [if_neg (by omega)]; done)) (yH rfl (by (unfold packU; rw [if_neg (by omega)]; done)) (zB rfl (zB rfl zK)))), rfl⟩
 ·refine AWP.sub [(1, _), (2, _), (0, _), (6, _)] (zB rfl (zB rfl (zB rfl (zB rfl zK)))) ?_
  rw [packN_eq]
  have hA := packA_lt hm
  have hU := packU_le m u
  generalize packA m = m1 at hA ⊢
  generalize packU m u = u1 at hU ⊢
  refine AWP.seqToL [(1, .int .u64 ((packM m1 u1 : Nat) : Int))] [2, 0, 6] ?_ ?_
  ·refine .block ?_
   refine .sr (.mv rfl rfl (.p rfl (yW (tm rfl) (zJ 4503599627370496)) ?_))
   refine .mv rfl rfl ?_
   refine zR (t := 14) rfl (fun hg14 => ?_) (fun hg14 => ?_)
   ·have hh14 := hg14; try simp only [decide_eq_true_eq] at hh14
    refine .gp rfl rfl rfl (by assumption) (zD (tm rfl)) ?_
    refine .gp rfl rfl rfl (by assumption) (zS (tm rfl) zE (by omega)) ?_
    refine .gp rfl rfl rfl (by assumption) (yW (tm rfl) zE) ?_
    refine .p rfl (zN (tm rfl) (by assumption) (tm rfl)) ?_
    refine .as rfl rfl (.ng ?_)
    refine AWP.cond (tm rfl) (fun hc11 => ?_) (fun hc11 => ?_)
    ·try simp only [decide_eq_true_eq] at hc11
     try simp only [Bool.and_eq_true, decide_eq_true_eq] at hc11
     refine .region ?_
     refine .p rfl (zA (zJ 9218868437227405312)) ?_
     refine .nil ?_
     refine Block.go ?_
     exact ⟨rfl, (yH rfl (by unfold packM; first | (rw [if_neg (by omega), if_pos (by omega)]; rfl) | (rw [if_pos (by omega)]; done) | (rw [if_neg (by omega), if_neg (by omega), shl52 (by omega)])) (zB rfl (zB rfl (zB rfl zK)))), rfl⟩
    ·try simp only [decide_eq_false_iff_not, Int.not_le] at hc11
     try simp only [Bool.and_eq_false_iff, decide_eq_false_iff_not] at hc11
     refine .sr (.mv rfl rfl (.p rfl (yW (tm rfl) (zJ 4503599627370496)) ?_))
     refine .as rfl rfl (.ng ?_)
     refine AWP.cond (tm rfl) (fun hc19 => ?_) (fun hc19 => ?_)
     ·try simp only [decide_eq_true_eq] at hc19
      refine .region ?_
      refine .mv rfl rfl (.mv rfl rfl (.p rfl (zS (tm rfl) zE (by omega)) ?_))
      refine .p rfl (zX (tm rfl) zE (by omega)) ?_
      refine .p rfl (.as (b := .int .u64 (((u1 + 1074).toNat : Nat) : Int)) (by congr 1; omega) (zY Tryz.underlying3 Tryz.underlying30 (tm rfl) (wrap64 (by omega) (by omega)))) ?_
      refine .p rfl (qL (tm rfl) (zJ 52) (by omega) (by rw [shl52 (by omega)]; omega)) ?_
      refine .p rfl (yU (tm rfl) (tm rfl) (by (rw [shl52 (by omega)]; omega))) ?_
      refine .as rfl rfl (.nil ?_)
      refine Block.go ?_
      exact ⟨rfl, (yH rfl (by unfold packM; first | (rw [if_neg (by omega), if_pos (by omega)]; rfl) | (rw [if_pos (by omega)]; done) | (rw [if_neg (by omega), if_neg (by omega), shl52 (by omega)])) (zB rfl (zB rfl (zB rfl zK)))), rfl⟩
     ·try simp only [decide_eq_false_iff_not, Int.not_le] at hc19
      refine .skip ?_
      refine Block.go ?_
      exact ⟨rfl, (yH rfl (by unfold packM; first | (rw [if_neg (by omega), if_pos (by omega)]; rfl) | (rw [if_pos (by omega)]; done) | (rw [if_neg (by omega), if_neg (by omega), shl52 (by omega)])) (zB rfl (zB rfl (zB rfl zK)))), rfl⟩
   ·have hh14 := hg14; try simp only [decide_eq_false_iff_not, Int.not_le] at hh14
    refine .gn rfl rfl rfl (by assumption) ?_
    refine .gn rfl rfl rfl (by assumption) ?_
    refine .gn rfl rfl rfl (by assumption) ?_
    refine .p rfl (zL (tm rfl) (by assumption) zI) ?_
    refine .as rfl rfl (.ng ?_)
    refine AWP.cond_false (tm rfl) (by rfl) ?_
    refine .sr (.mv rfl rfl (.p rfl (yW (tm rfl) (zJ 4503599627370496)) ?_))
    refine .as rfl rfl (.ng ?_)
    refine AWP.cond (tm rfl) (fun hc19 => ?_) (fun hc19 => ?_)
    ·try simp only [decide_eq_true_eq] at hc19
     refine .region ?_
     refine .mv rfl rfl (.mv rfl rfl (.p rfl (zS (tm rfl) zE (by omega)) ?_))
     refine .p rfl (zX (tm rfl) zE (by omega)) ?_
     refine .p rfl (.as (b := .int .u64 (((u1 + 1074).toNat : Nat) : Int)) (by congr 1; omega) (zY Tryz.underlying3 Tryz.underlying30 (tm rfl) (wrap64 (by omega) (by omega)))) ?_
     refine .p rfl (qL (tm rfl) (zJ 52) (by omega) (by rw [shl52 (by omega)]; omega)) ?_
     refine .p rfl (yU (tm rfl) (tm rfl) (by (rw [shl52 (by omega)]; omega))) ?_
     refine .as rfl rfl (.nil ?_)
     refine Block.go ?_
     exact ⟨rfl, (yH rfl (by unfold packM; first | (rw [if_neg (by omega), if_pos (by omega)]; rfl) | (rw [if_pos (by omega)]; done) | (rw [if_neg (by omega), if_neg (by omega), shl52 (by omega)])) (zB rfl (zB rfl (zB rfl zK)))), rfl⟩
    ·try simp only [decide_eq_false_iff_not, Int.not_le] at hc19
     refine .skip ?_
     refine Block.go ?_
     exact ⟨rfl, (yH rfl (by unfold packM; first | (rw [if_neg (by omega), if_pos (by omega)]; rfl) | (rw [if_pos (by omega)]; done) | (rw [if_neg (by omega), if_neg (by omega), shl52 (by omega)])) (zB rfl (zB rfl (zB rfl zK)))), rfl⟩
  ·refine AWP.sub [(1, _), (2, _), (0, _), (6, _)] (zB rfl (zB rfl (zB rfl (zB rfl zK)))) ?_
   have hM := packM_lt (u := u1) hA
   have hM2 : packM m1 u1 < 9223372036854775808 := Nat.lt_of_le_of_lt hM (by decide)
   refine .seq ?_
   refine .sr (.mv rfl rfl (.ng ?_))
   refine AWP.cond (tm rfl) (fun hc29 => ?_) (fun hc29 => ?_)
   ·try simp only [decide_eq_true_eq, decide_eq_false_iff_not, Bool.not_eq_true', Bool.not_eq_false', Int.not_lt, Int.not_le, ne_eq, Decidable.not_not] at hc29
    refine .region ?_
    refine .mv rfl rfl (.p rfl (qG (tm rfl) (zJ 9223372036854775808) (by omega) (by omega)) ?_)
    refine .as rfl rfl (.nr ?_)
    refine .mv rfl rfl (.as rfl rfl (.ng ?_))
    refine .ret ?_
    refine Ret.go (.cons (.tmp _ _ rfl) .nil) _ (Heap.le.refl _) ?_
    refine ⟨?_, rfl⟩
    simp only [packed, signN]
    rw [if_pos (by assumption), avW hM2]
   ·try simp only [decide_eq_true_eq, decide_eq_false_iff_not, Bool.not_eq_true', Bool.not_eq_false', Int.not_lt, Int.not_le, ne_eq, Decidable.not_not] at hc29
    refine .skip ?_
    refine Next.go ?_
    refine .sr (.mv rfl rfl (.as rfl rfl (.ng ?_)))
    refine .ret ?_
    refine Ret.go (.cons (.tmp _ _ rfl) .nil) _ (Heap.le.refl _) ?_
    refine ⟨?_, rfl⟩
    simp only [packed, signN]
    rw [if_neg (by simp_all), Nat.zero_add]

set_option maxRecDepth 100000 in
theorem arQ (n : Nat) (e : Int) (hn : blen n ≤ 100000) (he : -1000000000000000 ≤ e ∧ e ≤ 1000000000000000) (H : Heap) : ACall Tryz.prog 230 [.int .i64 (blen n : Int), .int .i64 e] H (fun y H' => y = .int .i64 (unitN n e) ∧ H' = H) := by
 refine ACall.of_body Tryz.func230 rfl Tryz.ntmps230 Tryz.results230 rfl ?_
 refine .sr (.p rfl (zA zE) ?_)
 refine .nr ?_
 refine .mv rfl rfl (.mv rfl rfl (.p rfl (zS (tm rfl) (tm rfl) (by omega)) ?_))
 refine .p rfl (zX (tm rfl) zE (by omega)) ?_
 refine .p rfl (aaJ (tm rfl) zE) ?_
 refine .as rfl rfl (.ng ?_)
 refine .ret ?_
 refine Ret.go (.cons (.tmp _ _ rfl) .nil) _ (Heap.le.refl _) ?_
 refine ⟨?_, rfl⟩
 simp only [packed, unitN, imax] <;> (congr 1; split <;> split <;> omega)

set_option maxRecDepth 100000 in
theorem axF (neg : Bool) (n : Nat) (e : Int) (hn : blen n ≤ 100000) (he : -1000000000000000 ≤ e ∧ e ≤ 1000000000000000) (H : Heap) : ACall Tryz.prog 229 [.bool neg, .int .i64 (blen n : Int), .int .i64 e] H (fun y H' => y = .tuple [.int .u64 ((farV neg n e : Nat) : Int), .bool (farB n e)] ∧ H' = H) := by
 have hb0 := @blen0 n
 refine ACall.of_body Tryz.func229 rfl Tryz.ntmps229 Tryz.results229 rfl ?_
 refine .sr (.p rfl (zA (zJ 0)) ?_)
 refine .p rfl (zA zI) ?_
 refine .ng ?_
 refine .seq ?_
 refine .block ?_
 refine .sr (.mv rfl rfl (.p rfl (yC (tm rfl) zE) ?_))
 refine .mv rfl rfl ?_
 refine zR (t := 11) rfl (fun hg11 => ?_) (fun hg11 => ?_)
 ·have hh11 := hg11; try simp only [decide_eq_true_eq] at hh11
  refine .gn rfl rfl rfl (by assumption) ?_
  refine .gn rfl rfl rfl (by assumption) ?_
  refine .gn rfl rfl rfl (by assumption) ?_
  refine AList.gdead rfl rfl rfl ?_
  refine AList.gdead rfl rfl rfl ?_
  refine AList.gdead rfl rfl rfl ?_
  refine AList.gdead rfl rfl rfl ?_
  refine .gn rfl rfl rfl (by assumption) ?_
  refine .p rfl (zN (tm rfl) (by assumption) zI) ?_
  refine .as rfl rfl (.ng ?_)
  refine AWP.cond_true (tm rfl) (by rfl) ?_
  refine .sr (.mv rfl rfl (.cl rfl Tryz.call231 (.cons (tm rfl) (.cons (zJ 0) (.cons zE .nil))) (abR _ _ (by omega) _ (by omega) _) ?_))
  refine .as rfl rfl (.p rfl (zA zI) ?_)
  refine .ng ?_
  refine .ret ?_
  refine Block.rt ?_
  refine Next.rt ?_
  refine Ret.go (.cons (.tmp _ _ rfl) (.cons (.tmp _ _ rfl) .nil)) _ (Heap.le.refl _) ?_
  refine ⟨?_, rfl⟩
  obtain ⟨e1, e2⟩ := far_lo (neg := neg) (n := n) (e := e) (by omega)
  rw [e1, e2]
  rfl
 ·have hh11 := hg11; try simp only [decide_eq_false_iff_not] at hh11
  refine .gp rfl rfl rfl (by assumption) (zD (tm rfl)) ?_
  refine .gp rfl rfl rfl (by assumption) (yA (tm rfl) zE) ?_
  refine .gp rfl rfl rfl (by assumption) (zD (tm rfl)) ?_
  refine zR (t := 14) rfl (fun hg14 => ?_) (fun hg14 => ?_)
  ·have hh14 := hg14; try simp only [decide_eq_true_eq] at hh14
   refine .gp rfl rfl rfl (by assumption) (zD (tm rfl)) ?_
   refine .gp rfl rfl rfl (by assumption) (zD (tm rfl)) ?_
   refine .gp rfl rfl rfl (by assumption) (zS (tm rfl) (tm rfl) (by omega)) ?_
   refine .gp rfl rfl rfl (by assumption) (yA (tm rfl) zE) ?_
   refine .gp rfl rfl rfl (by assumption) (zN (tm rfl) (by assumption) (tm rfl)) ?_
   refine .p rfl (zL (tm rfl) (by assumption) (tm rfl)) ?_
   refine .as rfl rfl (.ng ?_)
   refine AWP.cond (tm rfl) (fun hc8 => ?_) (fun hc8 => ?_)
   ·try simp only [decide_eq_true_eq] at hc8
    refine .sr (.mv rfl rfl (.cl rfl Tryz.call231 (.cons (tm rfl) (.cons (zJ 0) (.cons zE .nil))) (abR _ _ (by omega) _ (by omega) _) ?_))
    refine .as rfl rfl (.p rfl (zA zI) ?_)
    refine .ng ?_
    refine .ret ?_
    refine Block.rt ?_
    refine Next.rt ?_
    refine Ret.go (.cons (.tmp _ _ rfl) (.cons (.tmp _ _ rfl) .nil)) _ (Heap.le.refl _) ?_
    refine ⟨?_, rfl⟩
    obtain ⟨e1, e2⟩ := far_lo (neg := neg) (n := n) (e := e) (by omega)
    rw [e1, e2]
    rfl
   ·try simp only [decide_eq_false_iff_not, Int.not_lt] at hc8
    refine .sr (.mv rfl rfl (.p rfl (yB (tm rfl) zE) ?_))
    refine .as rfl rfl (.ng ?_)
    refine AWP.cond (tm rfl) (fun hc23 => ?_) (fun hc23 => ?_)
    ·try simp only [decide_eq_true_eq] at hc23
     refine .sr (.mv rfl rfl (.cl rfl Tryz.call231 (.cons (tm rfl) (.cons (zJ 4503599627370496) (.cons zE .nil))) (abR _ _ (by omega) _ (by omega) _) ?_))
     refine .as rfl rfl (.p rfl (zA zI) ?_)
     refine .ng ?_
     refine .ret ?_
     refine Block.rt ?_
     refine Next.rt ?_
     refine Ret.go (.cons (.tmp _ _ rfl) (.cons (.tmp _ _ rfl) .nil)) _ (Heap.le.refl _) ?_
     refine ⟨?_, rfl⟩
     obtain ⟨e1, e2⟩ := far_hi (neg := neg) (n := n) (e := e) (by omega) (by omega)
     rw [e1, e2]
     rfl
    ·try simp only [decide_eq_false_iff_not, Int.not_lt] at hc23
     refine .skip ?_
     refine Block.go ?_
     refine Next.go ?_
     refine .sr (.p rfl (zA (zJ 0)) ?_)
     refine .p rfl (zA zI) ?_
     refine .ng ?_
     refine .ret ?_
     refine Ret.go (.cons (.tmp _ _ rfl) (.cons (.tmp _ _ rfl) .nil)) _ (Heap.le.refl _) ?_
     refine ⟨?_, rfl⟩
     obtain ⟨e1, e2⟩ := far_no (neg := neg) (n := n) (e := e) (by omega) (by omega)
     rw [e1, e2]
     rfl
  ·have hh14 := hg14; try simp only [decide_eq_false_iff_not, Int.not_lt] at hh14
   refine .gn rfl rfl rfl (by assumption) ?_
   refine .gn rfl rfl rfl (by assumption) ?_
   refine .gn rfl rfl rfl (by assumption) ?_
   refine .gn rfl rfl rfl (by assumption) ?_
   refine .gp rfl rfl rfl (by assumption) (zL (tm rfl) (by assumption) zI) ?_
   refine .p rfl (zL (tm rfl) (by assumption) (tm rfl)) ?_
   refine .as rfl rfl (.ng ?_)
   refine AWP.cond_false (tm rfl) (by rfl) ?_
   refine .sr (.mv rfl rfl (.p rfl (yB (tm rfl) zE) ?_))
   refine .as rfl rfl (.ng ?_)
   refine AWP.cond (tm rfl) (fun hc23 => ?_) (fun hc23 => ?_)
   ·try simp only [decide_eq_true_eq] at hc23
    refine .sr (.mv rfl rfl (.cl rfl Tryz.call231 (.cons (tm rfl) (.cons (zJ 4503599627370496) (.cons zE .nil))) (abR _ _ (by omega) _ (by omega) _) ?_))
    refine .as rfl rfl (.p rfl (zA zI) ?_)
    refine .ng ?_
    refine .ret ?_
    refine Block.rt ?_
    refine Next.rt ?_
    refine Ret.go (.cons (.tmp _ _ rfl) (.cons (.tmp _ _ rfl) .nil)) _ (Heap.le.refl _) ?_
    refine ⟨?_, rfl⟩
    obtain ⟨e1, e2⟩ := far_hi (neg := neg) (n := n) (e := e) (by omega) (by omega)
    rw [e1, e2]
    rfl
   ·try simp only [decide_eq_false_iff_not, Int.not_lt] at hc23
    refine .skip ?_
    refine Block.go ?_
    refine Next.go ?_
    refine .sr (.p rfl (zA (zJ 0)) ?_)
    refine .p rfl (zA zI) ?_
    refine .ng ?_
    refine .ret ?_
    refine Ret.go (.cons (.tmp _ _ rfl) (.cons (.tmp _ _ rfl) .nil)) _ (Heap.le.refl _) ?_
    refine ⟨?_, rfl⟩
    obtain ⟨e1, e2⟩ := far_no (neg := neg) (n := n) (e := e) (by omega) (by omega)
    rw [e1, e2]
    rfl
def dM (v : Nat) (k : Int) : Nat := if k ≤ 0 then v * 2 ^ (-k).toNat else v / 2 ^ k.toNat
def dH (v : Nat) (k : Int) : Bool := decide (0 < k ∧ v / 2 ^ (k.toNat - 1) % 2 = 1)
def dR (v : Nat) (k : Int) : Bool := decide (0 < k ∧ v % 2 ^ (k.toNat - 1) ≠ 0)
theorem if_iff {P Q : Prop} [Decidable P] [Decidable Q] (h : P ↔ Q) (a b : Nat) : (if P then a else b) = if Q then a else b := by
 by_cases hp : P
 ·rw [if_pos hp, if_pos (h.1 hp)]
 ·rw [if_neg hp, if_neg (fun q => hp (h.2 q))]
theorem mant_d (v : Nat) (e : Int) (more : Bool) :
  mantN v e more = if (dH v (unitN v e - e) && (dR v (unitN v e - e) || more || decide (((dM v (unitN v e - e) &&& 1 : Nat) : Int) = ((1 : Nat) : Int)))) = true then dM v (unitN v e - e) + 1 else dM v (unitN v e - e) := by
 have e1 : ∀ x : Nat, (decide (((x &&& 1 : Nat) : Int) = ((1 : Nat) : Int))) = decide (x % 2 = 1) := fun x => by
  refine decide_eq_decide.2 ?_
  rw [show (1 : Nat) = 2 ^ 1 - 1 by decide, Nat.and_two_pow_sub_one_eq_mod]
  omega
 rw [e1]
 by_cases h : unitN v e ≤ e
 ·have hd : dM v (unitN v e - e) = mantN v e more := by
   rw [amE h]; unfold dM; rw [if_pos (by omega)]; congr 2; omega
  have hh : dH v (unitN v e - e) = false := by unfold dH; exact decide_eq_false (by omega)
  rw [hh, Bool.false_and, if_neg (by decide), hd]
 ·have hd : dM v (unitN v e - e) = v / 2 ^ (unitN v e - e).toNat := by unfold dM; rw [if_neg (by omega)]
  have hp : 0 < unitN v e - e := by omega
  rw [mant_up (by omega), hd]
  have hH : dH v (unitN v e - e) = decide (v / 2 ^ ((unitN v e - e).toNat - 1) % 2 = 1) := by unfold dH; exact decide_eq_decide.2 ⟨fun q => q.2, fun q => ⟨hp, q⟩⟩
  have hR : dR v (unitN v e - e) = decide (v % 2 ^ ((unitN v e - e).toNat - 1) ≠ 0) := by unfold dR; exact decide_eq_decide.2 ⟨fun q => q.2, fun q => ⟨hp, q⟩⟩
  rw [hH, hR]
  refine if_iff ?_ _ _
  simp only [Bool.and_eq_true, Bool.or_eq_true, decide_eq_true_eq, or_assoc]

set_option maxRecDepth 100000 in
theorem alG (neg : Bool) (n : Nat) (e : Int) (more : Bool) (hn : blen n ≤ 100000) (he : -1000000000000000 ≤ e ∧ e ≤ 1000000000000000) (f : FuncId) (cap : List AV) (H : Heap) (hent : ∀ args w, (callFunc f args).run Tryz.prog w = .ok (.enter f args) w) (hf : farB n e = false → ACall Tryz.prog f ([.int .i64 (unitN n e - e)] ++ cap) H (fun y H' => y = .tuple [.int .u64 ((dM n (unitN n e - e) : Nat) : Int), .bool (dH n (unitN n e - e)), .bool (dR n (unitN n e - e))] ∧ H' = H)) : ACall Tryz.prog 191 [.bool neg, .int .i64 (blen n : Int), .int .i64 e, .bool more, .func f cap] H (fun y H' => y = .int .u64 ((roundN neg n e more : Nat) : Int) ∧ H' = H) := by
 have hmd := mant_d n e more
 have hml := aeS n e more
 have hdm : dM n (unitN n e - e) ≤ 9007199254740992 := by rw [hmd] at hml; split at hml <;> omega
 have hul := apP n e
 have hur : unitN n e ≤ 1000000000000000 + 100000 := by unfold unitN; split <;> omega
 refine ACall.of_body Tryz.func191 rfl Tryz.ntmps191 Tryz.results191 rfl ?_
 refine .sr (.p rfl (zA (zJ 0)) ?_)
 refine .ng ?_
 refine .seq ?_
 refine .sr (.mv rfl rfl (.mv rfl rfl (.mv rfl rfl (.cl rfl Tryz.call229 (evs3 rfl rfl rfl) (axF neg n e hn he _) ?_))))
 refine .mv rfl rfl (.p rfl (zC (tm rfl) rfl) ?_)
 refine .p rfl (zC (tm rfl) rfl) ?_
 refine .as rfl rfl (.as rfl rfl (.nr ?_))
 refine .mv rfl rfl (.ng ?_)
 refine AWP.cond (tm rfl) (fun hc24 => ?_) (fun hc24 => ?_)
 ·try simp only [decide_eq_true_eq, decide_eq_false_iff_not, Bool.not_eq_true', Bool.not_eq_false', Int.not_lt, Int.not_le, ne_eq, Decidable.not_not] at hc24
  have hfar : farB n e = true := hc24
  refine .sr (.mv rfl rfl (.as rfl rfl (.ng ?_)))
  refine .ret ?_
  refine Next.rt ?_
  refine Ret.go (.cons (.tmp _ _ rfl) .nil) _ (Heap.le.refl _) ?_
  refine ⟨?_, rfl⟩
  rw [far_true hfar]; rfl
 ·try simp only [decide_eq_true_eq, decide_eq_false_iff_not, Bool.not_eq_true', Bool.not_eq_false', Int.not_lt, Int.not_le, ne_eq, Decidable.not_not] at hc24
  have hfar : farB n e = false := hc24
  obtain ⟨hf1, hf2, hf3, hf4⟩ := amM (neg := neg) (more := more) hfar
  have hup : unitN n e ≤ 1000000 := by unfold unitN; split <;> omega
  refine .skip ?_
  refine Next.go ?_
  refine .sr (.mv rfl rfl (.mv rfl rfl (.cl rfl Tryz.call230 (evs2 rfl rfl) (arQ n e hn he _) ?_)))
  refine .as rfl rfl (.nr ?_)
  refine .mv rfl rfl (.mv rfl rfl (.mv rfl rfl (.p rfl (zX (tm rfl) (tm rfl) (by omega)) ?_)))
  refine .e rfl (alB hent (tm rfl) (evs1 rfl) (hf hfar)) ?_
  refine .mv rfl rfl (.p rfl (zC (tm rfl) rfl) ?_)
  refine .p rfl (zC (tm rfl) rfl) ?_
  refine .p rfl (zC (tm rfl) rfl) ?_
  refine .as rfl rfl (.as rfl rfl (.as rfl rfl (.ng ?_)))
  refine AWP.seqToL [(14, .int .u64 ((mantN n e more : Nat) : Int))] [0, 10, 13] ?_ ?_
  ·refine AWP.seqTo 49 (.bool ((dH n (unitN n e - e) && (dR n (unitN n e - e) || more || decide (((dM n (unitN n e - e) &&& 1 : Nat) : Int) = ((1 : Nat) : Int)))))) [0, 10, 13, 14] ?_ ?_
   ·-- region 6
    refine .region ?_
    refine .mv rfl rfl (.mv rfl rfl ?_)
    refine zR (t := 39) rfl (fun hg39 => ?_) (fun hg39 => ?_)
    ·refine .gp rfl rfl rfl (by assumption) (zD (tm rfl)) ?_
     refine .gp rfl rfl rfl (by assumption) (zD (tm rfl)) ?_
     refine zR (t := 41) rfl (fun hg41 => ?_) (fun hg41 => ?_)
     ·refine .gn rfl rfl rfl (by assumption) ?_
      refine .gp rfl rfl rfl (by assumption) (zN (tm rfl) (by assumption) zI) ?_
      refine .gp rfl rfl rfl (by assumption) (zD (tm rfl)) ?_
      refine .gn rfl rfl rfl (by rfl) ?_
      refine .gn rfl rfl rfl (by rfl) ?_
      refine .gn rfl rfl rfl (by rfl) ?_
      refine .gp rfl rfl rfl (by assumption) (zN (tm rfl) (by rfl) zI) ?_
      refine .p rfl (zN (tm rfl) (by assumption) (tm rfl)) ?_
      refine .nil ?_
      exact ⟨rfl, yS rfl (by (rw [show dH n (unitN n e - e) = _ from hg39, show dR n (unitN n e - e) = _ from hg41]; rfl)) (zB rfl (zB rfl (zB rfl (zB rfl zK)))), rfl⟩
     ·refine .gp rfl rfl rfl (by assumption) (zD (tm rfl)) ?_
      refine .gp rfl rfl rfl (by assumption) (zL (tm rfl) (by assumption) (tm rfl)) ?_
      refine .gp rfl rfl rfl (by assumption) (zD (tm rfl)) ?_
      refine zR (t := 44) rfl (fun hg44 => ?_) (fun hg44 => ?_)
      ·refine .gn rfl rfl rfl (by assumption) ?_
       refine .gn rfl rfl rfl (by assumption) ?_
       refine .gn rfl rfl rfl (by assumption) ?_
       refine .gp rfl rfl rfl (by assumption) (zN (tm rfl) (by assumption) zI) ?_
       refine .p rfl (zN (tm rfl) (by assumption) (tm rfl)) ?_
       refine .nil ?_
       exact ⟨rfl, yS rfl (by (rw [show dH n (unitN n e - e) = _ from hg39, show dR n (unitN n e - e) = _ from hg41, show more = _ from hg44]; rfl)) (zB rfl (zB rfl (zB rfl (zB rfl zK)))), rfl⟩
      ·refine .gp rfl rfl rfl (by assumption) (zD (tm rfl)) ?_
       refine .gp rfl rfl rfl (by assumption) (qZ (tm rfl) (zJ 1) (by omega) (by omega)) ?_
       refine .gp rfl rfl rfl (by assumption) (yC (tm rfl) (zJ 1)) ?_
       refine .gp rfl rfl rfl (by assumption) (zL (tm rfl) (by assumption) (tm rfl)) ?_
       refine .p rfl (zN (tm rfl) (by assumption) (tm rfl)) ?_
       refine .nil ?_
       exact ⟨rfl, yS rfl (by (rw [show dH n (unitN n e - e) = _ from hg39, show dR n (unitN n e - e) = _ from hg41, show more = _ from hg44]; rfl)) (zB rfl (zB rfl (zB rfl (zB rfl zK)))), rfl⟩
    ·refine .gn rfl rfl rfl (by assumption) ?_
     refine .gn rfl rfl rfl (by assumption) ?_
     refine AList.gdead rfl rfl rfl ?_
     refine .gn rfl rfl rfl (by assumption) ?_
     refine .gn rfl rfl rfl (by assumption) ?_
     refine AList.gdead rfl rfl rfl ?_
     refine AList.gdead rfl rfl rfl ?_
     refine AList.gdead rfl rfl rfl ?_
     refine .gn rfl rfl rfl (by assumption) ?_
     refine .p rfl (zL (tm rfl) (by assumption) zI) ?_
     refine .nil ?_
     exact ⟨rfl, yS rfl (by (rw [show dH n (unitN n e - e) = _ from hg39]; rfl)) (zB rfl (zB rfl (zB rfl (zB rfl zK)))), rfl⟩
   ·refine AWP.sub [(49, _), (0, _), (10, _), (13, _), (14, _)] (zB rfl (zB rfl (zB rfl (zB rfl (zB rfl zK))))) ?_
    refine AWP.cond (tm rfl) (fun hc49 => ?_) (fun hc49 => ?_)
    ·try simp only [decide_eq_true_eq, decide_eq_false_iff_not, Bool.not_eq_true', Bool.not_eq_false', Int.not_lt, Int.not_le, ne_eq, Decidable.not_not] at hc49
     rw [if_pos hc49] at hmd
     refine .region ?_
     refine .mv rfl rfl (.p rfl (yU (tm rfl) (zJ 1) (by omega)) ?_)
     refine .as rfl rfl (.nil ?_)
     exact ⟨rfl, (yH rfl (by rw [hmd]) (zB rfl (zB rfl (zB rfl zK)))), rfl⟩
    ·try simp only [decide_eq_true_eq, decide_eq_false_iff_not, Bool.not_eq_true', Bool.not_eq_false', Int.not_lt, Int.not_le, ne_eq, Decidable.not_not] at hc49
     rw [if_neg (by rw [hc49]; decide)] at hmd
     refine .skip ?_
     exact ⟨rfl, (yH rfl (by rw [hmd]) (zB rfl (zB rfl (zB rfl zK)))), rfl⟩
  ·refine AWP.sub [(14, _), (0, _), (10, _), (13, _)] (zB rfl (zB rfl (zB rfl (zB rfl zK)))) ?_
   refine .sr (.mv rfl rfl (.mv rfl rfl (.mv rfl rfl (.cl rfl Tryz.call231 (evs3 rfl rfl rfl) (abR neg _ hml _ (by constructor <;> omega) _) ?_))))
   refine .as rfl rfl (.ng ?_)
   refine .ret ?_
   refine Ret.go (.cons (.tmp _ _ rfl) .nil) _ (Heap.le.refl _) ?_
   refine ⟨?_, rfl⟩
   rw [hf4]; rfl

set_option maxRecDepth 100000 in
theorem atW (v : Nat) (hv : v < M2) (k : Int) (hk : -52 ≤ k ∧ k ≤ 1000000) (h0 : k ≤ 0 → v * 2 ^ (-k).toNat < M1) (h1 : 0 < k → v / 2 ^ (k.toNat - 1) < 18014398509481984) (H : Heap) : ACall Tryz.prog 193 [.int .i64 k, .iptr (u2 v).cells] H (fun y H' => y = .tuple [.int .u64 ((dM v k : Nat) : Int), .bool (dH v k), .bool (dR v k)] ∧ H' = H) := by
 refine ACall.of_body Tryz.func193 rfl Tryz.ntmps193 Tryz.results193 rfl ?_
 refine .sr (.p rfl (zA (zJ 0)) ?_)
 refine .p rfl (zA zI) ?_
 refine .p rfl (zA zI) ?_
 refine .ng ?_
 refine .seq ?_
 refine .sr (.mv rfl rfl (.p rfl (aaK (tm rfl) zE) ?_))
 refine .ng ?_
 refine AWP.cond (tm rfl) (fun hc9 => ?_) (fun hc9 => ?_)
 ·try simp only [decide_eq_true_eq] at hc9
  have hq := h0 (by omega)
  refine .sr (.p rfl (zU Tryz.isAgg122 Tryz.sizeOf122 (tm rfl) (Nat.le_of_ble_eq_true rfl)) ?_)
  refine .mv rfl rfl (.p rfl (aaE (tm rfl) (by omega)) ?_)
  refine .cl rfl Tryz.call194 (evs2 rfl rfl) (acR v (-k).toNat (by omega) (-k) (by omega) _) ?_
  refine .p rfl (afI Tryz.underlying122 rfl Tryz.isAgg30 Tryz.sizeOf30 (tm rfl) rfl) ?_
  refine .as rfl rfl (.p rfl (zA zI) ?_)
  refine .p rfl (zA zI) ?_
  refine .ng ?_
  refine .ret ?_
  refine Next.rt ?_
  refine Ret.go (.cons (.tmp _ _ rfl) (.cons (.tmp _ _ rfl) (.cons (.tmp _ _ rfl) .nil))) _ (Heap.le.refl _) ?_
  refine ⟨?_, rfl⟩
  have e1 : dM v k = v * 2 ^ (-k).toNat := by unfold dM; rw [if_pos (by omega)]
  have e2 : dH v k = false := by unfold dH; exact decide_eq_false (by omega)
  have e3 : dR v k = false := by unfold dR; exact decide_eq_false (by omega)
  have e4 : v * 2 ^ (-k).toNat % M2 % M1 = v * 2 ^ (-k).toNat := by rw [Nat.mod_eq_of_lt (Nat.lt_trans hq (by decide +kernel)), Nat.mod_eq_of_lt hq]
  rw [e1, e2, e3]
  show AV.tuple [.int .u64 ((v * 2 ^ (-k).toNat % M2 % M1 : Nat) : Int), _, _] = _
  rw [e4]
 ·try simp only [decide_eq_false_iff_not, Int.not_le] at hc9
  have hq := h1 (by omega)
  have hqm : v / 2 ^ (k.toNat - 1) % M1 < 18446744073709551616 := abM _
  refine .skip ?_
  refine Next.go ?_
  refine .sr (.p rfl (zU Tryz.isAgg122 Tryz.sizeOf122 (tm rfl) (Nat.le_of_ble_eq_true rfl)) ?_)
  refine .mv rfl rfl (.p rfl (zX (tm rfl) zE (by omega)) ?_)
  refine .cl rfl Tryz.call195 (evs2 rfl rfl) (arN v hv (k.toNat - 1) (by omega) (k - 1) (by omega) _) ?_
  refine .mv rfl rfl (.p rfl (zC (tm rfl) rfl) ?_)
  refine .p rfl (zC (tm rfl) rfl) ?_
  refine .s rfl (zO Tryz.zeroValue122 (zr122)) ?_
  rintro _ _ ⟨b6, hb6, rfl, hH⟩
  obtain rfl := hH.symm
  refine .e0 (zH Tryz.sizeOf122 (tm rfl) (tm rfl) rfl rfl (.inr ⟨_, rfl⟩) (Heap.objs_set_same _ _ _) (Nat.le_of_ble_eq_true rfl)) ?_
  try first | rw [Heap.set_set] | rw [Heap.set_under (by assumption)]
  refine .as rfl rfl (.ng ?_)
  refine AWP.frz (t := 6) rfl (hb6) ?_
  refine .seq ?_
  refine AWP.draw [(0, true), (3, true), (4, true), (5, true), (6, true), (7, true), (1, false), (2, true), (8, true), (9, true), (10, true)] rfl (by decide +kernel) ?_
  refine .p rfl rfl (zU Tryz.isAgg122 Tryz.sizeOf122 (tm rfl) (Nat.le_of_ble_eq_true rfl)) ?_
  refine .p rfl rfl (zG Tryz.underlying122 rfl Tryz.sizeOf30 (tm rfl)) ?_
  refine .p rfl rfl (zF Tryz.isAgg30 (tm rfl)) ?_
  refine .p rfl rfl (qZ (tm rfl) (zJ 1) (by assumption) (by omega)) ?_
  refine .p rfl rfl (yC (tm rfl) (zJ 1)) ?_
  refine .p rfl rfl (zD (tm rfl)) ?_
  refine .s rfl rfl (zP Tryz.call194 (.cons (tm rfl) (.cons zE .nil)) (acR (v / 2 ^ (k.toNat - 1)) 63 (by decide) 63 rfl _)) ?_
  rintro _ _ ⟨rfl, hH⟩
  obtain rfl := hH.symm
  refine .p rfl rfl (afI Tryz.underlying122 rfl Tryz.isAgg30 Tryz.sizeOf30 (tm rfl) rfl) ?_
  refine .p rfl rfl (zA (tm rfl)) ?_
  refine .p rfl rfl (zA (tm rfl)) ?_
  refine .p rfl rfl (zA (tm rfl)) ?_
  refine .nil ?_
  refine Next.go ?_
  refine .ret ?_
  refine Ret.go (.cons (.tmp _ _ rfl) (.cons (.tmp _ _ rfl) (.cons (.tmp _ _ rfl) .nil))) _ (Heap.le.refl _) ?_
  refine ⟨?_, rfl⟩
  have e1 : dM v k = v / 2 ^ k.toNat := by unfold dM; rw [if_neg (by omega)]
  have e2 : dH v k = decide (v / 2 ^ (k.toNat - 1) % 2 = 1) := by unfold dH; exact decide_eq_decide.2 ⟨fun q => q.2, fun q => ⟨by omega, q⟩⟩
  have e3 : dR v k = decide (v % 2 ^ (k.toNat - 1) ≠ 0) := by unfold dR; exact decide_eq_decide.2 ⟨fun q => q.2, fun q => ⟨by omega, q⟩⟩
  have e4 : v / 2 ^ (k.toNat - 1) * 2 ^ 63 % M2 / M1 = v / 2 ^ k.toNat := by rw [half_hi hq, div_half (by omega)]
  have e5 : decide (((v / 2 ^ (k.toNat - 1) % M1 &&& 1 : Nat) : Int) = ((1 : Nat) : Int)) = decide (v / 2 ^ (k.toNat - 1) % 2 = 1) := by
   refine decide_eq_decide.2 ?_
   rw [Nat.mod_eq_of_lt (Nat.lt_trans hq (by decide +kernel)), show (1 : Nat) = 2 ^ 1 - 1 by decide, Nat.and_two_pow_sub_one_eq_mod]
   omega
  rw [e1, e2, e3]
  show AV.tuple [.int .u64 ((v / 2 ^ (k.toNat - 1) * 2 ^ 63 % M2 / M1 : Nat) : Int), .bool (decide (((v / 2 ^ (k.toNat - 1) % M1 &&& 1 : Nat) : Int) = ((1 : Nat) : Int))), _] = _
  rw [e4, e5]

theorem wLen2 (v : Nat) (hv : v < M2) (H : Heap) : ACall Tryz.prog 192 [u2 v] H (fun y H' => y = .int .i64 (blen v : Int) ∧ H' = H) := by
 have h := arO (v / M1) (v % M1) (awU hv) (abM v) H
 rw [show v / M1 * 18446744073709551616 + v % M1 = v from by have := Nat.div_add_mod v M1; rw [Nat.mul_comm] at this; exact this] at h
 exact h
theorem down_ok (v : Nat) (hv : v < M2) (e : Int) (hfar : farB v e = false) (H : Heap) : ACall Tryz.prog 193 ([.int .i64 (unitN v e - e)] ++ [.iptr (u2 v).cells]) H (fun y H' => y = .tuple [.int .u64 ((dM v (unitN v e - e) : Nat) : Int), .bool (dH v (unitN v e - e)), .bool (dR v (unitN v e - e))] ∧ H' = H) := by
 obtain ⟨h0, h1, h2, h3⟩ := amM (neg := false) (more := false) hfar
 have hb : blen v ≤ 128 := qI.2 (by rw [show (2 : Nat) ^ 128 = M2 by decide +kernel]; exact hv)
 refine atW v hv (unitN v e - e) ⟨?_, ?_⟩ (fun q => ?_) (fun q => ?_) H
 ·rcases Int.lt_or_le e (unitN v e) with h | h
  ·omega
  ·have := up_room h0 h; omega
 ·unfold unitN; split <;> omega
 ·have := axA (v := v) (e := e) (by omega)
  rw [show (-(unitN v e - e)).toNat = (e - unitN v e).toNat by omega]; exact this
 ·exact atV (by omega)

set_option maxRecDepth 100000 in
theorem afB (neg : Bool) (v : Nat) (hv : v < M2) (e : Int) (he : -1000000000000000 ≤ e ∧ e ≤ 1000000000000000) (more : Bool) (H : Heap) : ACall Tryz.prog 147 [.bool neg, u2 v, .int .i64 e, .bool more] H (fun y H' => y = .int .u64 ((roundN neg v e more : Nat) : Int) ∧ H' = H) := by
 refine ACall.of_body Tryz.func147 rfl Tryz.ntmps147 Tryz.results147 rfl ?_
 refine .sr (.e rfl (yL (tm rfl) (.inr ⟨_, rfl⟩)) ?_)
 refine .p rfl (zA (zJ 0)) ?_
 refine .nr ?_
 refine .mv rfl rfl (.p rfl (zU Tryz.isAgg122 Tryz.sizeOf122 (tm rfl) (Nat.le_of_ble_eq_true rfl)) ?_)
 refine .cl rfl Tryz.call192 (evs1 rfl) (wLen2 v hv _) ?_
 refine .mv rfl rfl (.mv rfl rfl (.p rfl (asK (tm rfl)) ?_))
 refine .cl rfl Tryz.call191 (.cons (tm rfl) (.cons (tm rfl) (evs3 rfl rfl rfl))) (alG neg v e more (by have : blen v ≤ 128 := qI.2 (by rw [show (2 : Nat) ^ 128 = M2 by decide +kernel]; exact hv); omega) he 193 [.iptr (u2 v).cells] _ Tryz.call193 (fun hfar => down_ok v hv e hfar _)) ?_
 refine .as rfl rfl (.ng ?_)
 refine .ret ?_
 refine Ret.go (.cons (.tmp _ _ rfl) .nil) _ (Heap.le.refl _) ?_
 exact ⟨rfl, rfl⟩
def powE (k : Int) : Int := if k < 0 then -((blen (10 ^ (-k).toNat) + 127 : Nat) : Int) else (blen (10 ^ k.toNat) : Int) - 128
def powP (k : Int) : Nat :=
 if k < 0 then 2 ^ (blen (10 ^ (-k).toNat) + 127) / 10 ^ (-k).toNat
 else if blen (10 ^ k.toNat) ≤ 128 then 10 ^ k.toNat * 2 ^ (128 - blen (10 ^ k.toNat))
 else 10 ^ k.toNat / 2 ^ (blen (10 ^ k.toNat) - 128)
def powA (k : Int) : Bool := if k < 0 then false else decide (blen (10 ^ k.toNat) ≤ 128 ∨ 10 ^ k.toNat % 2 ^ (blen (10 ^ k.toNat) - 128) = 0)
def readN (m : Nat) (k : Int) : Nat :=
 if 0 ≤ k then roundN false (m * 10 ^ k.toNat) 0 false else ratN m (10 ^ (-k).toNat) (blen (10 ^ (-k).toNat) + 127)
def quickX (m : Nat) (k : Int) : Nat := roundN false (powP k * m) (powE k) false
def quickB (m : Nat) (k : Int) : Bool := powA k || decide (roundN false ((powP k + 1) * m) (powE k) false = quickX m k)
def slowK (m : Nat) (k : Int) : Nat := blen (10 ^ (-k).toNat) + 66 - blen m
def slowN (m : Nat) (k : Int) : Nat := if 0 ≤ k then roundN false (m * 10 ^ k.toNat) 0 false else ratN m (10 ^ (-k).toNat) (slowK m k)

theorem anQ (j : Nat) : 0 < 10 ^ j := Nat.pow_pos (by decide)
theorem anD {n : Nat} (h : 0 < n) : 0 < blen n := aaS.2 (by rw [Nat.pow_zero]; exact h)
theorem blen_lo {n : Nat} (h : 0 < n) : 2 ^ (blen n - 1) ≤ n := aaS.1 (by have := anD h; omega)
theorem akO (n : Nat) : n < 2 ^ blen n := qI.1 (Nat.le_refl _)
theorem aaC (n : Nat) (e : Int) (more : Bool) : roundN false n e more ≤ infN := by
 unfold roundN
 split
 ·exact Nat.zero_le _
 ·split
  ·exact Nat.le_of_eq (by unfold signN; simp)
  ·rw [avS]
   have h := aeS n e more
   unfold signN pk
   rw [if_neg (by decide), Nat.zero_add]
   split
   ·exact alZ _ _ (by decide)
   ·exact alZ _ _ (by omega)
end Go.Proofs.YtfkeflcdadlmdaaGreatDoor
