import Derived.Test.YtmmgbnolccpjoaaGreatDoorYd
import Derived.Test.YtmmgbnolccpjoaaGreatDoorN1
import Derived.Test.YtmmgbnolccpjoaaGreatDoorP1
import Derived.Test.YtmmgbnolccpjoaaGreatDoorSsk
import Derived.Test.YtmmgbnolccpjoaaGreatDoorX1
namespace Go.Proofs.YtmmgbnolccpjoaaGreatDoor
open Go Go.RowKit

def rne (n k : Nat) (more : Bool) : Nat :=
 if n / 2 ^ (k - 1) % 2 = 1 ∧ (n % 2 ^ (k - 1) ≠ 0 ∨ more = true ∨ n / 2 ^ k % 2 = 1) then n / 2 ^ k + 1 else n / 2 ^ k
def yC (n : Nat) (e : Int) : Int := if e + yE n - 53 < -1074 then -1074 else e + yE n - 53
def aeQ (n : Nat) (e : Int) (more : Bool) : Nat := if yC n e ≤ e then n * 2 ^ (e - yC n e).toNat else rne n (yC n e - e).toNat more
def alR : Nat := 9218868437227405312
def abF (neg : Bool) : Nat := if neg = true then 9223372036854775808 else 0
def acY (m : Nat) (u : Int) : Nat :=
 if m < 4503599627370496 then m
 else if u + 1075 ≥ 2047 then alR
 else m + (u + 1074).toNat * 4503599627370496
def avI (neg : Bool) (m : Nat) (u : Int) : Nat := abF neg + (if m = 9007199254740992 then acY 4503599627370496 (u + 1) else acY m u)
def yG (neg : Bool) (n : Nat) (e : Int) (more : Bool) : Nat :=
 if n = 0 ∨ (e < -10000 ∧ e + yE n < -2000) then abF neg
 else if 2000 < e then abF neg + alR
 else avI neg (aeQ n e more) (yC n e)
theorem blen_hi {n j : Nat} (h : 0 < n / 2 ^ j) : yE n = yE (n / 2 ^ j) + j := by
 have h1 : yE n ≤ yE (n / 2 ^ j) + j := by
  rw [yW, Nat.pow_add]
  exact (Nat.div_lt_iff_lt_mul (Nat.pow_pos (by decide))).1 (yW.1 (Nat.le_refl _))
 have h2 : yE (n / 2 ^ j) + j ≤ yE n := by
  have hb : 0 < yE (n / 2 ^ j) := aaT.2 (by rw [Nat.pow_zero]; exact h)
  have h3 : 2 ^ (yE (n / 2 ^ j) - 1) ≤ n / 2 ^ j := aaT.1 (by omega)
  have h4 : 2 ^ (yE (n / 2 ^ j) - 1 + j) ≤ n := by
   rw [Nat.pow_add]
   exact Nat.le_trans (Nat.mul_le_mul_right _ h3) (Nat.div_mul_le_self _ _)
  have := aaT.2 h4
  omega
 omega
theorem rne_cut {n j k : Nat} {more : Bool} (hk : 2 ≤ k) : rne n (k + j) more = rne (n / 2 ^ j) k (more || decide (n % 2 ^ j ≠ 0)) := by
 have e1 : n / 2 ^ (k + j) = n / 2 ^ j / 2 ^ k := by rw [Nat.div_div_eq_div_mul, ← Nat.pow_add, Nat.add_comm]
 have e2 : n / 2 ^ (k + j - 1) = n / 2 ^ j / 2 ^ (k - 1) := by rw [Nat.div_div_eq_div_mul, ← Nat.pow_add, show k + j - 1 = j + (k - 1) by omega]
 have e3 : n % 2 ^ (k + j - 1) ≠ 0 ↔ (n % 2 ^ j ≠ 0 ∨ n / 2 ^ j % 2 ^ (k - 1) ≠ 0) := by
  rw [show k + j - 1 = j + (k - 1) by omega, Nat.pow_add, Nat.mod_mul]
  have h : 0 < 2 ^ j := Nat.pow_pos (by decide)
  constructor
  ·grind
  ·rintro (q | q) h1
   ·omega
   ·have : 0 < 2 ^ j * (n / 2 ^ j % 2 ^ (k - 1)) := Nat.mul_pos h (Nat.pos_of_ne_zero q)
    omega
 unfold rne
 rw [e1, e2]
 have e4 : (n % 2 ^ (k + j - 1) ≠ 0 ∨ more = true ∨ n / 2 ^ j / 2 ^ k % 2 = 1) ↔ (n / 2 ^ j % 2 ^ (k - 1) ≠ 0 ∨ (more || decide (n % 2 ^ j ≠ 0)) = true ∨ n / 2 ^ j / 2 ^ k % 2 = 1) := by
  rw [e3, Bool.or_eq_true, decide_eq_true_eq]
  constructor
  ·grind
  ·grind
 simp only [e4]
theorem bdR {neg : Bool} {n j : Nat} {e : Int} {more : Bool} (hb : 55 ≤ yE (n / 2 ^ j)) (he : -10000 ≤ e) (he2 : e ≤ 2000) :
  yG neg n e more = yG neg (n / 2 ^ j) (e + j) (more || decide (n % 2 ^ j ≠ 0)) := by
 have hp : 0 < n / 2 ^ j := by
  have := aaT.1 (show 0 < yE (n / 2 ^ j) by omega)
  rw [Nat.pow_zero] at this; exact this
 have hn : 0 < n := by
  rcases Nat.eq_zero_or_pos n with h | h
  ·subst h; simp at hp
  ·exact h
 have hl := blen_hi hp
 have hu : yC n e = yC (n / 2 ^ j) (e + j) := by unfold yC; rw [hl]; split <;> split <;> omega
 have hu2 : yC n e ≥ e + j + 2 := by unfold yC; split <;> omega
 have hm : aeQ n e more = aeQ (n / 2 ^ j) (e + j) (more || decide (n % 2 ^ j ≠ 0)) := by
  unfold aeQ
  rw [if_neg (by omega), ← hu, if_neg (by omega), show (yC n e - e).toNat = (yC n e - (e + j)).toNat + j by omega]
  exact rne_cut (by omega)
 unfold yG
 rw [if_neg (by omega), if_neg (by omega), if_neg (by omega), hm, hu]
 by_cases h2 : 2000 < e + (j : Int)
 ·rw [if_pos h2]
  -- far above: endless
  have hu3 : yC (n / 2 ^ j) (e + j) = e + j + yE (n / 2 ^ j) - 53 := by unfold yC; split <;> omega
  have hge : 4503599627370496 ≤ aeQ (n / 2 ^ j) (e + j) (more || decide (n % 2 ^ j ≠ 0)) := by
   unfold aeQ
   rw [if_neg (by omega)]
   have h5 : 2 ^ 52 ≤ n / 2 ^ j / 2 ^ (yC (n / 2 ^ j) (e + j) - (e + j)).toNat := by
    rw [Nat.le_div_iff_mul_le (Nat.pow_pos (by decide)), ← Nat.pow_add]
    refine aaT.1 ?_
    omega
   unfold rne
   split <;> omega
  unfold avI
  split
  ·unfold acY; rw [if_neg (by omega), if_pos (by omega)]
  ·unfold acY; rw [if_neg (by omega), if_pos (by omega)]
 ·grind
theorem rne_mono {n1 n2 k : Nat} {m1 m2 : Bool} (hk : 1 ≤ k) (h : n1 < n2 ∨ (n1 = n2 ∧ (m1 = true → m2 = true))) : rne n1 k m1 ≤ rne n2 k m2 := by
 have hn : n1 ≤ n2 := by omega
 have hp : 2 ^ k = 2 ^ (k - 1) * 2 := by rw [← Nat.pow_succ, show (k - 1).succ = k by omega]
 have hq : n1 / 2 ^ (k - 1) ≤ n2 / 2 ^ (k - 1) := Nat.div_le_div_right hn
 have e1 : n1 / 2 ^ k = n1 / 2 ^ (k - 1) / 2 := by rw [hp, Nat.div_div_eq_div_mul]
 have e2 : n2 / 2 ^ k = n2 / 2 ^ (k - 1) / 2 := by rw [hp, Nat.div_div_eq_div_mul]
 have d1 := Nat.div_add_mod n1 (2 ^ (k - 1))
 have d2 := Nat.div_add_mod n2 (2 ^ (k - 1))
 unfold rne
 rw [e1, e2]
 generalize n1 / 2 ^ (k - 1) = q1 at *
 generalize n2 / 2 ^ (k - 1) = q2 at *
 generalize hr1 : n1 % 2 ^ (k - 1) = r1 at *
 generalize hr2 : n2 % 2 ^ (k - 1) = r2 at *
 rcases Nat.lt_or_ge q1 q2 with hlt | hge
 ·grind
 ·grind
def pk (m : Nat) (u : Int) : Nat := if m = 9007199254740992 then acY 4503599627370496 (u + 1) else acY m u
theorem asB (m : Nat) (u : Int) (h : m < 9007199254740992) : acY m u ≤ alR := by
 unfold acY alR
 split
 ·omega
 ·grind
theorem avG {m1 m2 : Nat} {u : Int} (hu : -1074 ≤ u) (h : m1 ≤ m2) (h2 : m2 ≤ 9007199254740992) : pk m1 u ≤ pk m2 u := by
 unfold pk acY alR
 repeat' split
 all_goals omega
theorem pk_next {m : Nat} {u : Int} (hu : -1074 ≤ u) (h : m ≤ 9007199254740992) : pk m u ≤ acY 4503599627370496 (u + 1) := by
 have := avG hu h (Nat.le_refl _)
 unfold pk at this ⊢
 rw [if_pos rfl] at this
 exact this
theorem packM_up {u1 u2 : Int} (h1 : -1074 ≤ u1) (h : u1 ≤ u2) : acY 4503599627370496 u1 ≤ acY 4503599627370496 u2 := by
 unfold acY alR
 repeat' split
 all_goals omega
theorem awS (n : Nat) (e : Int) : -1074 ≤ yC n e := by unfold yC; split <;> omega
theorem atK {a b : Nat} (h : a ≤ b) : yE a ≤ yE b := yW.2 (Nat.lt_of_le_of_lt h (yW.1 (Nat.le_refl _)))
theorem bcQ {a b : Nat} (h : a ≤ b) (e : Int) : yC a e ≤ yC b e := by
 have := atK h
 unfold yC; split <;> split <;> omega
theorem rne_le {n k b : Nat} {more : Bool} (h : n < 2 ^ (b + k)) : rne n k more ≤ 2 ^ b := by
 have : n / 2 ^ k < 2 ^ b := by rw [Nat.div_lt_iff_lt_mul (Nat.pow_pos (by decide)), ← Nat.pow_add]; exact h
 unfold rne; split <;> omega
theorem aiI (n : Nat) (e : Int) (more : Bool) : aeQ n e more ≤ 9007199254740992 := by
 have hn : n < 2 ^ yE n := yW.1 (Nat.le_refl _)
 have e53 : (9007199254740992 : Nat) = 2 ^ 53 := by decide
 unfold aeQ
 split
 ·rename_i h
  have hb : yE n + (e - yC n e).toNat ≤ 53 := by unfold yC at *; split at h <;> omega
  rw [e53]
  refine Nat.le_trans ?_ (Nat.pow_le_pow_right (by decide) hb)
  rw [Nat.pow_add]
  exact Nat.mul_le_mul_right _ (Nat.le_of_lt hn)
 ·rename_i h
  rw [e53]
  refine rne_le (Nat.lt_of_lt_of_le hn (Nat.pow_le_pow_right (by decide) ?_))
  unfold yC at *; split at h <;> omega
theorem mant_ge {n : Nat} {e : Int} {more : Bool} (h : -1074 < yC n e) (hn : 0 < n) : 4503599627370496 ≤ aeQ n e more := by
 have hb : 2 ^ (yE n - 1) ≤ n := aaT.1 (by have := aaT.2 (show 2 ^ 0 ≤ n from hn); omega)
 have hb0 : 0 < yE n := aaT.2 (show 2 ^ 0 ≤ n from hn)
 have e52 : (4503599627370496 : Nat) = 2 ^ 52 := by decide
 have hu : yC n e = e + yE n - 53 := by unfold yC at *; split at h <;> omega
 unfold aeQ
 split
 ·rw [e52]
  refine Nat.le_trans (Nat.pow_le_pow_right (by decide) (show 52 ≤ yE n - 1 + (e - yC n e).toNat by omega)) ?_
  rw [Nat.pow_add]
  exact Nat.mul_le_mul_right _ hb
 ·have h5 : 2 ^ 52 ≤ n / 2 ^ (yC n e - e).toNat := by
   rw [Nat.le_div_iff_mul_le (Nat.pow_pos (by decide)), ← Nat.pow_add]
   refine Nat.le_trans (Nat.pow_le_pow_right (by decide) ?_) hb
   omega
  unfold rne
  split <;> omega
theorem beH (neg : Bool) (m : Nat) (u : Int) : avI neg m u = abF neg + pk m u := rfl
theorem azH {n1 n2 : Nat} {e : Int} {m1 m2 : Bool} (he : -10000 ≤ e) (he2 : e ≤ 2000) (hn : 0 < n1) (h : n1 < n2 ∨ (n1 = n2 ∧ (m1 = true → m2 = true))) : yG false n1 e m1 ≤ yG false n2 e m2 := by
 have hle : n1 ≤ n2 := by omega
 unfold yG
 rw [if_neg (by omega), if_neg (by omega), if_neg (by omega), if_neg (by omega), beH, beH]
 refine Nat.add_le_add_left ?_ _
 have hu := bcQ hle e
 have l1 := awS n1 e
 rcases Int.lt_or_eq_of_le hu with hlt | heq
 ·refine Nat.le_trans (pk_next l1 (aiI _ _ _)) (Nat.le_trans (packM_up (by omega) (show yC n1 e + 1 ≤ yC n2 e by omega)) ?_)
  have hg := mant_ge (more := m2) (show -1074 < yC n2 e by omega) (show 0 < n2 by omega)
  have := avG (u := yC n2 e) (by omega) hg (aiI _ _ _)
  unfold pk at this ⊢
  rw [if_neg (by decide)] at this
  exact this
 ·rw [← heq]
  refine avG l1 ?_ (aiI _ _ _)
  unfold aeQ
  rw [← heq]
  split
  ·exact Nat.mul_le_mul_right _ hle
  ·exact rne_mono (by omega) h
def ratN (a b k : Nat) : Nat := yG false (a * 2 ^ k / b) (-(k : Int)) (decide (a * 2 ^ k % b ≠ 0))
theorem avJ {m : Nat} (h : m < 9223372036854775808) : (m ||| 9223372036854775808) = 9223372036854775808 + m := by
 have := avK (a := m) (b := 1) (k := 63) (by rw [show (2 : Nat) ^ 63 = 9223372036854775808 by decide]; exact h)
 rw [show 1 * (2 : Nat) ^ 63 = 9223372036854775808 by decide] at this
 omega
theorem packM_lt {m : Nat} {u : Int} (hm : m ≤ 9007199254740991) : acY m u ≤ alR := by
 unfold acY alR
 split
 ·omega
 ·split <;> omega
theorem mant_up {v : Nat} {e : Int} {more : Bool} (h : e < yC v e) :
  aeQ v e more = (if v / 2 ^ ((yC v e - e).toNat - 1) % 2 = 1 ∧ (v % 2 ^ ((yC v e - e).toNat - 1) ≠ 0 ∨ more = true ∨ v / 2 ^ (yC v e - e).toNat % 2 = 1) then v / 2 ^ (yC v e - e).toNat + 1 else v / 2 ^ (yC v e - e).toNat) := by
 unfold aeQ
 rw [if_neg (by omega)]; rfl
theorem asK {v : Nat} {e : Int} {more : Bool} (h : yC v e ≤ e) : aeQ v e more = v * 2 ^ (e - yC v e).toNat := by
 unfold aeQ
 rw [if_pos h]
theorem bbG {v : Nat} {e : Int} (h : e < yC v e) : v / 2 ^ ((yC v e - e).toNat - 1) < 18014398509481984 := by
 have hn : v < 2 ^ yE v := yW.1 (Nat.le_refl _)
 rw [Nat.div_lt_iff_lt_mul (Nat.pow_pos (by decide)), show (18014398509481984 : Nat) = 2 ^ 54 by decide, ← Nat.pow_add]
 refine Nat.lt_of_lt_of_le hn (Nat.pow_le_pow_right (by decide) ?_)
 unfold yC at *
 split at h <;> omega
theorem half_hi {x : Nat} (h : x < 18014398509481984) : x * 2 ^ 63 % M2 / M1 = x / 2 := by
 have e63 : (2 : Nat) ^ 63 = 9223372036854775808 := by decide
 rw [e63]; unfold M1 M2; omega
theorem div_half {v k : Nat} (hk : 1 ≤ k) : v / 2 ^ (k - 1) / 2 = v / 2 ^ k := by
 rw [Nat.div_div_eq_div_mul, ← Nat.pow_succ, show (k - 1).succ = k by omega]
theorem bfV {v : Nat} {e : Int} (h : yC v e ≤ e) : v * 2 ^ (e - yC v e).toNat < M1 := by
 have := aiI v e false
 rw [asK h] at this
 unfold M1; omega
theorem up_room {v : Nat} {e : Int} (h0 : 0 < v) (h : yC v e ≤ e) : e - yC v e ≤ 52 := by
 have hb : 0 < yE v := aaT.2 (show 2 ^ 0 ≤ v from h0)
 unfold yC at *
 split at h <;> omega
theorem take_in {v x : Nat} (hx : x < 4294967296) : v * 2 ^ 32 % M2 / M1 = (v * 4294967296 + x) % M2 / M1 ∧ (v * 2 ^ 32 % M2 % M1 ||| x) = (v * 4294967296 + x) % M2 % M1 := by
 have e32 : (2 : Nat) ^ 32 = 4294967296 := by decide
 have h1 : v * 2 ^ 32 % M2 % M1 ||| x = v * 2 ^ 32 % M2 % M1 + x := by
  have h2 : v * 2 ^ 32 % M2 % M1 = (v % 4294967296) * 2 ^ 32 := by
   rw [shl_lo, e32]; unfold M1; omega
  rw [h2]; exact afE (by rw [e32]; exact hx)
 rw [h1, e32]
 unfold M1 M2
 constructor <;> omega
theorem blen0 {n : Nat} : ((yE n : Nat) : Int) = 0 ↔ n = 0 := by
 have h := @aaT n 0
 rw [Nat.pow_zero] at h
 omega
def baY (n : Nat) (e : Int) : Bool := decide (n = 0 ∨ (e < -10000 ∧ e + yE n < -2000) ∨ 2000 < e)
def farV (neg : Bool) (n : Nat) (e : Int) : Nat := if n = 0 ∨ (e < -10000 ∧ e + yE n < -2000) then abF neg else if 2000 < e then abF neg + alR else 0
theorem far_lo {neg : Bool} {n : Nat} {e : Int} (h : n = 0 ∨ (e < -10000 ∧ e + yE n < -2000)) : farV neg n e = abF neg ∧ baY n e = true := by
 unfold farV baY
 exact ⟨if_pos h, decide_eq_true (by omega)⟩
theorem far_hi {neg : Bool} {n : Nat} {e : Int} (h : ¬ (n = 0 ∨ (e < -10000 ∧ e + yE n < -2000))) (h2 : 2000 < e) : farV neg n e = abF neg + alR ∧ baY n e = true := by
 unfold farV baY
 exact ⟨by rw [if_neg h, if_pos h2], decide_eq_true (by omega)⟩
theorem far_no {neg : Bool} {n : Nat} {e : Int} (h : ¬ (n = 0 ∨ (e < -10000 ∧ e + yE n < -2000))) (h2 : ¬ 2000 < e) : farV neg n e = 0 ∧ baY n e = false := by
 unfold farV baY
 exact ⟨by rw [if_neg h, if_neg h2], decide_eq_false (by omega)⟩
theorem far_true {neg : Bool} {n : Nat} {e : Int} {more : Bool} (h : baY n e = true) : yG neg n e more = farV neg n e := by
 have h := of_decide_eq_true h
 unfold yG farV
 split
 ·rfl
 ·rw [if_pos (by omega), if_pos (by omega)]
theorem asW {neg : Bool} {n : Nat} {e : Int} {more : Bool} (h : baY n e = false) : 0 < n ∧ e ≤ 2000 ∧ -110000 ≤ e + yE n ∧ yG neg n e more = avI neg (aeQ n e more) (yC n e) := by
 have h := of_decide_eq_false h
 refine ⟨by omega, by omega, by omega, ?_⟩
 unfold yG
 rw [if_neg (by omega), if_neg (by omega)]

def asC (m : Nat) : Nat := if m = 9007199254740992 then 4503599627370496 else m
def apR (m : Nat) (u : Int) : Int := if m = 9007199254740992 then u + 1 else u
theorem packN_eq (neg : Bool) (m : Nat) (u : Int) : avI neg m u = abF neg + acY (asC m) (apR m u) := by
 unfold avI asC apR
 split <;> rfl
theorem packA_lt {m : Nat} (h : m ≤ 9007199254740992) : asC m ≤ 9007199254740991 := by unfold asC; split <;> omega
theorem packU_le (m : Nat) (u : Int) : u ≤ apR m u ∧ apR m u ≤ u + 1 := by unfold apR; split <;> omega
theorem shl52 {k : Nat} (h : k ≤ 100000) : k * 2 ^ 52 = k * 4503599627370496 := by rw [show (2 : Nat) ^ 52 = 4503599627370496 by decide]

set_option maxRecDepth 100000 in
theorem aeA (neg : Bool) (m : Nat) (hm : m ≤ 9007199254740992) (u : Int) (hu : -1074 ≤ u ∧ u ≤ 1000000) (H : Heap) : ACall Tryz.prog 239 [.bool neg, .int .u64 (m : Int), .int .i64 u] H (fun y H' => y = .int .u64 ((avI neg m u : Nat) : Int) ∧ H' = H) := by
 refine ACall.of_body Tryz.func239 rfl Tryz.ntmps239 Tryz.results239 rfl ?_
 iterate 2 refine AX ?_
 refine .p rfl (zD (zE 0)) ?_
 iterate 2 refine AX ?_
 refine AWP.seqToL [(1, .int .u64 ((asC m : Nat) : Int)), (2, .int .i64 (apR m u))] [0, 6] ?_ ?_
 ·iterate 3 refine AX ?_
  refine .p rfl (qH (tm rfl) (zE 9007199254740992)) ?_
  iterate 2 refine AX ?_
  refine AWP.cx rfl (fun hc8 => ?_) (fun hc8 => ?_)
  ·iterate 3 refine AX ?_
   refine .p rfl (zD (zE 4503599627370496)) ?_
   iterate 2 refine AX ?_
   exact ⟨rfl, (zZ rfl (by (unfold asC; rw [if_pos (by omega)]; done)) (zZ rfl (by (unfold apR; rw [if_pos (by omega)]; done)) sX)), rfl⟩
  ·refine AX ?_
   exact ⟨rfl, (zZ rfl (by (unfold asC; rw [if_neg (by omega)]; done)) (zZ rfl (by (unfold apR; rw [if_neg (by omega)]; done)) sX)), rfl⟩
 ·refine AWP.sub [(1, _), (2, _), (0, _), (6, _)] sX ?_
  rw [packN_eq]
  have hA := packA_lt hm
  have hU := packU_le m u
  generalize asC m = m1 at hA ⊢
  generalize apR m u = u1 at hU ⊢
  refine AWP.seqToL [(1, .int .u64 ((acY m1 u1 : Nat) : Int))] [2, 0, 6] ?_ ?_
  ·iterate 4 refine AX ?_
   refine .p rfl (abC (tm rfl) (zE 4503599627370496)) ?_
   refine AX ?_
   refine zH (t := 14) rfl (fun hg14 => ?_) (fun hg14 => ?_)
   ·have hh14 := hg14; try simp only [decide_eq_true_eq] at hh14
    iterate 7 refine AX ?_
    refine AWP.cx rfl (fun hc11 => ?_) (fun hc11 => ?_)
    ·try simp only [Bool.and_eq_true, decide_eq_true_eq] at hc11
     refine AX ?_
     refine .p rfl (zD (zE 9218868437227405312)) ?_
     iterate 2 refine AX ?_
     exact ⟨rfl, (zZ rfl (by unfold acY; first | (rw [if_neg (by omega), if_pos (by omega)]; rfl) | (rw [if_pos (by omega)]; done) | (rw [if_neg (by omega), if_neg (by omega), shl52 (by omega)])) sX), rfl⟩
    ·try simp only [Bool.and_eq_false_iff, decide_eq_false_iff_not] at hc11
     iterate 3 refine AX ?_
     refine .p rfl (abC (tm rfl) (zE 4503599627370496)) ?_
     iterate 3 refine AX ?_
     refine AWP.cx rfl (fun hc19 => ?_) (fun hc19 => ?_)
     ·iterate 5 refine AX ?_
      refine .p rfl (.as (b := .int .u64 (((u1 + 1074).toNat : Nat) : Int)) (by congr 1; omega) (qP Tryz.underlying3 Tryz.underlying22 (tm rfl) (wrap64 (by omega) (by omega)))) ?_
      refine .p rfl (yV (tm rfl) (zE 52) (by omega) (by rw [shl52 (by omega)]; omega)) (.p rfl (qB (tm rfl) (tm rfl) (by (rw [shl52 (by omega)]; omega))) ?_)
      iterate 3 refine AX ?_
      exact ⟨rfl, (zZ rfl (by unfold acY; first | (rw [if_neg (by omega), if_pos (by omega)]; rfl) | (rw [if_pos (by omega)]; done) | (rw [if_neg (by omega), if_neg (by omega), shl52 (by omega)])) sX), rfl⟩
     ·iterate 2 refine AX ?_
      exact ⟨rfl, (zZ rfl (by unfold acY; first | (rw [if_neg (by omega), if_pos (by omega)]; rfl) | (rw [if_pos (by omega)]; done) | (rw [if_neg (by omega), if_neg (by omega), shl52 (by omega)])) sX), rfl⟩
   ·have hh14 := hg14; try simp only [decide_eq_false_iff_not, Int.not_le] at hh14
    iterate 7 refine AX ?_
    refine AWP.cond_false (tm rfl) (by rfl) ?_
    iterate 3 refine AX ?_
    refine .p rfl (abC (tm rfl) (zE 4503599627370496)) ?_
    iterate 3 refine AX ?_
    refine AWP.cx rfl (fun hc19 => ?_) (fun hc19 => ?_)
    ·iterate 5 refine AX ?_
     refine .p rfl (.as (b := .int .u64 (((u1 + 1074).toNat : Nat) : Int)) (by congr 1; omega) (qP Tryz.underlying3 Tryz.underlying22 (tm rfl) (wrap64 (by omega) (by omega)))) ?_
     refine .p rfl (yV (tm rfl) (zE 52) (by omega) (by rw [shl52 (by omega)]; omega)) (.p rfl (qB (tm rfl) (tm rfl) (by (rw [shl52 (by omega)]; omega))) ?_)
     iterate 3 refine AX ?_
     exact ⟨rfl, (zZ rfl (by unfold acY; first | (rw [if_neg (by omega), if_pos (by omega)]; rfl) | (rw [if_pos (by omega)]; done) | (rw [if_neg (by omega), if_neg (by omega), shl52 (by omega)])) sX), rfl⟩
    ·iterate 2 refine AX ?_
     exact ⟨rfl, (zZ rfl (by unfold acY; first | (rw [if_neg (by omega), if_pos (by omega)]; rfl) | (rw [if_pos (by omega)]; done) | (rw [if_neg (by omega), if_neg (by omega), shl52 (by omega)])) sX), rfl⟩
  ·refine AWP.sub [(1, _), (2, _), (0, _), (6, _)] sX ?_
   have hM := packM_lt (u := u1) hA
   have hM2 : acY m1 u1 < 9223372036854775808 := Nat.lt_of_le_of_lt hM (by decide)
   iterate 6 refine AX ?_
   refine AWP.cx rfl (fun hc29 => ?_) (fun hc29 => ?_)
   ·iterate 2 refine AX ?_
    refine .p rfl (qW (tm rfl) (zE 9223372036854775808) (by omega) (by omega)) ?_
    iterate 10 refine AX ?_
    refine Ret.go (.cons (.tmp _ _ rfl) .nil) _ (Heap.le.refl _) ?_
    refine ⟨?_, rfl⟩
    simp only [zU, abF]
    rw [if_pos (by assumption), avJ hM2]
   ·iterate 9 refine AX ?_
    refine Ret.go (.cons (.tmp _ _ rfl) .nil) _ (Heap.le.refl _) ?_
    refine ⟨?_, rfl⟩
    simp only [zU, abF]
    rw [if_neg (by simp_all), Nat.zero_add]

set_option maxRecDepth 100000 in
theorem ayT (n : Nat) (e : Int) (hn : yE n ≤ 100000) (he : -1000000000000000 ≤ e ∧ e ≤ 1000000000000000) (H : Heap) : ACall Tryz.prog 238 [.int .i64 (yE n : Int), .int .i64 e] H (fun y H' => y = .int .i64 (yC n e) ∧ H' = H) := by
 refine ACall.of_body Tryz.func238 rfl Tryz.ntmps238 Tryz.results238 rfl ?_
 iterate 16 refine AX ?_
 refine Ret.go (.cons (.tmp _ _ rfl) .nil) _ (Heap.le.refl _) ?_
 refine ⟨?_, rfl⟩
 simp only [zU, yC, asQ] <;> (congr 1; split <;> split <;> omega)

set_option maxRecDepth 100000 in
theorem bgA (neg : Bool) (n : Nat) (e : Int) (hn : yE n ≤ 100000) (he : -1000000000000000 ≤ e ∧ e ≤ 1000000000000000) (H : Heap) : ACall Tryz.prog 237 [.bool neg, .int .i64 (yE n : Int), .int .i64 e] H (fun y H' => y = .tuple [.int .u64 ((farV neg n e : Nat) : Int), .bool (baY n e)] ∧ H' = H) := by
 have hb0 := @blen0 n
 refine ACall.of_body Tryz.func237 rfl Tryz.ntmps237 Tryz.results237 rfl ?_
 iterate 2 refine AX ?_
 refine .p rfl (zD (zE 0)) ?_
 iterate 10 refine AX ?_
 refine zH (t := 11) rfl (fun hg11 => ?_) (fun hg11 => ?_)
 ·have hh11 := hg11; try simp only [decide_eq_true_eq] at hh11
  iterate 12 refine AX ?_
  refine AWP.cond_true (tm rfl) (by rfl) ?_
  iterate 3 refine AX ?_
  refine .cl rfl Tryz.call239 (.cons (tm rfl) (.cons (zE 0) (.cons zI .nil))) (aeA _ _ (by omega) _ (by omega) _) ?_
  iterate 7 refine AX ?_
  refine Ret.go (.cons (.tmp _ _ rfl) (.cons (.tmp _ _ rfl) .nil)) _ (Heap.le.refl _) ?_
  refine ⟨?_, rfl⟩
  obtain ⟨e1, e2⟩ := far_lo (neg := neg) (n := n) (e := e) (by omega)
  rw [e1, e2]
  rfl
 ·have hh11 := hg11; try simp only [decide_eq_false_iff_not] at hh11
  iterate 3 refine AX ?_
  refine zH (t := 14) rfl (fun hg14 => ?_) (fun hg14 => ?_)
  ·have hh14 := hg14; try simp only [decide_eq_true_eq] at hh14
   iterate 9 refine AX ?_
   refine AWP.cx rfl (fun hc8 => ?_) (fun hc8 => ?_)
   ·iterate 3 refine AX ?_
    refine .cl rfl Tryz.call239 (.cons (tm rfl) (.cons (zE 0) (.cons zI .nil))) (aeA _ _ (by omega) _ (by omega) _) ?_
    iterate 7 refine AX ?_
    refine Ret.go (.cons (.tmp _ _ rfl) (.cons (.tmp _ _ rfl) .nil)) _ (Heap.le.refl _) ?_
    refine ⟨?_, rfl⟩
    obtain ⟨e1, e2⟩ := far_lo (neg := neg) (n := n) (e := e) (by omega)
    rw [e1, e2]
    rfl
   ·iterate 7 refine AX ?_
    refine AWP.cx rfl (fun hc23 => ?_) (fun hc23 => ?_)
    ·iterate 3 refine AX ?_
     refine .cl rfl Tryz.call239 (.cons (tm rfl) (.cons (zE 4503599627370496) (.cons zI .nil))) (aeA _ _ (by omega) _ (by omega) _) ?_
     iterate 7 refine AX ?_
     refine Ret.go (.cons (.tmp _ _ rfl) (.cons (.tmp _ _ rfl) .nil)) _ (Heap.le.refl _) ?_
     refine ⟨?_, rfl⟩
     obtain ⟨e1, e2⟩ := far_hi (neg := neg) (n := n) (e := e) (by omega) (by omega)
     rw [e1, e2]
     rfl
    ·iterate 5 refine AX ?_
     refine .p rfl (zD (zE 0)) ?_
     iterate 4 refine AX ?_
     refine Ret.go (.cons (.tmp _ _ rfl) (.cons (.tmp _ _ rfl) .nil)) _ (Heap.le.refl _) ?_
     refine ⟨?_, rfl⟩
     obtain ⟨e1, e2⟩ := far_no (neg := neg) (n := n) (e := e) (by omega) (by omega)
     rw [e1, e2]
     rfl
  ·have hh14 := hg14; try simp only [decide_eq_false_iff_not, Int.not_lt] at hh14
   iterate 9 refine AX ?_
   refine AWP.cond_false (tm rfl) (by rfl) ?_
   iterate 7 refine AX ?_
   refine AWP.cx rfl (fun hc23 => ?_) (fun hc23 => ?_)
   ·iterate 3 refine AX ?_
    refine .cl rfl Tryz.call239 (.cons (tm rfl) (.cons (zE 4503599627370496) (.cons zI .nil))) (aeA _ _ (by omega) _ (by omega) _) ?_
    iterate 7 refine AX ?_
    refine Ret.go (.cons (.tmp _ _ rfl) (.cons (.tmp _ _ rfl) .nil)) _ (Heap.le.refl _) ?_
    refine ⟨?_, rfl⟩
    obtain ⟨e1, e2⟩ := far_hi (neg := neg) (n := n) (e := e) (by omega) (by omega)
    rw [e1, e2]
    rfl
   ·iterate 5 refine AX ?_
    refine .p rfl (zD (zE 0)) ?_
    iterate 4 refine AX ?_
    refine Ret.go (.cons (.tmp _ _ rfl) (.cons (.tmp _ _ rfl) .nil)) _ (Heap.le.refl _) ?_
    refine ⟨?_, rfl⟩
    obtain ⟨e1, e2⟩ := far_no (neg := neg) (n := n) (e := e) (by omega) (by omega)
    rw [e1, e2]
    rfl
def dM (v : Nat) (k : Int) : Nat := if k ≤ 0 then v * 2 ^ (-k).toNat else v / 2 ^ k.toNat
def dH (v : Nat) (k : Int) : Bool := decide (0 < k ∧ v / 2 ^ (k.toNat - 1) % 2 = 1)
def dR (v : Nat) (k : Int) : Bool := decide (0 < k ∧ v % 2 ^ (k.toNat - 1) ≠ 0)
theorem if_iff {P Q : Prop} [Decidable P] [Decidable Q] (h : P ↔ Q) (a b : Nat) : (if P then a else b) = if Q then a else b := by
 by_cases hp : P
 ·rw [if_pos hp, if_pos (h.1 hp)]
 ·rw [if_neg hp, if_neg (fun q => hp (h.2 q))]
theorem mant_d (v : Nat) (e : Int) (more : Bool) :
  aeQ v e more = if (dH v (yC v e - e) && (dR v (yC v e - e) || more || decide (((dM v (yC v e - e) &&& 1 : Nat) : Int) = ((1 : Nat) : Int)))) = true then dM v (yC v e - e) + 1 else dM v (yC v e - e) := by
 have e1 : ∀ x : Nat, (decide (((x &&& 1 : Nat) : Int) = ((1 : Nat) : Int))) = decide (x % 2 = 1) := fun x => by
  refine decide_eq_decide.2 ?_
  rw [show (1 : Nat) = 2 ^ 1 - 1 by decide, Nat.and_two_pow_sub_one_eq_mod]
  omega
 rw [e1]
 by_cases h : yC v e ≤ e
 ·have hd : dM v (yC v e - e) = aeQ v e more := by
   rw [asK h]; unfold dM; rw [if_pos (by omega)]; congr 2; omega
  have hh : dH v (yC v e - e) = false := by unfold dH; exact decide_eq_false (by omega)
  rw [hh, Bool.false_and, if_neg (by decide), hd]
 ·have hd : dM v (yC v e - e) = v / 2 ^ (yC v e - e).toNat := by unfold dM; rw [if_neg (by omega)]
  have hp : 0 < yC v e - e := by omega
  rw [mant_up (by omega), hd]
  have hH : dH v (yC v e - e) = decide (v / 2 ^ ((yC v e - e).toNat - 1) % 2 = 1) := by unfold dH; exact decide_eq_decide.2 ⟨fun q => q.2, fun q => ⟨hp, q⟩⟩
  have hR : dR v (yC v e - e) = decide (v % 2 ^ ((yC v e - e).toNat - 1) ≠ 0) := by unfold dR; exact decide_eq_decide.2 ⟨fun q => q.2, fun q => ⟨hp, q⟩⟩
  rw [hH, hR]
  refine if_iff ?_ _ _
  simp only [Bool.and_eq_true, Bool.or_eq_true, decide_eq_true_eq, or_assoc]

set_option maxRecDepth 100000 in
theorem arH (neg : Bool) (n : Nat) (e : Int) (more : Bool) (hn : yE n ≤ 100000) (he : -1000000000000000 ≤ e ∧ e ≤ 1000000000000000) (f : FuncId) (cap : List AV) (H : Heap) (hent : ∀ args w, (callFunc f args).run Tryz.prog w = .ok (.enter f args) w) (hf : baY n e = false → ACall Tryz.prog f ([.int .i64 (yC n e - e)] ++ cap) H (fun y H' => y = .tuple [.int .u64 ((dM n (yC n e - e) : Nat) : Int), .bool (dH n (yC n e - e)), .bool (dR n (yC n e - e))] ∧ H' = H)) : ACall Tryz.prog 184 [.bool neg, .int .i64 (yE n : Int), .int .i64 e, .bool more, .func f cap] H (fun y H' => y = .int .u64 ((yG neg n e more : Nat) : Int) ∧ H' = H) := by
 have hmd := mant_d n e more
 have hml := aiI n e more
 have hdm : dM n (yC n e - e) ≤ 9007199254740992 := by rw [hmd] at hml; split at hml <;> omega
 have hul := awS n e
 have hur : yC n e ≤ 1000000000000000 + 100000 := by unfold yC; split <;> omega
 refine ACall.of_body Tryz.func184 rfl Tryz.ntmps184 Tryz.results184 rfl ?_
 iterate 2 refine AX ?_
 refine .p rfl (zD (zE 0)) ?_
 iterate 8 refine AX ?_
 refine .cl rfl Tryz.call237 (evs3 rfl rfl rfl) (bgA neg n e hn he _) ?_
 iterate 12 refine AX ?_
 refine AWP.cx rfl (fun hc24 => ?_) (fun hc24 => ?_)
 ·have hfar : baY n e = true := hc24
  iterate 8 refine AX ?_
  refine Ret.go (.cons (.tmp _ _ rfl) .nil) _ (Heap.le.refl _) ?_
  refine ⟨?_, rfl⟩
  rw [far_true hfar]; rfl
 ·have hfar : baY n e = false := hc24
  obtain ⟨hf1, hf2, hf3, hf4⟩ := asW (neg := neg) (more := more) hfar
  have hup : yC n e ≤ 1000000 := by unfold yC; split <;> omega
  iterate 6 refine AX ?_
  refine .cl rfl Tryz.call238 (evs2 rfl rfl) (ayT n e hn he _) ?_
  iterate 9 refine AX ?_
  refine .e rfl (akI hent (tm rfl) (evs1 rfl) (hf hfar)) ?_
  iterate 9 refine AX ?_
  refine AWP.seqToL [(14, .int .u64 ((aeQ n e more : Nat) : Int))] [0, 10, 13] ?_ ?_
  ·refine AWP.seqTo 49 (.bool ((dH n (yC n e - e) && (dR n (yC n e - e) || more || decide (((dM n (yC n e - e) &&& 1 : Nat) : Int) = ((1 : Nat) : Int)))))) [0, 10, 13, 14] ?_ ?_
   ·-- region 6
    iterate 3 refine AX ?_
    refine zH (t := 39) rfl (fun hg39 => ?_) (fun hg39 => ?_)
    ·iterate 2 refine AX ?_
     refine zH (t := 41) rfl (fun hg41 => ?_) (fun hg41 => ?_)
     ·iterate 9 refine AX ?_
      exact ⟨rfl, zS rfl (by (rw [show dH n (yC n e - e) = _ from hg39, show dR n (yC n e - e) = _ from hg41]; rfl)) sX, rfl⟩
     ·iterate 3 refine AX ?_
      refine zH (t := 44) rfl (fun hg44 => ?_) (fun hg44 => ?_)
      ·iterate 6 refine AX ?_
       exact ⟨rfl, zS rfl (by (rw [show dH n (yC n e - e) = _ from hg39, show dR n (yC n e - e) = _ from hg41, show more = _ from hg44]; rfl)) sX, rfl⟩
      ·refine AX ?_
       refine .gp rfl rfl rfl (by assumption) (qQ (tm rfl) (zE 1) (by omega) (by omega)) (.gp rfl rfl rfl (by assumption) (qH (tm rfl) (zE 1)) ?_)
       iterate 3 refine AX ?_
       exact ⟨rfl, zS rfl (by (rw [show dH n (yC n e - e) = _ from hg39, show dR n (yC n e - e) = _ from hg41, show more = _ from hg44]; rfl)) sX, rfl⟩
    ·iterate 11 refine AX ?_
     exact ⟨rfl, zS rfl (by (rw [show dH n (yC n e - e) = _ from hg39]; rfl)) sX, rfl⟩
   ·refine AWP.sub [(49, _), (0, _), (10, _), (13, _), (14, _)] sX ?_
    refine AWP.cx rfl (fun hc49 => ?_) (fun hc49 => ?_)
    ·rw [if_pos hc49] at hmd
     iterate 2 refine AX ?_
     refine .p rfl (qB (tm rfl) (zE 1) (by omega)) ?_
     iterate 2 refine AX ?_
     exact ⟨rfl, (zZ rfl (by rw [hmd]) sX), rfl⟩
    ·rw [if_neg (by rw [hc49]; decide)] at hmd
     refine AX ?_
     exact ⟨rfl, (zZ rfl (by rw [hmd]) sX), rfl⟩
  ·refine AWP.sub [(14, _), (0, _), (10, _), (13, _)] sX ?_
   iterate 5 refine AX ?_
   refine .cl rfl Tryz.call239 (evs3 rfl rfl rfl) (aeA neg _ hml _ (by constructor <;> omega) _) ?_
   iterate 4 refine AX ?_
   refine Ret.go (.cons (.tmp _ _ rfl) .nil) _ (Heap.le.refl _) ?_
   refine ⟨?_, rfl⟩
   rw [hf4]; rfl

set_option maxRecDepth 100000 in
theorem bbH (v : Nat) (hv : v < M2) (k : Int) (hk : -52 ≤ k ∧ k ≤ 1000000) (h0 : k ≤ 0 → v * 2 ^ (-k).toNat < M1) (h1 : 0 < k → v / 2 ^ (k.toNat - 1) < 18014398509481984) (H : Heap) : ACall Tryz.prog 186 [.int .i64 k, .iptr (u2 v).cells] H (fun y H' => y = .tuple [.int .u64 ((dM v k : Nat) : Int), .bool (dH v k), .bool (dR v k)] ∧ H' = H) := by
 refine ACall.of_body Tryz.func186 rfl Tryz.ntmps186 Tryz.results186 rfl ?_
 iterate 2 refine AX ?_
 refine .p rfl (zD (zE 0)) ?_
 iterate 11 refine AX ?_
 refine AWP.cx rfl (fun hc9 => ?_) (fun hc9 => ?_)
 ·have hq := h0 (by omega)
  iterate 5 refine AX ?_
  refine .cl rfl Tryz.call187 (evs2 rfl rfl) (adT v (-k).toNat (by omega) (-k) (by omega) _) (.p rfl (ajA Tryz.underlying149 rfl Tryz.isAgg22 Tryz.sizeOf22 (tm rfl) rfl) ?_)
  iterate 7 refine AX ?_
  refine Ret.go (.cons (.tmp _ _ rfl) (.cons (.tmp _ _ rfl) (.cons (.tmp _ _ rfl) .nil))) _ (Heap.le.refl _) ?_
  refine ⟨?_, rfl⟩
  have e1 : dM v k = v * 2 ^ (-k).toNat := by unfold dM; rw [if_pos (by omega)]
  have e2 : dH v k = false := by unfold dH; exact decide_eq_false (by omega)
  have e3 : dR v k = false := by unfold dR; exact decide_eq_false (by omega)
  have e4 : v * 2 ^ (-k).toNat % M2 % M1 = v * 2 ^ (-k).toNat := by rw [Nat.mod_eq_of_lt (Nat.lt_trans hq (by decide +kernel)), Nat.mod_eq_of_lt hq]
  rw [e1, e2, e3]
  show AV.tuple [.int .u64 ((v * 2 ^ (-k).toNat % M2 % M1 : Nat) : Int), _, _] = _
  rw [e4]
 ·have hq := h1 (by omega)
  have hqm : v / 2 ^ (k.toNat - 1) % M1 < 18446744073709551616 := adA _
  iterate 7 refine AX ?_
  refine .cl rfl Tryz.call188 (evs2 rfl rfl) (ahW v hv (k.toNat - 1) (by omega) (k - 1) (by omega) _) ?_
  iterate 3 refine AX ?_
  refine .s rfl (zG Tryz.zeroValue149 (zr149)) ?_
  rintro _ _ ⟨b6, hb6, rfl, hH⟩
  obtain rfl := hH.symm
  refine .e0 (zB Tryz.sizeOf149 (tm rfl) (tm rfl) rfl rfl (.inr ⟨_, rfl⟩) (Heap.objs_set_same _ _ _) (Nat.le_of_ble_eq_true rfl)) ?_
  try first | rw [Heap.set_set] | rw [Heap.set_under (by assumption)]
  iterate 3 refine AX ?_
  refine AWP.frz (t := 6) rfl (hb6) ?_
  refine AX ?_
  refine AWP.draw [(0, true), (3, true), (4, true), (5, true), (6, true), (7, true), (1, false), (2, true), (8, true), (9, true), (10, true)] rfl (by decide +kernel) ?_
  refine AX ?_
  refine .p rfl rfl (zA Tryz.underlying149 rfl Tryz.sizeOf22 (tm rfl)) ?_
  refine AX ?_
  refine .p rfl rfl (qQ (tm rfl) (zE 1) (by assumption) (by omega)) (.p rfl rfl (qH (tm rfl) (zE 1)) ?_)
  refine AX ?_
  refine .s rfl rfl (zC Tryz.call187 (.cons (tm rfl) (.cons zI .nil)) (adT (v / 2 ^ (k.toNat - 1)) 63 (by decide) 63 rfl _)) ?_
  rintro _ _ ⟨rfl, hH⟩
  obtain rfl := hH.symm
  refine .p rfl rfl (ajA Tryz.underlying149 rfl Tryz.isAgg22 Tryz.sizeOf22 (tm rfl) rfl) ?_
  iterate 6 refine AX ?_
  refine Ret.go (.cons (.tmp _ _ rfl) (.cons (.tmp _ _ rfl) (.cons (.tmp _ _ rfl) .nil))) _ (Heap.le.refl _) ?_
  refine ⟨?_, rfl⟩
  have e1 : dM v k = v / 2 ^ k.toNat := by unfold dM; rw [if_neg (by omega)]
  have e2 : dH v k = decide (v / 2 ^ (k.toNat - 1) % 2 = 1) := by unfold dH; exact decide_eq_decide.2 ⟨fun q => q.2, fun q => ⟨by omega, q⟩⟩
  have e3 : dR v k = decide (v % 2 ^ (k.toNat - 1) ≠ 0) := by unfold dR; exact decide_eq_decide.2 ⟨fun q => q.2, fun q => ⟨by omega, q⟩⟩
  have e4 : v / 2 ^ (k.toNat - 1) * 2 ^ 63 % M2 / M1 = v / 2 ^ k.toNat := by rw [half_hi hq, div_half (by omega)]
  have e5 : decide (((v / 2 ^ (k.toNat - 1) % M1 &&& 1 : Nat) : Int) = ((1 : Nat) : Int)) = decide (v / 2 ^ (k.toNat - 1) % 2 = 1) := by
   refine decide_eq_decide.2 ?_
   rw [Nat.mod_eq_of_lt (Nat.lt_trans hq (by decide +kernel)), show (1 : Nat) = 2 ^ 1 - 1 by decide, Nat.and_two_pow_sub_one_eq_mod]
   omega
  rw [e1, e2, e3]
  show AV.tuple [.int .u64 ((v / 2 ^ (k.toNat - 1) * 2 ^ 63 % M2 / M1 : Nat) : Int), .bool (decide (((v / 2 ^ (k.toNat - 1) % M1 &&& 1 : Nat) : Int) = ((1 : Nat) : Int))), _] = _
  rw [e4, e5]

theorem wLen2 (v : Nat) (hv : v < M2) (H : Heap) : ACall Tryz.prog 185 [u2 v] H (fun y H' => y = .int .i64 (yE v : Int) ∧ H' = H) := by
 have h := ayQ (v / M1) (v % M1) (baR hv) (adA v) H
 rw [show v / M1 * 18446744073709551616 + v % M1 = v from by have := Nat.div_add_mod v M1; rw [Nat.mul_comm] at this; exact this] at h
 exact h
theorem down_ok (v : Nat) (hv : v < M2) (e : Int) (hfar : baY v e = false) (H : Heap) : ACall Tryz.prog 186 ([.int .i64 (yC v e - e)] ++ [.iptr (u2 v).cells]) H (fun y H' => y = .tuple [.int .u64 ((dM v (yC v e - e) : Nat) : Int), .bool (dH v (yC v e - e)), .bool (dR v (yC v e - e))] ∧ H' = H) := by
 obtain ⟨h0, h1, h2, h3⟩ := asW (neg := false) (more := false) hfar
 have hb : yE v ≤ 128 := yW.2 (by rw [show (2 : Nat) ^ 128 = M2 by decide +kernel]; exact hv)
 refine bbH v hv (yC v e - e) ⟨?_, ?_⟩ (fun q => ?_) (fun q => ?_) H
 ·rcases Int.lt_or_le e (yC v e) with h | h
  ·omega
  ·have := up_room h0 h; omega
 ·unfold yC; split <;> omega
 ·have := bfV (v := v) (e := e) (by omega)
  rw [show (-(yC v e - e)).toNat = (e - yC v e).toNat by omega]; exact this
 ·exact bbG (by omega)

set_option maxRecDepth 100000 in
theorem abM (neg : Bool) (v : Nat) (hv : v < M2) (e : Int) (he : -1000000000000000 ≤ e ∧ e ≤ 1000000000000000) (more : Bool) (H : Heap) : ACall Tryz.prog 122 [.bool neg, u2 v, .int .i64 e, .bool more] H (fun y H' => y = .int .u64 ((yG neg v e more : Nat) : Int) ∧ H' = H) := by
 refine ACall.of_body Tryz.func122 rfl Tryz.ntmps122 Tryz.results122 rfl ?_
 iterate 2 refine AX ?_
 refine .e rfl (zO (tm rfl) (.inr ⟨_, rfl⟩)) (.p rfl (zD (zE 0)) ?_)
 iterate 6 refine AX ?_
 refine .cl rfl Tryz.call185 (evs1 rfl) (wLen2 v hv _) ?_
 iterate 2 refine AX ?_
 refine .p rfl (azR (tm rfl)) ?_
 refine .cl rfl Tryz.call184 (.cons (tm rfl) (.cons (tm rfl) (evs3 rfl rfl rfl))) (arH neg v e more (by have : yE v ≤ 128 := yW.2 (by rw [show (2 : Nat) ^ 128 = M2 by decide +kernel]; exact hv); omega) he 186 [.iptr (u2 v).cells] _ Tryz.call186 (fun hfar => down_ok v hv e hfar _)) ?_
 iterate 4 refine AX ?_
 refine Ret.go (.cons (.tmp _ _ rfl) .nil) _ (Heap.le.refl _) ?_
 exact ⟨rfl, rfl⟩
def arX (k : Int) : Int := if k < 0 then -((yE (10 ^ (-k).toNat) + 127 : Nat) : Int) else (yE (10 ^ k.toNat) : Int) - 128
def agP (k : Int) : Nat :=
 if k < 0 then 2 ^ (yE (10 ^ (-k).toNat) + 127) / 10 ^ (-k).toNat
 else if yE (10 ^ k.toNat) ≤ 128 then 10 ^ k.toNat * 2 ^ (128 - yE (10 ^ k.toNat))
 else 10 ^ k.toNat / 2 ^ (yE (10 ^ k.toNat) - 128)
def bcG (k : Int) : Bool := if k < 0 then false else decide (yE (10 ^ k.toNat) ≤ 128 ∨ 10 ^ k.toNat % 2 ^ (yE (10 ^ k.toNat) - 128) = 0)
def akX (m : Nat) (k : Int) : Nat := yG false (agP k * m) (arX k) false
def arQ (m : Nat) (k : Int) : Bool := bcG k || decide (yG false ((agP k + 1) * m) (arX k) false = akX m k)
def azC (m : Nat) (k : Int) : Nat := yE (10 ^ (-k).toNat) + 66 - yE m
def aoX (m : Nat) (k : Int) : Nat := if 0 ≤ k then yG false (m * 10 ^ k.toNat) 0 false else ratN m (10 ^ (-k).toNat) (azC m k)

theorem auE (j : Nat) : 0 < 10 ^ j := Nat.pow_pos (by decide)
theorem atJ {n : Nat} (h : 0 < n) : 0 < yE n := aaT.2 (by rw [Nat.pow_zero]; exact h)
theorem blen_lo {n : Nat} (h : 0 < n) : 2 ^ (yE n - 1) ≤ n := aaT.1 (by have := atJ h; omega)
theorem aqK (n : Nat) : n < 2 ^ yE n := yW.1 (Nat.le_refl _)
theorem abB (n : Nat) (e : Int) (more : Bool) : yG false n e more ≤ alR := by
 unfold yG
 split
 ·exact Nat.zero_le _
 ·split
  ·exact Nat.le_of_eq (by unfold abF; simp)
  ·rw [beH]
   have h := aiI n e more
   unfold abF pk
   rw [if_neg (by decide), Nat.zero_add]
   split
   ·exact asB _ _ (by decide)
   ·exact asB _ _ (by omega)
end Go.Proofs.YtmmgbnolccpjoaaGreatDoor
