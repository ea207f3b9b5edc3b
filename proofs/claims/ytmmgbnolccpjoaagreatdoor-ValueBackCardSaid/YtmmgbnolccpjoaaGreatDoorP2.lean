import Derived.Test.YtmmgbnolccpjoaaGreatDoorP1
namespace Go.Proofs.YtmmgbnolccpjoaaGreatDoor
open Go Go.RowKit

variable {a b j k m n v : Nat} {more neg : Bool} {u : Int}
def rne (n k : Nat) (more : Bool) : Nat :=
 if n / 2 ^ (k - 1) % 2 = 1 ∧ (n % 2 ^ (k - 1) ≠ 0 ∨ more = true ∨ n / 2 ^ k % 2 = 1) then n / 2 ^ k + 1 else n / 2 ^ k
def yH (n : Nat) (e : Int) : Int := if e + yJ n - 53 < -1074 then -1074 else e + yJ n - 53
def acG (n : Nat) (e : Int) (more : Bool) : Nat := if yH n e ≤ e then n * 2 ^ (e - yH n e).toNat else rne n (yH n e - e).toNat more
def akT : Nat := 9218868437227405312
def aaH (neg : Bool) : Nat := if neg = true then 9223372036854775808 else 0
def acQ (m : Nat) (u : Int) : Nat :=
 if m < 4503599627370496 then m
 else if u + 1075 ≥ 2047 then akT
 else m + (u + 1074).toNat * 4503599627370496
def azM (neg : Bool) (m : Nat) (u : Int) : Nat := aaH neg + (if m = 9007199254740992 then acQ 4503599627370496 (u + 1) else acQ m u)
def yB (neg : Bool) (n : Nat) (e : Int) (more : Bool) : Nat :=
 if n = 0 ∨ (e < -10000 ∧ e + yJ n < -2000) then aaH neg
 else if 2000 < e then aaH neg + akT
 else azM neg (acG n e more) (yH n e)
theorem baT (h : 0 < n / 2 ^ j) : yJ n = yJ (n / 2 ^ j) + j := by
 have h1 : yJ n ≤ yJ (n / 2 ^ j) + j := by
  rw [qB, bB]
  exact (bJ (bI (by decide))).1 (qB.1 (aX _))
 have h2 : yJ (n / 2 ^ j) + j ≤ yJ n := by
  have hb : 0 < yJ (n / 2 ^ j) := aaX.2 (by rw [dC]; exact h)
  have h3 : 2 ^ (yJ (n / 2 ^ j) - 1) ≤ n / 2 ^ j := aaX.1 (by omega)
  have h4 : 2 ^ (yJ (n / 2 ^ j) - 1 + j) ≤ n := by
   rw [bB]
   exact aZ (aV _ h3) (eD _ _)
  have := aaX.2 h4
  omega
 omega
theorem rne_cut (hk : 2 ≤ k) : rne n (k + j) more = rne (n / 2 ^ j) k (more || decide (n % 2 ^ j ≠ 0)) := by
 have e1 : n / 2 ^ (k + j) = n / 2 ^ j / 2 ^ k := by rw [bU, ← bB, eL]
 have e2 : n / 2 ^ (k + j - 1) = n / 2 ^ j / 2 ^ (k - 1) := by rw [bU, ← bB, show k + j - 1 = j + (k - 1) by omega]
 have e3 : n % 2 ^ (k + j - 1) ≠ 0 ↔ (n % 2 ^ j ≠ 0 ∨ n / 2 ^ j % 2 ^ (k - 1) ≠ 0) := by
  rw [show k + j - 1 = j + (k - 1) by omega, bB, Nat.mod_mul]
  have h : 0 < 2 ^ j := bI (by decide)
  constructor
  ·grind
  rintro (q | q) h1
  ·omega
  have : 0 < 2 ^ j * (n / 2 ^ j % 2 ^ (k - 1)) := fO h (eI q)
  omega
 unfold rne
 rw [e1, e2]
 have e4 : (n % 2 ^ (k + j - 1) ≠ 0 ∨ more = true ∨ n / 2 ^ j / 2 ^ k % 2 = 1) ↔ (n / 2 ^ j % 2 ^ (k - 1) ≠ 0 ∨ (more || decide (n % 2 ^ j ≠ 0)) = true ∨ n / 2 ^ j / 2 ^ k % 2 = 1) := by
  rw [e3, cV, aM]
  constructor
  ·grind
  grind
 simp only [e4]
theorem anK {e : Int} (hb : 55 ≤ yJ (n / 2 ^ j)) (he : -10000 ≤ e) (he2 : e ≤ 2000) :
  yB neg n e more = yB neg (n / 2 ^ j) (e + j) (more || decide (n % 2 ^ j ≠ 0)) := by
 have hp : 0 < n / 2 ^ j := by
  have := aaX.1 (show 0 < yJ (n / 2 ^ j) by omega)
  rw [dC] at this; exact this
 have hn : 0 < n := by
  rcases aY n with h | h
  ·subst h; simp at hp
  exact h
 have hl := baT hp
 have hu : yH n e = yH (n / 2 ^ j) (e + j) := by unfold yH; rw [hl]; split <;> split <;> omega
 have hu2 : yH n e ≥ e + j + 2 := by unfold yH; split <;> omega
 have hm : acG n e more = acG (n / 2 ^ j) (e + j) (more || decide (n % 2 ^ j ≠ 0)) := by
  unfold acG
  rw [aN (by omega), ← hu, aN (by omega), show (yH n e - e).toNat = (yH n e - (e + j)).toNat + j by omega]
  exact rne_cut (by omega)
 unfold yB
 rw [aN (by omega), aN (by omega), aN (by omega), hm, hu]
 by_cases h2 : 2000 < e + (j : Int)
 ·rw [aO h2]
  -- far above: endless
  have hu3 : yH (n / 2 ^ j) (e + j) = e + j + yJ (n / 2 ^ j) - 53 := by unfold yH; split <;> omega
  have hge : 4503599627370496 ≤ acG (n / 2 ^ j) (e + j) (more || decide (n % 2 ^ j ≠ 0)) := by
   unfold acG
   rw [aN (by omega)]
   have h5 : 2 ^ 52 ≤ n / 2 ^ j / 2 ^ (yH (n / 2 ^ j) (e + j) - (e + j)).toNat := by
    rw [cZ (bI (by decide)), ← bB]
    refine aaX.1 ?_
    omega
   unfold rne
   split <;> omega
  unfold azM
  split
  ·unfold acQ; rw [aN (by omega), aO (by omega)]
  unfold acQ; rw [aN (by omega), aO (by omega)]
 grind
theorem rne_mono {n1 n2 : Nat} {m1 m2 : Bool} (hk : 1 ≤ k) (h : n1 < n2 ∨ (n1 = n2 ∧ (m1 = true → m2 = true))) : rne n1 k m1 ≤ rne n2 k m2 := by
 have hn : n1 ≤ n2 := by omega
 have hp : 2 ^ k = 2 ^ (k - 1) * 2 := by rw [← bO, show (k - 1).succ = k by omega]
 have hq : n1 / 2 ^ (k - 1) ≤ n2 / 2 ^ (k - 1) := Nat.div_le_div_right hn
 have e1 : n1 / 2 ^ k = n1 / 2 ^ (k - 1) / 2 := by rw [hp, bU]
 have e2 : n2 / 2 ^ k = n2 / 2 ^ (k - 1) / 2 := by rw [hp, bU]
 have d1 := cD n1 (2 ^ (k - 1))
 have d2 := cD n2 (2 ^ (k - 1))
 unfold rne
 rw [e1, e2]
 generalize n1 / 2 ^ (k - 1) = q1 at *
 generalize n2 / 2 ^ (k - 1) = q2 at *
 generalize hr1 : n1 % 2 ^ (k - 1) = r1 at *
 generalize hr2 : n2 % 2 ^ (k - 1) = r2 at *
 rcases bZ q1 q2 with hlt | hge
 ·grind
 grind
def pk (m : Nat) (u : Int) : Nat := if m = 9007199254740992 then acQ 4503599627370496 (u + 1) else acQ m u
theorem avW (m : Nat) (u : Int) (h : m < 9007199254740992) : acQ m u ≤ akT := by
 unfold acQ akT
 split
 ·omega
 grind
theorem azK {m1 m2 : Nat} (hu : -1074 ≤ u) (h : m1 ≤ m2) (h2 : m2 ≤ 9007199254740992) : pk m1 u ≤ pk m2 u := by
 unfold pk acQ akT
 repeat' split
 all_goals omega
theorem pk_next (hu : -1074 ≤ u) (h : m ≤ 9007199254740992) : pk m u ≤ acQ 4503599627370496 (u + 1) := by
 have := azK hu h (aX _)
 unfold pk at this ⊢
 rw [aO rfl] at this
 exact this
theorem packM_up {u1 u2 : Int} (h1 : -1074 ≤ u1) (h : u1 ≤ u2) : acQ 4503599627370496 u1 ≤ acQ 4503599627370496 u2 := by
 unfold acQ akT
 repeat' split
 all_goals omega
theorem asF (n : Nat) (e : Int) : -1074 ≤ yH n e := by unfold yH; split <;> omega
theorem agF (h : a ≤ b) : yJ a ≤ yJ b := qB.2 (aR h (qB.1 (aX _)))
theorem biD (h : a ≤ b) (e : Int) : yH a e ≤ yH b e := by
 have := agF h
 unfold yH; split <;> split <;> omega
theorem rne_le (h : n < 2 ^ (b + k)) : rne n k more ≤ 2 ^ b := by
 have : n / 2 ^ k < 2 ^ b := by rw [bJ (bI (by decide)), ← bB]; exact h
 unfold rne; split <;> omega
theorem ajB (n : Nat) (e : Int) (more : Bool) : acG n e more ≤ 9007199254740992 := by
 have hn : n < 2 ^ yJ n := qB.1 (aX _)
 have e53 : (9007199254740992 : Nat) = 2 ^ 53 := by decide
 unfold acG
 split
 ·rename_i h
  have hb : yJ n + (e - yH n e).toNat ≤ 53 := by unfold yH at *; split at h <;> omega
  rw [e53]
  refine aZ ?_ (aT (by decide) hb)
  rw [bB]
  exact aV _ (dG hn)
 rename_i h
 rw [e53]
 refine rne_le (bM hn (aT (by decide) ?_))
 unfold yH at *; split at h <;> omega
theorem bkX {e : Int} (h : -1074 < yH n e) (hn : 0 < n) : 4503599627370496 ≤ acG n e more := by
 have hb : 2 ^ (yJ n - 1) ≤ n := aaX.1 (by have := aaX.2 (show 2 ^ 0 ≤ n from hn); omega)
 have hb0 : 0 < yJ n := aaX.2 (show 2 ^ 0 ≤ n from hn)
 have e52 : (4503599627370496 : Nat) = 2 ^ 52 := by decide
 have hu : yH n e = e + yJ n - 53 := by unfold yH at *; split at h <;> omega
 unfold acG
 split
 ·rw [e52]
  refine aZ (aT (by decide) (show 52 ≤ yJ n - 1 + (e - yH n e).toNat by omega)) ?_
  rw [bB]
  exact aV _ hb
 have h5 : 2 ^ 52 ≤ n / 2 ^ (yH n e - e).toNat := by
  rw [cZ (bI (by decide)), ← bB]
  refine aZ (aT (by decide) ?_) hb
  omega
 unfold rne
 split <;> omega
theorem atF (neg : Bool) (m : Nat) (u : Int) : azM neg m u = aaH neg + pk m u := rfl
theorem afS {n1 n2 : Nat} {e : Int} {m1 m2 : Bool} (he : -10000 ≤ e) (he2 : e ≤ 2000) (hn : 0 < n1) (h : n1 < n2 ∨ (n1 = n2 ∧ (m1 = true → m2 = true))) : yB false n1 e m1 ≤ yB false n2 e m2 := by
 have hle : n1 ≤ n2 := by omega
 unfold yB
 rw [aN (by omega), aN (by omega), aN (by omega), aN (by omega), atF, atF]
 refine Nat.add_le_add_left ?_ _
 have hu := biD hle e
 have l1 := asF n1 e
 rcases Int.lt_or_eq_of_le hu with hlt | heq
 ·refine aZ (pk_next l1 (ajB _ _ _)) (aZ (packM_up (by omega) (show yH n1 e + 1 ≤ yH n2 e by omega)) ?_)
  have hg := bkX (more := m2) (show -1074 < yH n2 e by omega) (show 0 < n2 by omega)
  have := azK (u := yH n2 e) (by omega) hg (ajB _ _ _)
  unfold pk at this ⊢
  rw [aN (by decide)] at this
  exact this
 rw [← heq]
 refine azK l1 ?_ (ajB _ _ _)
 unfold acG
 rw [← heq]
 split
 ·exact aV _ hle
 exact rne_mono (by omega) h
theorem bdG (h : 0 < n) : yJ (n * 2 ^ j) = yJ n + j := by
 have e : n * 2 ^ j / 2 ^ j = n := fC _ (bI (by decide))
 have := baT (n := n * 2 ^ j) (j := j) (by rw [e]; exact h)
 rw [e] at this; exact this
theorem bjK (hk : 1 ≤ k) : rne (n * 2 ^ j) (k + j) false = rne n k false := by
 have hp : 0 < 2 ^ j := bI (by decide)
 have e1 : n * 2 ^ j / 2 ^ (k + j) = n / 2 ^ k := by rw [bB, eR _ _ hp]
 have e2 : n * 2 ^ j / 2 ^ (k + j - 1) = n / 2 ^ (k - 1) := by rw [show k + j - 1 = k - 1 + j by omega, bB, eR _ _ hp]
 have e3 : n * 2 ^ j % 2 ^ (k + j - 1) ≠ 0 ↔ n % 2 ^ (k - 1) ≠ 0 := by
  rw [show k + j - 1 = k - 1 + j by omega, bB, fD]
  constructor
  ·grind
  intro h q
  rcases Nat.mul_eq_zero.1 q with q | q
  ·exact h q
  omega
 unfold rne
 rw [e1, e2]
 simp only [e3]
theorem bjL (hk : 1 ≤ k) (hj : k ≤ j) : rne (n * 2 ^ j) k false = n * 2 ^ (j - k) := by
 have e1 : n * 2 ^ j / 2 ^ k = n * 2 ^ (j - k) := by
  rw [show j = j - k + k by omega, bB, ← bC, fC _ (bI (by decide)), show j - k + k - k = j - k by omega]
 have e2 : n * 2 ^ j / 2 ^ (k - 1) = n * 2 ^ (j - k) * 2 := by
  rw [show j = (j - k + 1) + (k - 1) by omega, bB, ← bC, fC _ (bI (by decide)), bO, ← bC, show j - k + 1 + (k - 1) - k = j - k by omega]
 unfold rne
 rw [e1, e2, aN (by omega)]
theorem aeO {e : Int} (he : -10000 ≤ e) (he2 : e + j ≤ 2000) : yB neg (n * 2 ^ j) e false = yB neg n (e + j) false := by
 rcases aY n with h0 | hn
 ·subst h0; unfold yB; simp
 have hn2 : 0 < n * 2 ^ j := fO hn (bI (by decide))
 have hl := bdG (j := j) hn
 have hu : yH (n * 2 ^ j) e = yH n (e + j) := by unfold yH; rw [hl]; split <;> split <;> omega
 unfold yB
 rw [aN (by omega), aN (by omega), aN (by omega), aN (by omega), hu]
 congr 1
 unfold acG
 rw [hu]
 by_cases h1 : yH n (e + j) ≤ e
 ·rw [aO h1, aO (by omega), bC, ← bB]
  congr 2; omega
 rw [aN h1]
 by_cases h2 : yH n (e + j) ≤ e + j
 ·rw [aO h2, bjL (by omega) (by omega)]
  congr 2; omega
 rw [aN h2, show (yH n (e + j) - e).toNat = (yH n (e + j) - (e + j)).toNat + j by omega, bjK (by omega)]
def avK (a b k : Nat) : Nat := yB false (a * 2 ^ k / b) (-(k : Int)) (decide (a * 2 ^ k % b ≠ 0))
theorem rat_up (hb : 0 < b) (h : 55 ≤ yJ (a * 2 ^ k / b)) (hk : k + 1 ≤ 10000) : avK a b (k + 1) = avK a b k := by
 have e1 : a * 2 ^ (k + 1) / b / 2 ^ 1 = a * 2 ^ k / b := by
  rw [Nat.pow_one, bU, bO, ← bC, eR _ _ (by decide)]
 unfold avK
 rw [anK (j := 1) (by rw [e1]; exact h) (by omega) (by omega), e1, show (-((k + 1 : Nat) : Int)) + ((1 : Nat) : Int) = -(k : Int) by omega]
 congr 1
 have hd := cD (a * 2 ^ k) b
 have hr := bQ (a * 2 ^ k) hb
 have e2 : a * 2 ^ (k + 1) = b * (2 * (a * 2 ^ k / b)) + 2 * (a * 2 ^ k % b) := by
  rw [bO, ← bC, ← hd]
  generalize a * 2 ^ k / b = q
  generalize hr2 : (b * q + a * 2 ^ k % b) % b = r at *
  rw [fQ, Nat.mod_mod] at hr2
  rw [← hr2, fR hb, bX hr, cC, bP, bC, bD q 2, bD 2 (a * 2 ^ k % b)]
 generalize hq : a * 2 ^ k / b = q at *
 generalize hrr : a * 2 ^ k % b = r at *
 rw [e2]
 rcases bZ (2 * r) b with hc | hc
 ·rw [fQ, aW hc, fR hb, bX hc, cC, Nat.pow_one, Nat.mul_mod_right]
  by_cases hr0 : r = 0
  ·simp [hr0]
  grind
 have e3 : 2 * r = b * 1 + (2 * r - b) := by omega
 have hc2 : 2 * r - b < b := by omega
 rw [e3, ← dY, ← bY, fQ, aW hc2, fR hb, bX hc2, cC, Nat.pow_one]
 have hr0 : r ≠ 0 := by omega
 have : (2 * q + 1) % 2 = 1 := by omega
 simp [hr0, this]
theorem bbZ {k2 : Nat} (hb : 0 < b) (h : 55 ≤ yJ (a * 2 ^ k / b)) (hk : k ≤ k2) (hk2 : k2 ≤ 10000) : avK a b k2 = avK a b k := by
 induction k2 with
 | zero => rw [show k = 0 by omega]
 | succ m ih =>
  rcases bZ m k with hm | hm
  ·grind
  rw [rat_up hb ?_ hk2, ih hm (by omega)]
  refine aZ h (agF (Nat.div_le_div_right (bT _ (aT (by decide) hm))))
theorem azN (h : m < 9223372036854775808) : (m ||| 9223372036854775808) = 9223372036854775808 + m := by
 have := azO (a := m) (b := 1) (k := 63) (by rw [show (2 : Nat) ^ 63 = 9223372036854775808 by decide]; exact h)
 rw [show 1 * (2 : Nat) ^ 63 = 9223372036854775808 by decide] at this
 omega
theorem packM_lt (hm : m ≤ 9007199254740991) : acQ m u ≤ akT := by
 unfold acQ akT
 split
 ·omega
 split <;> omega
theorem bkW {e : Int} (h : e < yH v e) :
  acG v e more = (if v / 2 ^ ((yH v e - e).toNat - 1) % 2 = 1 ∧ (v % 2 ^ ((yH v e - e).toNat - 1) ≠ 0 ∨ more = true ∨ v / 2 ^ (yH v e - e).toNat % 2 = 1) then v / 2 ^ (yH v e - e).toNat + 1 else v / 2 ^ (yH v e - e).toNat) := by
 unfold acG
 rw [aN (by omega)]; rfl
theorem aoK {e : Int} (h : yH v e ≤ e) : acG v e more = v * 2 ^ (e - yH v e).toNat := by
 unfold acG
 rw [aO h]
theorem arY {e : Int} (h : e < yH v e) : v / 2 ^ ((yH v e - e).toNat - 1) < 18014398509481984 := by
 have hn : v < 2 ^ yJ v := qB.1 (aX _)
 rw [bJ (bI (by decide)), show (18014398509481984 : Nat) = 2 ^ 54 by decide, ← bB]
 refine bM hn (aT (by decide) ?_)
 unfold yH at *
 split at h <;> omega
theorem half_hi {x : Nat} (h : x < 18014398509481984) : x * 2 ^ 63 % M2 / M1 = x / 2 := by
 have e63 : (2 : Nat) ^ 63 = 9223372036854775808 := by decide
 rw [e63]; unfold M1 M2; omega
theorem bdB (hk : 1 ≤ k) : v / 2 ^ (k - 1) / 2 = v / 2 ^ k := by
 rw [bU, ← bO, show (k - 1).succ = k by omega]
theorem awN {e : Int} (h : yH v e ≤ e) : v * 2 ^ (e - yH v e).toNat < M1 := by
 have := ajB v e false
 rw [aoK h] at this
 unfold M1; omega
theorem biB {e : Int} (h0 : 0 < v) (h : yH v e ≤ e) : e - yH v e ≤ 52 := by
 have hb : 0 < yJ v := aaX.2 (show 2 ^ 0 ≤ v from h0)
 unfold yH at *
 split at h <;> omega
theorem take_in {x : Nat} (hx : x < 4294967296) : v * 2 ^ 32 % M2 / M1 = (v * 4294967296 + x) % M2 / M1 ∧ (v * 2 ^ 32 % M2 % M1 ||| x) = (v * 4294967296 + x) % M2 % M1 := by
 have e32 : (2 : Nat) ^ 32 = 4294967296 := by decide
 have h1 : v * 2 ^ 32 % M2 % M1 ||| x = v * 2 ^ 32 % M2 % M1 + x := by
  have h2 : v * 2 ^ 32 % M2 % M1 = (v % 4294967296) * 2 ^ 32 := by
   rw [shl_lo, e32]; unfold M1; omega
  rw [h2]; exact ahN (by rw [e32]; exact hx)
 rw [h1, e32]
 unfold M1 M2
 constructor <;> omega
section
open Go Go.RowKit
set_option maxRecDepth 100000

theorem blen0 {n : Nat} : ((yJ n : Nat) : Int) = 0 ↔ n = 0 := by
 have h := @aaX n 0
 rw [dC] at h
 omega
def bgN (n : Nat) (e : Int) : Bool := decide (n = 0 ∨ (e < -10000 ∧ e + yJ n < -2000) ∨ 2000 < e)
def farV (neg : Bool) (n : Nat) (e : Int) : Nat := if n = 0 ∨ (e < -10000 ∧ e + yJ n < -2000) then aaH neg else if 2000 < e then aaH neg + akT else 0
theorem far_lo {e : Int} (h : n = 0 ∨ (e < -10000 ∧ e + yJ n < -2000)) : farV neg n e = aaH neg ∧ bgN n e = true := by
 unfold farV bgN
 exact ⟨aO h, bH (by omega)⟩
theorem far_hi {e : Int} (h : ¬ (n = 0 ∨ (e < -10000 ∧ e + yJ n < -2000))) (h2 : 2000 < e) : farV neg n e = aaH neg + akT ∧ bgN n e = true := by
 unfold farV bgN
 exact ⟨by rw [aN h, aO h2], bH (by omega)⟩
theorem far_no {e : Int} (h : ¬ (n = 0 ∨ (e < -10000 ∧ e + yJ n < -2000))) (h2 : ¬ 2000 < e) : farV neg n e = 0 ∧ bgN n e = false := by
 unfold farV bgN
 exact ⟨by rw [aN h, aN h2], bG (by omega)⟩
theorem far_true {e : Int} (h : bgN n e = true) : yB neg n e more = farV neg n e := by
 have h := of_decide_eq_true h
 unfold yB farV
 split
 ·rfl
 rw [aO (by omega), aO (by omega)]
theorem awS {e : Int} (h : bgN n e = false) : 0 < n ∧ e ≤ 2000 ∧ -110000 ≤ e + yJ n ∧ yB neg n e more = azM neg (acG n e more) (yH n e) := by
 have h := of_decide_eq_false h
 refine ⟨by omega, by omega, by omega, ?_⟩
 unfold yB
 rw [aN (by omega), aN (by omega)]

def akR (m : Nat) : Nat := if m = 9007199254740992 then 4503599627370496 else m
def ajQ (m : Nat) (u : Int) : Int := if m = 9007199254740992 then u + 1 else u
theorem bcG (neg : Bool) (m : Nat) (u : Int) : azM neg m u = aaH neg + acQ (akR m) (ajQ m u) := by
 unfold azM akR ajQ
 split <;> rfl
theorem bcH (h : m ≤ 9007199254740992) : akR m ≤ 9007199254740991 := by unfold akR; split <;> omega
theorem bcF (m : Nat) (u : Int) : u ≤ ajQ m u ∧ ajQ m u ≤ u + 1 := by unfold ajQ; split <;> omega
theorem shl52 (h : k ≤ 100000) : k * 2 ^ 52 = k * 4503599627370496 := by rw [show (2 : Nat) ^ 52 = 4503599627370496 by decide]

theorem afW (neg : Bool) (m : Nat) (hm : m ≤ 9007199254740992) (u : Int) (hu : -1074 ≤ u ∧ u ≤ 1000000) (H : Heap) : ACall Tryz.prog 239 [.bool neg, .int .u64 (m : Int), .int .i64 u] H (fun y H' => y = .int .u64 ((azM neg m u : Nat) : Int) ∧ H' = H) := by
 refine ACall.of_body Tryz.func239 rfl Tryz.ntmps239 Tryz.results239 rfl ?_
 iterate 2 refine AX ?_
 refine .p rfl (zA (zI 0)) ?_
 iterate 2 refine AX ?_
 refine AWP.seqToL [(1, .int .u64 ((akR m : Nat) : Int)), (2, .int .i64 (ajQ m u))] [0, 6] ?_ ?_
 ·iterate 3 refine AX ?_
  refine .p rfl (zR (tm rfl) (zI 9007199254740992)) ?_
  iterate 2 refine AX ?_
  refine AWP.cx rfl (fun hc8 => ?_) (fun hc8 => ?_)
  ·iterate 3 refine AX ?_
   refine .p rfl (zA (zI 4503599627370496)) ?_
   iterate 2 refine AX ?_
   exact ⟨rfl, (zX rfl (by (unfold akR; rw [aO (by omega)]; done)) (zX rfl (by (unfold ajQ; rw [aO (by omega)]; done)) sX)), rfl⟩
  refine AX ?_
  exact ⟨rfl, (zX rfl (by (unfold akR; rw [aN (by omega)]; done)) (zX rfl (by (unfold ajQ; rw [aN (by omega)]; done)) sX)), rfl⟩
 refine AWP.sub [(1, _), (2, _), (0, _), (6, _)] sX ?_
 rw [bcG]
 have hA := bcH hm
 have hU := bcF m u
 generalize akR m = m1 at hA ⊢
 generalize ajQ m u = u1 at hU ⊢
 refine AWP.seqToL [(1, .int .u64 ((acQ m1 u1 : Nat) : Int))] [2, 0, 6] ?_ ?_
 ·iterate 4 refine AX ?_
  refine .p rfl (yS (tm rfl) (zI 4503599627370496)) ?_
  refine AX ?_
  refine zL (t := 14) rfl (fun hg14 => ?_) (fun hg14 => ?_)
  ·have hh14 := hg14; try simp only [aM] at hh14
   iterate 7 refine AX ?_
   refine AWP.cx rfl (fun hc11 => ?_) (fun hc11 => ?_)
   ·try simp only [bK, aM] at hc11
    refine AX ?_
    refine .p rfl (zA (zI 9218868437227405312)) ?_
    iterate 2 refine AX ?_
    exact ⟨rfl, (zX rfl (by unfold acQ; first | (rw [aN (by omega), aO (by omega)]; rfl) | (rw [aO (by omega)]; done) | (rw [aN (by omega), aN (by omega), shl52 (by omega)])) sX), rfl⟩
   try simp only [cB, aL] at hc11
   iterate 3 refine AX ?_
   refine .p rfl (yS (tm rfl) (zI 4503599627370496)) ?_
   iterate 3 refine AX ?_
   refine AWP.cx rfl (fun hc19 => ?_) (fun hc19 => ?_)
   ·iterate 5 refine AX ?_
    refine .p rfl (.as (b := .int .u64 (((u1 + 1074).toNat : Nat) : Int)) (by congr 1; omega) (qM U3 U22 (tm rfl) (wrap64 (by omega) (by omega)))) ?_
    refine .p rfl (qL (tm rfl) (zI 52) (by omega) (by rw [shl52 (by omega)]; omega)) (.p rfl (yR (tm rfl) (tm rfl) (by (rw [shl52 (by omega)]; omega))) ?_)
    iterate 3 refine AX ?_
    exact ⟨rfl, (zX rfl (by unfold acQ; first | (rw [aN (by omega), aO (by omega)]; rfl) | (rw [aO (by omega)]; done) | (rw [aN (by omega), aN (by omega), shl52 (by omega)])) sX), rfl⟩
   iterate 2 refine AX ?_
   exact ⟨rfl, (zX rfl (by unfold acQ; first | (rw [aN (by omega), aO (by omega)]; rfl) | (rw [aO (by omega)]; done) | (rw [aN (by omega), aN (by omega), shl52 (by omega)])) sX), rfl⟩
  have hh14 := hg14; try simp only [aL, cA] at hh14
  iterate 7 refine AX ?_
  refine AWP.cond_false (tm rfl) (by rfl) ?_
  iterate 3 refine AX ?_
  refine .p rfl (yS (tm rfl) (zI 4503599627370496)) ?_
  iterate 3 refine AX ?_
  refine AWP.cx rfl (fun hc19 => ?_) (fun hc19 => ?_)
  ·iterate 5 refine AX ?_
   refine .p rfl (.as (b := .int .u64 (((u1 + 1074).toNat : Nat) : Int)) (by congr 1; omega) (qM U3 U22 (tm rfl) (wrap64 (by omega) (by omega)))) ?_
   refine .p rfl (qL (tm rfl) (zI 52) (by omega) (by rw [shl52 (by omega)]; omega)) (.p rfl (yR (tm rfl) (tm rfl) (by (rw [shl52 (by omega)]; omega))) ?_)
   iterate 3 refine AX ?_
   exact ⟨rfl, (zX rfl (by unfold acQ; first | (rw [aN (by omega), aO (by omega)]; rfl) | (rw [aO (by omega)]; done) | (rw [aN (by omega), aN (by omega), shl52 (by omega)])) sX), rfl⟩
  iterate 2 refine AX ?_
  exact ⟨rfl, (zX rfl (by unfold acQ; first | (rw [aN (by omega), aO (by omega)]; rfl) | (rw [aO (by omega)]; done) | (rw [aN (by omega), aN (by omega), shl52 (by omega)])) sX), rfl⟩
 refine AWP.sub [(1, _), (2, _), (0, _), (6, _)] sX ?_
 have hM := packM_lt (u := u1) hA
 have hM2 : acQ m1 u1 < 9223372036854775808 := aR hM (by decide)
 iterate 6 refine AX ?_
 refine AWP.cx rfl (fun hc29 => ?_) (fun hc29 => ?_)
 ·iterate 2 refine AX ?_
  refine .p rfl (abC (tm rfl) (zI 9223372036854775808) (by omega) (by omega)) ?_
  iterate 11 refine AX ?_
  refine ⟨?_, rfl⟩
  simp only [yI, aaH]
  rw [aO (by assumption), azN hM2]
 iterate 10 refine AX ?_
 refine ⟨?_, rfl⟩
 simp only [yI, aaH]
 rw [aN (by simp_all), bW]

theorem bdW (n : Nat) (e : Int) (hn : yJ n ≤ 100000) (he : -1000000000000000 ≤ e ∧ e ≤ 1000000000000000) (H : Heap) : ACall Tryz.prog 238 [.int .i64 (yJ n : Int), .int .i64 e] H (fun y H' => y = .int .i64 (yH n e) ∧ H' = H) := by
 refine ACall.of_body Tryz.func238 rfl Tryz.ntmps238 Tryz.results238 rfl ?_
 iterate 17 refine AX ?_
 refine ⟨?_, rfl⟩
 simp only [yI, yH, awK] <;> (congr 1; split <;> split <;> omega)

theorem bmC (neg : Bool) (n : Nat) (e : Int) (hn : yJ n ≤ 100000) (he : -1000000000000000 ≤ e ∧ e ≤ 1000000000000000) (H : Heap) : ACall Tryz.prog 237 [.bool neg, .int .i64 (yJ n : Int), .int .i64 e] H (fun y H' => y = .tuple [.int .u64 ((farV neg n e : Nat) : Int), .bool (bgN n e)] ∧ H' = H) := by
 have hb0 := @blen0 n
 refine ACall.of_body Tryz.func237 rfl Tryz.ntmps237 Tryz.results237 rfl ?_
 iterate 2 refine AX ?_
 refine .p rfl (zA (zI 0)) ?_
 iterate 10 refine AX ?_
 refine zL (t := 11) rfl (fun hg11 => ?_) (fun hg11 => ?_)
 ·have hh11 := hg11; try simp only [aM] at hh11
  iterate 12 refine AX ?_
  refine AWP.cond_true (tm rfl) (by rfl) ?_
  iterate 3 refine AX ?_
  refine .cl rfl C239 (.cons (tm rfl) (.cons (zI 0) (.cons zE .nil))) (afW _ _ (by omega) _ (by omega) _) ?_
  iterate 8 refine AX ?_
  refine ⟨?_, rfl⟩
  obtain ⟨e1, e2⟩ := far_lo (neg := neg) (n := n) (e := e) (by omega)
  rw [e1, e2]
  rfl
 have hh11 := hg11; try simp only [aL] at hh11
 iterate 3 refine AX ?_
 refine zL (t := 14) rfl (fun hg14 => ?_) (fun hg14 => ?_)
 ·have hh14 := hg14; try simp only [aM] at hh14
  iterate 9 refine AX ?_
  refine AWP.cx rfl (fun hc8 => ?_) (fun hc8 => ?_)
  ·iterate 3 refine AX ?_
   refine .cl rfl C239 (.cons (tm rfl) (.cons (zI 0) (.cons zE .nil))) (afW _ _ (by omega) _ (by omega) _) ?_
   iterate 8 refine AX ?_
   refine ⟨?_, rfl⟩
   obtain ⟨e1, e2⟩ := far_lo (neg := neg) (n := n) (e := e) (by omega)
   rw [e1, e2]
   rfl
  iterate 7 refine AX ?_
  refine AWP.cx rfl (fun hc23 => ?_) (fun hc23 => ?_)
  ·iterate 3 refine AX ?_
   refine .cl rfl C239 (.cons (tm rfl) (.cons (zI 4503599627370496) (.cons zE .nil))) (afW _ _ (by omega) _ (by omega) _) ?_
   iterate 8 refine AX ?_
   refine ⟨?_, rfl⟩
   obtain ⟨e1, e2⟩ := far_hi (neg := neg) (n := n) (e := e) (by omega) (by omega)
   rw [e1, e2]
   rfl
  iterate 5 refine AX ?_
  refine .p rfl (zA (zI 0)) ?_
  iterate 5 refine AX ?_
  refine ⟨?_, rfl⟩
  obtain ⟨e1, e2⟩ := far_no (neg := neg) (n := n) (e := e) (by omega) (by omega)
  rw [e1, e2]
  rfl
 have hh14 := hg14; try simp only [aL, bN] at hh14
 iterate 9 refine AX ?_
 refine AWP.cond_false (tm rfl) (by rfl) ?_
 iterate 7 refine AX ?_
 refine AWP.cx rfl (fun hc23 => ?_) (fun hc23 => ?_)
 ·iterate 3 refine AX ?_
  refine .cl rfl C239 (.cons (tm rfl) (.cons (zI 4503599627370496) (.cons zE .nil))) (afW _ _ (by omega) _ (by omega) _) ?_
  iterate 8 refine AX ?_
  refine ⟨?_, rfl⟩
  obtain ⟨e1, e2⟩ := far_hi (neg := neg) (n := n) (e := e) (by omega) (by omega)
  rw [e1, e2]
  rfl
 iterate 5 refine AX ?_
 refine .p rfl (zA (zI 0)) ?_
 iterate 5 refine AX ?_
 refine ⟨?_, rfl⟩
 obtain ⟨e1, e2⟩ := far_no (neg := neg) (n := n) (e := e) (by omega) (by omega)
 rw [e1, e2]
 rfl

end
section
open Go Go.RowKit
set_option maxRecDepth 100000

def dM (v : Nat) (k : Int) : Nat := if k ≤ 0 then v * 2 ^ (-k).toNat else v / 2 ^ k.toNat
def dH (v : Nat) (k : Int) : Bool := decide (0 < k ∧ v / 2 ^ (k.toNat - 1) % 2 = 1)
def dR (v : Nat) (k : Int) : Bool := decide (0 < k ∧ v % 2 ^ (k.toNat - 1) ≠ 0)
theorem if_iff {P Q : Prop} [Decidable P] [Decidable Q] (h : P ↔ Q) (a b : Nat) : (if P then a else b) = if Q then a else b := by
 by_cases hp : P
 ·rw [aO hp, aO (h.1 hp)]
 rw [aN hp, aN (fun q => hp (h.2 q))]
theorem mant_d (v : Nat) (e : Int) (more : Bool) :
  acG v e more = if (dH v (yH v e - e) && (dR v (yH v e - e) || more || decide (((dM v (yH v e - e) &&& 1 : Nat) : Int) = ((1 : Nat) : Int)))) = true then dM v (yH v e - e) + 1 else dM v (yH v e - e) := by
 have e1 : ∀ x : Nat, (decide (((x &&& 1 : Nat) : Int) = ((1 : Nat) : Int))) = decide (x % 2 = 1) := fun x => by
  refine bA.2 ?_
  rw [show (1 : Nat) = 2 ^ 1 - 1 by decide, cO]
  omega
 rw [e1]
 by_cases h : yH v e ≤ e
 ·have hd : dM v (yH v e - e) = acG v e more := by
   rw [aoK h]; unfold dM; rw [aO (by omega)]; congr 2; omega
  have hh : dH v (yH v e - e) = false := by unfold dH; exact bG (by omega)
  rw [hh, Bool.false_and, aN (by decide), hd]
 have hd : dM v (yH v e - e) = v / 2 ^ (yH v e - e).toNat := by unfold dM; rw [aN (by omega)]
 have hp : 0 < yH v e - e := by omega
 rw [bkW (by omega), hd]
 have hH : dH v (yH v e - e) = decide (v / 2 ^ ((yH v e - e).toNat - 1) % 2 = 1) := by unfold dH; exact bA.2 ⟨fun q => q.2, fun q => ⟨hp, q⟩⟩
 have hR : dR v (yH v e - e) = decide (v % 2 ^ ((yH v e - e).toNat - 1) ≠ 0) := by unfold dR; exact bA.2 ⟨fun q => q.2, fun q => ⟨hp, q⟩⟩
 rw [hH, hR]
 refine if_iff ?_ _ _
 simp only [bK, cV, aM, or_assoc]

theorem avA (neg : Bool) (n : Nat) (e : Int) (more : Bool) (hn : yJ n ≤ 100000) (he : -1000000000000000 ≤ e ∧ e ≤ 1000000000000000) (f : FuncId) (cap : List AV) (H : Heap) (hent : ∀ args w, (callFunc f args).run Tryz.prog w = .ok (.enter f args) w) (hf : bgN n e = false → ACall Tryz.prog f ([.int .i64 (yH n e - e)] ++ cap) H (fun y H' => y = .tuple [.int .u64 ((dM n (yH n e - e) : Nat) : Int), .bool (dH n (yH n e - e)), .bool (dR n (yH n e - e))] ∧ H' = H)) : ACall Tryz.prog 184 [.bool neg, .int .i64 (yJ n : Int), .int .i64 e, .bool more, .func f cap] H (fun y H' => y = .int .u64 ((yB neg n e more : Nat) : Int) ∧ H' = H) := by
 have hmd := mant_d n e more
 have hml := ajB n e more
 have hdm : dM n (yH n e - e) ≤ 9007199254740992 := by rw [hmd] at hml; split at hml <;> omega
 have hul := asF n e
 have hur : yH n e ≤ 1000000000000000 + 100000 := by unfold yH; split <;> omega
 refine ACall.of_body Tryz.func184 rfl Tryz.ntmps184 Tryz.results184 rfl ?_
 iterate 2 refine AX ?_
 refine .p rfl (zA (zI 0)) ?_
 iterate 8 refine AX ?_
 refine .cl rfl Tryz.call237 (evs3 rfl rfl rfl) (bmC neg n e hn he _) ?_
 iterate 12 refine AX ?_
 refine AWP.cx rfl (fun hc24 => ?_) (fun hc24 => ?_)
 ·have hfar : bgN n e = true := hc24
  iterate 9 refine AX ?_
  refine ⟨?_, rfl⟩
  rw [far_true hfar]; rfl
 have hfar : bgN n e = false := hc24
 obtain ⟨hf1, hf2, hf3, hf4⟩ := awS (neg := neg) (more := more) hfar
 have hup : yH n e ≤ 1000000 := by unfold yH; split <;> omega
 iterate 6 refine AX ?_
 refine .cl rfl Tryz.call238 (evs2 rfl rfl) (bdW n e hn he _) ?_
 iterate 9 refine AX ?_
 refine .e rfl (amY hent (tm rfl) (evs1 rfl) (hf hfar)) ?_
 iterate 9 refine AX ?_
 refine AWP.seqToL [(14, .int .u64 ((acG n e more : Nat) : Int))] [0, 10, 13] ?_ ?_
 ·refine AWP.seqTo 49 (.bool ((dH n (yH n e - e) && (dR n (yH n e - e) || more || decide (((dM n (yH n e - e) &&& 1 : Nat) : Int) = ((1 : Nat) : Int)))))) [0, 10, 13, 14] ?_ ?_
  ·-- region 6
   iterate 3 refine AX ?_
   refine zL (t := 39) rfl (fun hg39 => ?_) (fun hg39 => ?_)
   ·iterate 2 refine AX ?_
    refine zL (t := 41) rfl (fun hg41 => ?_) (fun hg41 => ?_)
    ·iterate 9 refine AX ?_
     exact ⟨rfl, zY rfl (by (rw [show dH n (yH n e - e) = _ from hg39, show dR n (yH n e - e) = _ from hg41]; rfl)) sX, rfl⟩
    iterate 3 refine AX ?_
    refine zL (t := 44) rfl (fun hg44 => ?_) (fun hg44 => ?_)
    ·iterate 6 refine AX ?_
     exact ⟨rfl, zY rfl (by (rw [show dH n (yH n e - e) = _ from hg39, show dR n (yH n e - e) = _ from hg41, show more = _ from hg44]; rfl)) sX, rfl⟩
    refine AX ?_
    refine .gp rfl rfl rfl (by assumption) (aaN (tm rfl) (zI 1) (by omega) (by omega)) (.gp rfl rfl rfl (by assumption) (zR (tm rfl) (zI 1)) ?_)
    iterate 3 refine AX ?_
    exact ⟨rfl, zY rfl (by (rw [show dH n (yH n e - e) = _ from hg39, show dR n (yH n e - e) = _ from hg41, show more = _ from hg44]; rfl)) sX, rfl⟩
   iterate 11 refine AX ?_
   exact ⟨rfl, zY rfl (by (rw [show dH n (yH n e - e) = _ from hg39]; rfl)) sX, rfl⟩
  refine AWP.sub [(49, _), (0, _), (10, _), (13, _), (14, _)] sX ?_
  refine AWP.cx rfl (fun hc49 => ?_) (fun hc49 => ?_)
  ·rw [aO hc49] at hmd
   iterate 2 refine AX ?_
   refine .p rfl (yR (tm rfl) (zI 1) (by omega)) ?_
   iterate 2 refine AX ?_
   exact ⟨rfl, (zX rfl (by rw [hmd]) sX), rfl⟩
  rw [aN (by rw [hc49]; decide)] at hmd
  refine AX ?_
  exact ⟨rfl, (zX rfl (by rw [hmd]) sX), rfl⟩
 refine AWP.sub [(14, _), (0, _), (10, _), (13, _)] sX ?_
 iterate 5 refine AX ?_
 refine .cl rfl C239 (evs3 rfl rfl rfl) (afW neg _ hml _ (by constructor <;> omega) _) ?_
 iterate 5 refine AX ?_
 refine ⟨?_, rfl⟩
 rw [hf4]; rfl

theorem bgW (v : Nat) (hv : v < M2) (k : Int) (hk : -52 ≤ k ∧ k ≤ 1000000) (h0 : k ≤ 0 → v * 2 ^ (-k).toNat < M1) (h1 : 0 < k → v / 2 ^ (k.toNat - 1) < 18014398509481984) (H : Heap) : ACall Tryz.prog 186 [.int .i64 k, .iptr (u2 v).cells] H (fun y H' => y = .tuple [.int .u64 ((dM v k : Nat) : Int), .bool (dH v k), .bool (dR v k)] ∧ H' = H) := by
 refine ACall.of_body Tryz.func186 rfl Tryz.ntmps186 Tryz.results186 rfl ?_
 iterate 2 refine AX ?_
 refine .p rfl (zA (zI 0)) ?_
 iterate 11 refine AX ?_
 refine AWP.cx rfl (fun hc9 => ?_) (fun hc9 => ?_)
 ·have hq := h0 (by omega)
  iterate 5 refine AX ?_
  refine .cl rfl C187 (evs2 rfl rfl) (afR v (-k).toNat (by omega) (-k) (by omega) _) (.p rfl (alO U149 rfl G22 Z22 (tm rfl) rfl) ?_)
  iterate 8 refine AX ?_
  refine ⟨?_, rfl⟩
  have e1 : dM v k = v * 2 ^ (-k).toNat := by unfold dM; rw [aO (by omega)]
  have e2 : dH v k = false := by unfold dH; exact bG (by omega)
  have e3 : dR v k = false := by unfold dR; exact bG (by omega)
  have e4 : v * 2 ^ (-k).toNat % M2 % M1 = v * 2 ^ (-k).toNat := by rw [aW (cX hq (by decide +kernel)), aW hq]
  rw [e1, e2, e3]
  show AV.tuple [.int .u64 ((v * 2 ^ (-k).toNat % M2 % M1 : Nat) : Int), _, _] = _
  rw [e4]
 have hq := h1 (by omega)
 have hqm : v / 2 ^ (k.toNat - 1) % M1 < 18446744073709551616 := aeV _
 iterate 7 refine AX ?_
 refine .cl rfl Tryz.call188 (evs2 rfl rfl) (akH v hv (k.toNat - 1) (by omega) (k - 1) (by omega) _) ?_
 iterate 3 refine AX ?_
 refine .al zr149 (fun b6 hb6 => ?_)
 iterate 4 refine AX ?_
 refine AWP.frz (t := 6) rfl (hb6) ?_
 refine AX ?_
 refine AWP.draw [(0, true), (3, true), (4, true), (5, true), (6, true), (7, true), (1, false), (2, true), (8, true), (9, true), (10, true)] rfl (by decide +kernel) ?_
 refine AX ?_
 refine .p rfl rfl (zD U149 rfl Z22 (tm rfl)) ?_
 refine AX ?_
 refine .p rfl rfl (aaN (tm rfl) (zI 1) (by assumption) (by omega)) (.p rfl rfl (zR (tm rfl) (zI 1)) ?_)
 refine AX ?_
 refine .s rfl rfl (zF C187 (.cons (tm rfl) (.cons zE .nil)) (afR (v / 2 ^ (k.toNat - 1)) 63 (by decide) 63 rfl _)) ?_
 rintro _ _ ⟨rfl, hH⟩
 obtain rfl := hH.symm
 refine .p rfl rfl (alO U149 rfl G22 Z22 (tm rfl) rfl) ?_
 iterate 7 refine AX ?_
 refine ⟨?_, rfl⟩
 have e1 : dM v k = v / 2 ^ k.toNat := by unfold dM; rw [aN (by omega)]
 have e2 : dH v k = decide (v / 2 ^ (k.toNat - 1) % 2 = 1) := by unfold dH; exact bA.2 ⟨fun q => q.2, fun q => ⟨by omega, q⟩⟩
 have e3 : dR v k = decide (v % 2 ^ (k.toNat - 1) ≠ 0) := by unfold dR; exact bA.2 ⟨fun q => q.2, fun q => ⟨by omega, q⟩⟩
 have e4 : v / 2 ^ (k.toNat - 1) * 2 ^ 63 % M2 / M1 = v / 2 ^ k.toNat := by rw [half_hi hq, bdB (by omega)]
 have e5 : decide (((v / 2 ^ (k.toNat - 1) % M1 &&& 1 : Nat) : Int) = ((1 : Nat) : Int)) = decide (v / 2 ^ (k.toNat - 1) % 2 = 1) := by
  refine bA.2 ?_
  rw [aW (cX hq (by decide +kernel)), show (1 : Nat) = 2 ^ 1 - 1 by decide, cO]
  omega
 rw [e1, e2, e3]
 show AV.tuple [.int .u64 ((v / 2 ^ (k.toNat - 1) * 2 ^ 63 % M2 / M1 : Nat) : Int), .bool (decide (((v / 2 ^ (k.toNat - 1) % M1 &&& 1 : Nat) : Int) = ((1 : Nat) : Int))), _] = _
 rw [e4, e5]

theorem wLen2 (v : Nat) (hv : v < M2) (H : Heap) : ACall Tryz.prog 185 [u2 v] H (fun y H' => y = .int .i64 (yJ v : Int) ∧ H' = H) := by
 have h := bdS (v / M1) (v % M1) (bgF hv) (aeV v) H
 rw [show v / M1 * 18446744073709551616 + v % M1 = v from by have := cD v M1; rw [bD] at this; exact this] at h
 exact h
theorem down_ok (v : Nat) (hv : v < M2) (e : Int) (hfar : bgN v e = false) (H : Heap) : ACall Tryz.prog 186 ([.int .i64 (yH v e - e)] ++ [.iptr (u2 v).cells]) H (fun y H' => y = .tuple [.int .u64 ((dM v (yH v e - e) : Nat) : Int), .bool (dH v (yH v e - e)), .bool (dR v (yH v e - e))] ∧ H' = H) := by
 obtain ⟨h0, h1, h2, h3⟩ := awS (neg := false) (more := false) hfar
 have hb : yJ v ≤ 128 := qB.2 (by rw [show (2 : Nat) ^ 128 = M2 by decide +kernel]; exact hv)
 refine bgW v hv (yH v e - e) ⟨?_, ?_⟩ (fun q => ?_) (fun q => ?_) H
 ·rcases Int.lt_or_le e (yH v e) with h | h
  ·omega
  have := biB h0 h; omega
 ·unfold yH; split <;> omega
 ·have := awN (v := v) (e := e) (by omega)
  rw [show (-(yH v e - e)).toNat = (e - yH v e).toNat by omega]; exact this
 exact arY (by omega)

theorem acP (neg : Bool) (v : Nat) (hv : v < M2) (e : Int) (he : -1000000000000000 ≤ e ∧ e ≤ 1000000000000000) (more : Bool) (H : Heap) : ACall Tryz.prog 122 [.bool neg, u2 v, .int .i64 e, .bool more] H (fun y H' => y = .int .u64 ((yB neg v e more : Nat) : Int) ∧ H' = H) := by
 refine ACall.of_body Tryz.func122 rfl Tryz.ntmps122 Tryz.results122 rfl ?_
 iterate 3 refine AX ?_
 refine .p rfl (zA (zI 0)) ?_
 iterate 6 refine AX ?_
 refine .cl rfl Tryz.call185 (evs1 rfl) (wLen2 v hv _) ?_
 iterate 2 refine AX ?_
 refine .p rfl (bfE (tm rfl)) ?_
 refine .cl rfl Tryz.call184 (.cons (tm rfl) (.cons (tm rfl) (evs3 rfl rfl rfl))) (avA neg v e more (by have : yJ v ≤ 128 := qB.2 (by rw [show (2 : Nat) ^ 128 = M2 by decide +kernel]; exact hv); omega) he 186 [.iptr (u2 v).cells] _ Tryz.call186 (fun hfar => down_ok v hv e hfar _)) ?_
 iterate 5 refine AX ?_
 exact ⟨rfl, rfl⟩

end
def apU (k : Int) : Int := if k < 0 then -((yJ (10 ^ (-k).toNat) + 127 : Nat) : Int) else (yJ (10 ^ k.toNat) : Int) - 128
def ahB (k : Int) : Nat :=
 if k < 0 then 2 ^ (yJ (10 ^ (-k).toNat) + 127) / 10 ^ (-k).toNat
 else if yJ (10 ^ k.toNat) ≤ 128 then 10 ^ k.toNat * 2 ^ (128 - yJ (10 ^ k.toNat))
 else 10 ^ k.toNat / 2 ^ (yJ (10 ^ k.toNat) - 128)
def axM (k : Int) : Bool := if k < 0 then false else decide (yJ (10 ^ k.toNat) ≤ 128 ∨ 10 ^ k.toNat % 2 ^ (yJ (10 ^ k.toNat) - 128) = 0)
def aiV (m : Nat) (k : Int) : Nat :=
 if 0 ≤ k then yB false (m * 10 ^ k.toNat) 0 false else avK m (10 ^ (-k).toNat) (yJ (10 ^ (-k).toNat) + 127)
def aiM (m : Nat) (k : Int) : Nat := yB false (ahB k * m) (apU k) false
def anV (m : Nat) (k : Int) : Bool := axM k || decide (yB false ((ahB k + 1) * m) (apU k) false = aiM m k)
def asK (m : Nat) (k : Int) : Nat := yJ (10 ^ (-k).toNat) + 66 - yJ m
def amZ (m : Nat) (k : Int) : Nat := if 0 ≤ k then yB false (m * 10 ^ k.toNat) 0 false else avK m (10 ^ (-k).toNat) (asK m k)

theorem acF (j : Nat) : 0 < 10 ^ j := bI (by decide)
theorem ten_two (j : Nat) : 10 ^ j < 2 ^ (4 * j + 1) := by
 refine aR (Nat.pow_le_pow_left (show 10 ≤ 2 ^ 4 by decide) j) ?_
 rw [← dO]
 exact dI (by decide) (by omega)
theorem ahV (j : Nat) : yJ (10 ^ j) ≤ 4 * j + 1 := qB.2 (ten_two j)
theorem adQ (h : 0 < n) : 0 < yJ n := aaX.2 (by rw [dC]; exact h)
theorem apG (h : 0 < n) : 2 ^ (yJ n - 1) ≤ n := aaX.1 (by have := adQ h; omega)
theorem afM (n : Nat) : n < 2 ^ yJ n := qB.1 (aX _)
theorem ayU {K p : Nat} (hm : 0 < m) (hp : 0 < p) (hb : 0 < b) (hK : K ≤ 10000) (h1 : p * b ≤ 2 ^ K) (h2 : 2 ^ K < (p + 1) * b) :
  yB false (p * m) (-(K : Int)) false ≤ avK m b K ∧ avK m b K ≤ yB false ((p + 1) * m) (-(K : Int)) false := by
 have hpm : 0 < p * m := fO hp hm
 have e1 : p * m ≤ m * 2 ^ K / b := by
  rw [cZ hb, bD p m, bC]
  exact bT _ h1
 have e2 : m * 2 ^ K / b < (p + 1) * m := by
  rw [bJ hb, bD (p + 1) m, bC]
  exact fB h2 hm
 unfold avK
 constructor
 ·refine afS (by omega) (by omega) hpm ?_
  rcases Nat.lt_or_eq_of_le e1 with h | h
  ·grind
  grind
 exact afS (by omega) (by omega) (by omega) (.inl e2)
theorem azR {t p : Nat} (hm : 0 < m) (hj : j ≤ 2000) (hb : 55 ≤ yJ p) (h1 : p * 2 ^ j ≤ t) (h2 : t < (p + 1) * 2 ^ j) :
  yB false (p * m) (j : Int) false ≤ yB false (m * t) 0 false ∧ yB false (m * t) 0 false ≤ yB false ((p + 1) * m) (j : Int) false := by
 have hj0 : 0 < 2 ^ j := bI (by decide)
 have hp : 0 < p := by
  rcases aY p with h | h
  ·subst h; have := qB.2 (show 0 < 2 ^ 0 by decide); omega
  exact h
 have hpm : 0 < p * m := fO hp hm
 have e1 : p * m ≤ m * t / 2 ^ j := by
  rw [cZ hj0, bD p m, bC]
  exact bT _ h1
 have e2 : m * t / 2 ^ j < (p + 1) * m := by
  rw [bJ hj0, bD (p + 1) m, bC]
  exact fB h2 hm
 have hbl : 55 ≤ yJ (m * t / 2 ^ j) := aZ hb (agF (aZ (eX _ hm) e1))
 rw [anK (n := m * t) (j := j) hbl (by omega) (by omega), show (0 : Int) + (j : Int) = (j : Int) by omega]
 constructor
 ·refine afS (by omega) (by omega) hpm ?_
  rcases Nat.lt_or_eq_of_le e1 with h | h
  ·grind
  grind
 exact afS (by omega) (by omega) (by omega) (.inl e2)
theorem azG {j : Nat} : 0 < 2 ^ (yJ (10 ^ j) + 127) / 10 ^ j := by
 rw [Nat.div_pos_iff]
 refine ⟨acF j, aZ (dG (afM _)) (aT (by decide) (by omega))⟩
theorem ayZ {k : Int} (hm : 0 < m) (hk : -400 ≤ k ∧ k ≤ 400) (h : anV m k = true) : aiM m k = aiV m k := by
 unfold anV aiM at h
 unfold aiM aiV
 rcases Int.lt_or_le k 0 with hn | hn
 ·rw [aN (by omega)]
  have hA : axM k = false := by unfold axM; rw [aO hn]
  have hE : apU k = -((yJ (10 ^ (-k).toNat) + 127 : Nat) : Int) := by unfold apU; rw [aO hn]
  have hP : ahB k = 2 ^ (yJ (10 ^ (-k).toNat) + 127) / 10 ^ (-k).toNat := by unfold ahB; rw [aO hn]
  rw [hA, Bool.false_or, aM] at h
  have hbl := ahV (-k).toNat
  have ht := acF (-k).toNat
  have hp := @azG (-k).toNat
  rw [hE, hP] at h
  rw [hE, hP]
  generalize hK : yJ (10 ^ (-k).toNat) + 127 = K at *
  obtain ⟨a, b⟩ := ayU (m := m) (b := 10 ^ (-k).toNat) (K := K) (p := 2 ^ K / 10 ^ (-k).toNat) hm hp ht (by omega) (eD _ _) (by
    have := fW (2 ^ K / 10 ^ (-k).toNat)
    exact (bJ ht).1 this)
  rw [h] at b
  exact Nat.le_antisymm a b
 rw [aO hn]
 have hE : apU k = (yJ (10 ^ k.toNat) : Int) - 128 := by unfold apU; rw [aN (by omega)]
 have hbl := ahV k.toNat
 have ht := acF k.toNat
 rcases bZ 128 (yJ (10 ^ k.toNat)) with hl | hl
 ·have hP : ahB k = 10 ^ k.toNat / 2 ^ (yJ (10 ^ k.toNat) - 128) := by unfold ahB; rw [aN (by omega), aN (by omega)]
  have hA : axM k = decide (10 ^ k.toNat % 2 ^ (yJ (10 ^ k.toNat) - 128) = 0) := by
   unfold axM; rw [aN (by omega)]; exact bA.2 ⟨fun q => q.resolve_left (by omega), .inr⟩
  have hj : (yJ (10 ^ k.toNat) : Int) - 128 = ((yJ (10 ^ k.toNat) - 128 : Nat) : Int) := by omega
  rw [hE, hj, hP, hA] at h
  rw [hE, hj, hP]
  have hb : yJ (10 ^ k.toNat / 2 ^ (yJ (10 ^ k.toNat) - 128)) = 128 := by
   have hpos : 0 < 10 ^ k.toNat / 2 ^ (yJ (10 ^ k.toNat) - 128) := by
    rw [Nat.div_pos_iff]
    exact ⟨bI (by decide), aZ (aT (by decide) (by omega)) (apG ht)⟩
   have := baT hpos
   omega
  generalize hjj : yJ (10 ^ k.toNat) - 128 = j at *
  generalize htt : 10 ^ k.toNat = t at *
  have hj0 : 0 < 2 ^ j := bI (by decide)
  rw [cV, aM, aM] at h
  rcases h with h | h
  ·have e : m * t = t / 2 ^ j * m * 2 ^ j := by
    have := cD t (2 ^ j)
    rw [h, cC] at this
    conv => lhs; rw [← this]
    rw [bD (2 ^ j), ← bC, bD m]
   rw [e, aeO (by omega) (by omega), show (0 : Int) + (j : Int) = (j : Int) by omega]
  obtain ⟨a, b⟩ := azR (m := m) (t := t) (p := t / 2 ^ j) (j := j) hm (by omega) (by omega) (eD _ _) ((bJ hj0).1 (fW _))
  rw [h] at b
  exact Nat.le_antisymm a b
 have hP : ahB k = 10 ^ k.toNat * 2 ^ (128 - yJ (10 ^ k.toNat)) := by unfold ahB; rw [aN (by omega), aO hl]
 rw [hE, hP, show (yJ (10 ^ k.toNat) : Int) - 128 = -((128 - yJ (10 ^ k.toNat) : Nat) : Int) by omega]
 rw [show 10 ^ k.toNat * 2 ^ (128 - yJ (10 ^ k.toNat)) * m = m * 10 ^ k.toNat * 2 ^ (128 - yJ (10 ^ k.toNat)) by rw [bD _ m, ← bC]]
 rw [aeO (by omega) (by omega)]
 congr 1; omega
theorem auV {k : Int} (hm : 0 < m) (hk : -2000 ≤ k) : amZ m k = aiV m k := by
 unfold amZ aiV
 split
 ·rfl
 rename_i hn
 have hbl := ahV (-k).toNat
 have ht := acF (-k).toNat
 have hb := adQ hm
 refine (bbZ ht ?_ (by unfold asK; omega) (by omega)).symm
 have h1 := apG hm
 have h2 := afM (10 ^ (-k).toNat)
 have h3 : 2 ^ 65 ≤ m * 2 ^ asK m k / 10 ^ (-k).toNat := by
  rw [cZ ht]
  refine aZ (bT _ (dG h2)) (aZ ?_ (aV _ h1))
  rw [← bB, ← bB]
  exact aT (by decide) (by unfold asK; omega)
 have := aaX.2 h3
 omega
theorem acL (n : Nat) (e : Int) (more : Bool) : yB false n e more ≤ akT := by
 unfold yB
 split
 ·exact Nat.zero_le _
 split
 ·exact Nat.le_of_eq (by unfold aaH; simp)
 rw [atF]
 have h := ajB n e more
 unfold aaH pk
 rw [aN (by decide), bW]
 split
 ·exact avW _ _ (by decide)
 exact avW _ _ (by omega)
end Go.Proofs.YtmmgbnolccpjoaaGreatDoor
