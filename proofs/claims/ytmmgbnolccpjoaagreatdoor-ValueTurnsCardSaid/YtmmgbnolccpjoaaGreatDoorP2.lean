import Derived.Test.YtmmgbnolccpjoaaGreatDoorP1
namespace Go.Proofs.YtmmgbnolccpjoaaGreatDoor
open Go.Proofs.Tryz
open Go Go.RowKit

variable {a b j k m n v : Nat} {more neg : Bool} {u : Int}
def rne (n k : Nat) (more : Bool) : Nat :=
 if n / 2 ^ (k - 1) % 2 = 1 ∧ (n % 2 ^ (k - 1) ≠ 0 ∨ more = true ∨ n / 2 ^ k % 2 = 1) then n / 2 ^ k + 1 else n / 2 ^ k
def yC (n : Nat) (e : Int) : Int := if e + yG n - 53 < -1074 then -1074 else e + yG n - 53
def acN (n : Nat) (e : Int) (more : Bool) : Nat := if yC n e ≤ e then n * 2 ^ (e - yC n e).toNat else rne n (yC n e - e).toNat more
def aoG : Nat := 9218868437227405312
def aaA (neg : Bool) : Nat := if neg = true then 9223372036854775808 else 0
def adF (m : Nat) (u : Int) : Nat :=
 if m < 4503599627370496 then m
 else if u + 1075 ≥ 2047 then aoG
 else m + (u + 1074).toNat * 4503599627370496
def beQ (neg : Bool) (m : Nat) (u : Int) : Nat := aaA neg + (if m = 9007199254740992 then adF 4503599627370496 (u + 1) else adF m u)
def zX (neg : Bool) (n : Nat) (e : Int) (more : Bool) : Nat :=
 if n = 0 ∨ (e < -10000 ∧ e + yG n < -2000) then aaA neg
 else if 2000 < e then aaA neg + aoG
 else beQ neg (acN n e more) (yC n e)
theorem bfX (h : 0 < n / 2 ^ j) : yG n = yG (n / 2 ^ j) + j := by
 have h1 : yG n ≤ yG (n / 2 ^ j) + j := by
  rw [yP, bI]
  exact (bO (bN aC)).1 (yP.1 (aT _))
 have h2 : yG (n / 2 ^ j) + j ≤ yG n := by
  have hb : 0 < yG (n / 2 ^ j) := aaQ.2 (by rw [dN]; exact h)
  have h3 : 2 ^ (yG (n / 2 ^ j) - 1) ≤ n / 2 ^ j := aaQ.1 aA
  have h4 : 2 ^ (yG (n / 2 ^ j) - 1 + j) ≤ n := by
   rw [bI]
   exact bE (bC _ h3) (eL _ _)
  have := aaQ.2 h4
  omega
 omega
theorem ccE (hk : 2 ≤ k) : rne n (k + j) more = rne (n / 2 ^ j) k (more || decide (n % 2 ^ j ≠ 0)) := by
 have e1 : n / 2 ^ (k + j) = n / 2 ^ j / 2 ^ k := by rw [bY, ← bI, eO]
 have e2 : n / 2 ^ (k + j - 1) = n / 2 ^ j / 2 ^ (k - 1) := by rw [bY, ← bI, show k + j - 1 = j + (k - 1) by omega]
 have e3 : n % 2 ^ (k + j - 1) ≠ 0 ↔ (n % 2 ^ j ≠ 0 ∨ n / 2 ^ j % 2 ^ (k - 1) ≠ 0) := by
  rw [show k + j - 1 = j + (k - 1) by omega, bI, Nat.mod_mul]
  have h : 0 < 2 ^ j := bN aC
  constructor
  ·grind
  rintro (q | q) h1
  ·omega
  have : 0 < 2 ^ j * (n / 2 ^ j % 2 ^ (k - 1)) := fZ h (eR q)
  omega
 unfold rne
 rw [e1, e2]
 have e4 : (n % 2 ^ (k + j - 1) ≠ 0 ∨ more = true ∨ n / 2 ^ j / 2 ^ k % 2 = 1) ↔ (n / 2 ^ j % 2 ^ (k - 1) ≠ 0 ∨ (more || decide (n % 2 ^ j ≠ 0)) = true ∨ n / 2 ^ j / 2 ^ k % 2 = 1) := by
  rw [e3, cN, aO]
  constructor
  ·grind
  grind
 simp only [e4]
theorem aqF {e : Int} (hb : 55 ≤ yG (n / 2 ^ j)) (he : -10000 ≤ e) (he2 : e ≤ 2000) :
  zX neg n e more = zX neg (n / 2 ^ j) (e + j) (more || decide (n % 2 ^ j ≠ 0)) := by
 have hp : 0 < n / 2 ^ j := by
  have := aaQ.1 (show 0 < yG (n / 2 ^ j) by omega)
  rw [dN] at this; exact this
 have hn : 0 < n := by
  rcases bF n with h | h
  ·subst h; simp at hp
  exact h
 have hl := bfX hp
 have hu : yC n e = yC (n / 2 ^ j) (e + j) := by unfold yC; rw [hl]; split <;> split <;> omega
 have hu2 : yC n e ≥ e + j + 2 := by unfold yC; split <;> omega
 have hm : acN n e more = acN (n / 2 ^ j) (e + j) (more || decide (n % 2 ^ j ≠ 0)) := by
  unfold acN
  rw [aI, ← hu, aI, show (yC n e - e).toNat = (yC n e - (e + j)).toNat + j by omega]
  exact ccE aA
 unfold zX
 rw [aI, aI, aI, hm, hu]
 by_cases h2 : 2000 < e + (j : Int)
 ·rw [aN h2]
  -- far above: endless
  have hu3 : yC (n / 2 ^ j) (e + j) = e + j + yG (n / 2 ^ j) - 53 := by unfold yC; split <;> omega
  have hge : 4503599627370496 ≤ acN (n / 2 ^ j) (e + j) (more || decide (n % 2 ^ j ≠ 0)) := by
   unfold acN
   rw [aI]
   have h5 : 2 ^ 52 ≤ n / 2 ^ j / 2 ^ (yC (n / 2 ^ j) (e + j) - (e + j)).toNat := by
    rw [dJ (bN aC), ← bI]
    refine aaQ.1 ?_
    omega
   unfold rne
   split <;> omega
  unfold beQ
  split
  ·unfold adF; rw [aI, aJ]
  unfold adF; rw [aI, aJ]
 grind
theorem bvT {n1 n2 : Nat} {m1 m2 : Bool} (hk : 1 ≤ k) (h : n1 < n2 ∨ (n1 = n2 ∧ (m1 = true → m2 = true))) : rne n1 k m1 ≤ rne n2 k m2 := by
 have hn : n1 ≤ n2 := by omega
 have hp : 2 ^ k = 2 ^ (k - 1) * 2 := by rw [← bR, show (k - 1).succ = k by omega]
 have hq : n1 / 2 ^ (k - 1) ≤ n2 / 2 ^ (k - 1) := Nat.div_le_div_right hn
 have e1 : n1 / 2 ^ k = n1 / 2 ^ (k - 1) / 2 := by rw [hp, bY]
 have e2 : n2 / 2 ^ k = n2 / 2 ^ (k - 1) / 2 := by rw [hp, bY]
 have d1 := cJ n1 (2 ^ (k - 1))
 have d2 := cJ n2 (2 ^ (k - 1))
 unfold rne
 rw [e1, e2]
 generalize n1 / 2 ^ (k - 1) = q1 at *
 generalize n2 / 2 ^ (k - 1) = q2 at *
 generalize hr1 : n1 % 2 ^ (k - 1) = r1 at *
 generalize hr2 : n2 % 2 ^ (k - 1) = r2 at *
 rcases cD q1 q2 with hlt | hge
 ·grind
 grind
def pk (m : Nat) (u : Int) : Nat := if m = 9007199254740992 then adF 4503599627370496 (u + 1) else adF m u
theorem baI (m : Nat) (u : Int) (h : m < 9007199254740992) : adF m u ≤ aoG := by
 unfold adF aoG
 split
 ·omega
 grind
theorem beO {m1 m2 : Nat} (hu : -1074 ≤ u) (h : m1 ≤ m2) (h2 : m2 ≤ 9007199254740992) : pk m1 u ≤ pk m2 u := by
 unfold pk adF aoG
 repeat' split
 all_goals omega
theorem ccJ (hu : -1074 ≤ u) (h : m ≤ 9007199254740992) : pk m u ≤ adF 4503599627370496 (u + 1) := by
 have := beO hu h (aT _)
 unfold pk at this ⊢
 rw [aN rfl] at this
 exact this
theorem bwF {u1 u2 : Int} (h1 : -1074 ≤ u1) (h : u1 ≤ u2) : adF 4503599627370496 u1 ≤ adF 4503599627370496 u2 := by
 unfold adF aoG
 repeat' split
 all_goals omega
theorem avU (n : Nat) (e : Int) : -1074 ≤ yC n e := by unfold yC; split <;> omega
theorem ahE (h : a ≤ b) : yG a ≤ yG b := yP.2 (aV h (yP.1 (aT _)))
theorem boD (h : a ≤ b) (e : Int) : yC a e ≤ yC b e := by
 have := ahE h
 unfold yC; split <;> split <;> omega
theorem cfI (h : n < 2 ^ (b + k)) : rne n k more ≤ 2 ^ b := by
 have : n / 2 ^ k < 2 ^ b := by rw [bO (bN aC), ← bI]; exact h
 unfold rne; split <;> omega
theorem akU (n : Nat) (e : Int) (more : Bool) : acN n e more ≤ 9007199254740992 := by
 have hn : n < 2 ^ yG n := yP.1 (aT _)
 have e53 : (9007199254740992 : Nat) = 2 ^ 53 := by decide
 unfold acN
 split
 ·rename_i h
  have hb : yG n + (e - yC n e).toNat ≤ 53 := by unfold yC at *; split at h <;> omega
  rw [e53]
  refine bE ?_ (aZ aC hb)
  rw [bI]
  exact bC _ (dS hn)
 rename_i h
 rw [e53]
 refine cfI (bQ hn (aZ aC ?_))
 unfold yC at *; split at h <;> omega
theorem brK {e : Int} (h : -1074 < yC n e) (hn : 0 < n) : 4503599627370496 ≤ acN n e more := by
 have hb : 2 ^ (yG n - 1) ≤ n := aaQ.1 (by have := aaQ.2 (show 2 ^ 0 ≤ n from hn); omega)
 have hb0 : 0 < yG n := aaQ.2 (show 2 ^ 0 ≤ n from hn)
 have e52 : (4503599627370496 : Nat) = 2 ^ 52 := by decide
 have hu : yC n e = e + yG n - 53 := by unfold yC at *; split at h <;> omega
 unfold acN
 split
 ·rw [e52]
  refine bE (aZ aC (show 52 ≤ yG n - 1 + (e - yC n e).toNat by omega)) ?_
  rw [bI]
  exact bC _ hb
 have h5 : 2 ^ 52 ≤ n / 2 ^ (yC n e - e).toNat := by
  rw [dJ (bN aC), ← bI]
  refine bE (aZ aC ?_) hb
  omega
 unfold rne
 split <;> omega
theorem axD (neg : Bool) (m : Nat) (u : Int) : beQ neg m u = aaA neg + pk m u := rfl
theorem agR {n1 n2 : Nat} {e : Int} {m1 m2 : Bool} (he : -10000 ≤ e) (he2 : e ≤ 2000) (hn : 0 < n1) (h : n1 < n2 ∨ (n1 = n2 ∧ (m1 = true → m2 = true))) : zX false n1 e m1 ≤ zX false n2 e m2 := by
 have hle : n1 ≤ n2 := by omega
 unfold zX
 rw [aI, aI, aI, aI, axD, axD]
 refine Nat.add_le_add_left ?_ _
 have hu := boD hle e
 have l1 := avU n1 e
 rcases Int.lt_or_eq_of_le hu with hlt | heq
 ·refine bE (ccJ l1 (akU _ _ _)) (bE (bwF aA (show yC n1 e + 1 ≤ yC n2 e by omega)) ?_)
  have hg := brK (more := m2) (show -1074 < yC n2 e by omega) (show 0 < n2 by omega)
  have := beO (u := yC n2 e) aA hg (akU _ _ _)
  unfold pk at this ⊢
  rw [aL aC] at this
  exact this
 rw [← heq]
 refine beO l1 ?_ (akU _ _ _)
 unfold acN
 rw [← heq]
 split
 ·exact bC _ hle
 exact bvT aA h
theorem bjA (h : 0 < n) : yG (n * 2 ^ j) = yG n + j := by
 have e : n * 2 ^ j / 2 ^ j = n := fM _ (bN aC)
 have := bfX (n := n * 2 ^ j) (j := j) (by rw [e]; exact h)
 rw [e] at this; exact this
theorem bpP (hk : 1 ≤ k) : rne (n * 2 ^ j) (k + j) false = rne n k false := by
 have hp : 0 < 2 ^ j := bN aC
 have e1 : n * 2 ^ j / 2 ^ (k + j) = n / 2 ^ k := by rw [bI, eW _ _ hp]
 have e2 : n * 2 ^ j / 2 ^ (k + j - 1) = n / 2 ^ (k - 1) := by rw [show k + j - 1 = k - 1 + j by omega, bI, eW _ _ hp]
 have e3 : n * 2 ^ j % 2 ^ (k + j - 1) ≠ 0 ↔ n % 2 ^ (k - 1) ≠ 0 := by
  rw [show k + j - 1 = k - 1 + j by omega, bI, fO]
  constructor
  ·grind
  intro h q
  rcases Nat.mul_eq_zero.1 q with q | q
  ·exact h q
  omega
 unfold rne
 rw [e1, e2]
 simp only [e3]
theorem bpQ (hk : 1 ≤ k) (hj : k ≤ j) : rne (n * 2 ^ j) k false = n * 2 ^ (j - k) := by
 have e1 : n * 2 ^ j / 2 ^ k = n * 2 ^ (j - k) := by
  rw [show j = j - k + k by omega, bI, ← bJ, fM _ (bN aC), show j - k + k - k = j - k by omega]
 have e2 : n * 2 ^ j / 2 ^ (k - 1) = n * 2 ^ (j - k) * 2 := by
  rw [show j = (j - k + 1) + (k - 1) by omega, bI, ← bJ, fM _ (bN aC), bR, ← bJ, show j - k + 1 + (k - 1) - k = j - k by omega]
 unfold rne
 rw [e1, e2, aI]
theorem afG {e : Int} (he : -10000 ≤ e) (he2 : e + j ≤ 2000) : zX neg (n * 2 ^ j) e false = zX neg n (e + j) false := by
 rcases bF n with h0 | hn
 ·subst h0; unfold zX; simp
 have hn2 : 0 < n * 2 ^ j := fZ hn (bN aC)
 have hl := bjA (j := j) hn
 have hu : yC (n * 2 ^ j) e = yC n (e + j) := by unfold yC; rw [hl]; split <;> split <;> omega
 unfold zX
 rw [aI, aI, aI, aI, hu]
 congr 1
 unfold acN
 rw [hu]
 by_cases h1 : yC n (e + j) ≤ e
 ·rw [aN h1, aJ, bJ, ← bI]
  congr 2; omega
 rw [aL h1]
 by_cases h2 : yC n (e + j) ≤ e + j
 ·rw [aN h2, bpQ aA aA]
  congr 2; omega
 rw [aL h2, show (yC n (e + j) - e).toNat = (yC n (e + j) - (e + j)).toNat + j by omega, bpP aA]
def azP (a b k : Nat) : Nat := zX false (a * 2 ^ k / b) (-(k : Int)) (decide (a * 2 ^ k % b ≠ 0))
theorem cfM (hb : 0 < b) (h : 55 ≤ yG (a * 2 ^ k / b)) (hk : k + 1 ≤ 10000) : azP a b (k + 1) = azP a b k := by
 have e1 : a * 2 ^ (k + 1) / b / 2 ^ 1 = a * 2 ^ k / b := by
  rw [gF, bY, bR, ← bJ, eW _ _ aC]
 unfold azP
 rw [aqF (j := 1) (by rw [e1]; exact h) aA aA, e1, show (-((k + 1 : Nat) : Int)) + ((1 : Nat) : Int) = -(k : Int) by omega]
 congr 1
 have hd := cJ (a * 2 ^ k) b
 have hr := bT (a * 2 ^ k) hb
 have e2 : a * 2 ^ (k + 1) = b * (2 * (a * 2 ^ k / b)) + 2 * (a * 2 ^ k % b) := by
  rw [bR, ← bJ, ← hd]
  generalize a * 2 ^ k / b = q
  generalize hr2 : (b * q + a * 2 ^ k % b) % b = r at *
  rw [gC, Nat.mod_mod] at hr2
  rw [← hr2, gD hb, cB hr, cI, bS, bJ, bL q 2, bL 2 (a * 2 ^ k % b)]
 generalize hq : a * 2 ^ k / b = q at *
 generalize hrr : a * 2 ^ k % b = r at *
 rw [e2]
 rcases cD (2 * r) b with hc | hc
 ·rw [gC, bB hc, gD hb, cB hc, cI, gF, Nat.mul_mod_right]
  by_cases hr0 : r = 0
  ·simp [hr0]
  grind
 have e3 : 2 * r = b * 1 + (2 * r - b) := by omega
 have hc2 : 2 * r - b < b := by omega
 rw [e3, ← eD, ← cC, gC, bB hc2, gD hb, cB hc2, cI, gF]
 have hr0 : r ≠ 0 := by omega
 have : (2 * q + 1) % 2 = 1 := by omega
 simp [hr0, this]
theorem bhL {k2 : Nat} (hb : 0 < b) (h : 55 ≤ yG (a * 2 ^ k / b)) (hk : k ≤ k2) (hk2 : k2 ≤ 10000) : azP a b k2 = azP a b k := by
 induction k2 with
 | zero => rw [show k = 0 by omega]
 | succ m ih =>
  rcases cD m k with hm | hm
  ·grind
  rw [cfM hb ?_ hk2, ih hm aA]
  refine bE h (ahE (Nat.div_le_div_right (bX _ (aZ aC hm))))
theorem beR (h : m < 9223372036854775808) : (m ||| 9223372036854775808) = 9223372036854775808 + m := by
 have := beS (a := m) (b := 1) (k := 63) (by rw [show (2 : Nat) ^ 63 = 9223372036854775808 by decide]; exact h)
 rw [show 1 * (2 : Nat) ^ 63 = 9223372036854775808 by decide] at this
 omega
theorem bwG (hm : m ≤ 9007199254740991) : adF m u ≤ aoG := by
 unfold adF aoG
 split
 ·omega
 split <;> omega
theorem brJ {e : Int} (h : e < yC v e) :
  acN v e more = (if v / 2 ^ ((yC v e - e).toNat - 1) % 2 = 1 ∧ (v % 2 ^ ((yC v e - e).toNat - 1) ≠ 0 ∨ more = true ∨ v / 2 ^ (yC v e - e).toNat % 2 = 1) then v / 2 ^ (yC v e - e).toNat + 1 else v / 2 ^ (yC v e - e).toNat) := by
 unfold acN
 rw [aI]; rfl
theorem arJ {e : Int} (h : yC v e ≤ e) : acN v e more = v * 2 ^ (e - yC v e).toNat := by
 unfold acN
 rw [aN h]
theorem avJ {e : Int} (h : e < yC v e) : v / 2 ^ ((yC v e - e).toNat - 1) < 18014398509481984 := by
 have hn : v < 2 ^ yG v := yP.1 (aT _)
 rw [bO (bN aC), show (18014398509481984 : Nat) = 2 ^ 54 by decide, ← bI]
 refine bQ hn (aZ aC ?_)
 unfold yC at *
 split at h <;> omega
theorem cdO {x : Nat} (h : x < 18014398509481984) : x * 2 ^ 63 % M2 / M1 = x / 2 := by
 have e63 : (2 : Nat) ^ 63 = 9223372036854775808 := by decide
 rw [e63]; unfold M1 M2; omega
theorem biS (hk : 1 ≤ k) : v / 2 ^ (k - 1) / 2 = v / 2 ^ k := by
 rw [bY, ← bR, show (k - 1).succ = k by omega]
theorem bbC {e : Int} (h : yC v e ≤ e) : v * 2 ^ (e - yC v e).toNat < M1 := by
 have := akU v e false
 rw [arJ h] at this
 unfold M1; omega
theorem boB {e : Int} (h0 : 0 < v) (h : yC v e ≤ e) : e - yC v e ≤ 52 := by
 have hb : 0 < yG v := aaQ.2 (show 2 ^ 0 ≤ v from h0)
 unfold yC at *
 split at h <;> omega
theorem cbO {x : Nat} (hx : x < 4294967296) : v * 2 ^ 32 % M2 / M1 = (v * 4294967296 + x) % M2 / M1 ∧ (v * 2 ^ 32 % M2 % M1 ||| x) = (v * 4294967296 + x) % M2 % M1 := by
 have e32 : (2 : Nat) ^ 32 = 4294967296 := by decide
 have h1 : v * 2 ^ 32 % M2 % M1 ||| x = v * 2 ^ 32 % M2 % M1 + x := by
  have h2 : v * 2 ^ 32 % M2 % M1 = (v % 4294967296) * 2 ^ 32 := by
   rw [bzO, e32]; unfold M1; omega
  rw [h2]; exact aiS (by rw [e32]; exact hx)
 rw [h1, e32]
 unfold M1 M2
 constructor <;> omega
section
open Go Go.RowKit
set_option maxRecDepth 100000

theorem blen0 {n : Nat} : ((yG n : Nat) : Int) = 0 ↔ n = 0 := by
 have h := @aaQ n 0
 rw [dN] at h
 omega
def bmK (n : Nat) (e : Int) : Bool := decide (n = 0 ∨ (e < -10000 ∧ e + yG n < -2000) ∨ 2000 < e)
def bxU (neg : Bool) (n : Nat) (e : Int) : Nat := if n = 0 ∨ (e < -10000 ∧ e + yG n < -2000) then aaA neg else if 2000 < e then aaA neg + aoG else 0
theorem caR {e : Int} (h : n = 0 ∨ (e < -10000 ∧ e + yG n < -2000)) : bxU neg n e = aaA neg ∧ bmK n e = true := by
 unfold bxU bmK
 exact ⟨aN h, bG aA⟩
theorem caS {e : Int} (h : ¬ (n = 0 ∨ (e < -10000 ∧ e + yG n < -2000))) (h2 : 2000 < e) : bxU neg n e = aaA neg + aoG ∧ bmK n e = true := by
 unfold bxU bmK
 exact ⟨by rw [aL h, aN h2], bG aA⟩
theorem caQ {e : Int} (h : ¬ (n = 0 ∨ (e < -10000 ∧ e + yG n < -2000))) (h2 : ¬ 2000 < e) : bxU neg n e = 0 ∧ bmK n e = false := by
 unfold bxU bmK
 exact ⟨by rw [aL h, aL h2], bD aA⟩
theorem bxT {e : Int} (h : bmK n e = true) : zX neg n e more = bxU neg n e := by
 have h := of_decide_eq_true h
 unfold zX bxU
 split
 ·rfl
 rw [aJ, aJ]
theorem bbH {e : Int} (h : bmK n e = false) : 0 < n ∧ e ≤ 2000 ∧ -110000 ≤ e + yG n ∧ zX neg n e more = beQ neg (acN n e more) (yC n e) := by
 have h := of_decide_eq_false h
 refine ⟨by omega, by omega, by omega, ?_⟩
 unfold zX
 rw [aI, aI]

def anB (m : Nat) : Nat := if m = 9007199254740992 then 4503599627370496 else m
def alT (m : Nat) (u : Int) : Int := if m = 9007199254740992 then u + 1 else u
theorem bhU (neg : Bool) (m : Nat) (u : Int) : beQ neg m u = aaA neg + adF (anB m) (alT m u) := by
 unfold beQ anB alT
 split <;> rfl
theorem bhV (h : m ≤ 9007199254740992) : anB m ≤ 9007199254740991 := by unfold anB; split <;> omega
theorem bhT (m : Nat) (u : Int) : u ≤ alT m u ∧ alT m u ≤ u + 1 := by unfold alT; split <;> omega
theorem shl52 (h : k ≤ 100000) : k * 2 ^ 52 = k * 4503599627370496 := by rw [show (2 : Nat) ^ 52 = 4503599627370496 by decide]

theorem agX (neg : Bool) (m : Nat) (hm : m ≤ 9007199254740992) (u : Int) (hu : -1074 ≤ u ∧ u ≤ 1000000) : Fn 239 [.bool neg, .int .u64 (m : Int), .int .i64 u] (.int .u64 ((beQ neg m u : Nat) : Int)) := by
 intro H
 refine .of_body func239 rfl ntmps239 results239 rfl ?_
 iterate 2 refine AX ?_
 refine .p rfl (zG (zI 0)) ?_
 iterate 2 refine AX ?_
 refine .seqToL [(1, .int .u64 ((anB m : Nat) : Int)), (2, .int .i64 (alT m u))] [0, 6] ?_ ?_
 ·iterate 3 refine AX ?_
  refine .p rfl (yO (tm rfl) (zI 9007199254740992)) ?_
  refine AY ?_
  refine .cx rfl (fun hc8 => ?_) (fun hc8 => ?_)
  ·iterate 3 refine AX ?_
   refine .p rfl (zG (zI 4503599627370496)) ?_
   refine AY ?_
   exact ⟨rfl, (zN rfl (by (unfold anB; rw [aJ]; done)) (zN rfl (by (unfold alT; rw [aJ]; done)) sX)), rfl⟩
  refine AX ?_
  exact ⟨rfl, (zN rfl (by (unfold anB; rw [aI]; done)) (zN rfl (by (unfold alT; rw [aI]; done)) sX)), rfl⟩
 refine .sub [(1, _), (2, _), (0, _), (6, _)] sX ?_
 rw [bhU]
 have hA := bhV hm
 have hU := bhT m u
 generalize anB m = m1 at hA ⊢
 generalize alT m u = u1 at hU ⊢
 refine .seqToL [(1, .int .u64 ((adF m1 u1 : Nat) : Int))] [2, 0, 6] ?_ ?_
 ·iterate 4 refine AX ?_
  refine .p rfl (acE (tm rfl) (zI 4503599627370496)) ?_
  refine AX ?_
  refine zD (t := 14) rfl (fun hg14 => ?_) (fun hg14 => ?_)
  ·have hh14 := hg14; try simp only [aO] at hh14
   refine AY ?_
   refine .cx rfl (fun hc11 => ?_) (fun hc11 => ?_)
   ·try simp only [bK, aO] at hc11
    refine AX ?_
    refine .p rfl (zG (zI 9218868437227405312)) ?_
    refine AY ?_
    exact ⟨rfl, (zN rfl (by unfold adF; first | (rw [aI, aJ]; rfl) | (rw [aJ]; done) | (rw [aI, aI, shl52 aA])) sX), rfl⟩
   try simp only [bU, aM] at hc11
   iterate 3 refine AX ?_
   refine .p rfl (acE (tm rfl) (zI 4503599627370496)) ?_
   refine AY ?_
   refine .cx rfl (fun hc19 => ?_) (fun hc19 => ?_)
   ·refine AY ?_
    refine .p rfl (.as (b := .int .u64 (((u1 + 1074).toNat : Nat) : Int)) (by congr 1; omega) (qX U3 U22 (tm rfl) (wrap64 aA aA))) ?_
    refine .p rfl (qA (tm rfl) (zI 52) aA (by rw [shl52 aA]; omega)) (.p rfl (yR (tm rfl) (tm rfl) (by (rw [shl52 aA]; omega))) ?_)
    refine AY ?_
    exact ⟨rfl, (zN rfl (by unfold adF; first | (rw [aI, aJ]; rfl) | (rw [aJ]; done) | (rw [aI, aI, shl52 aA])) sX), rfl⟩
   refine AY ?_
   exact ⟨rfl, (zN rfl (by unfold adF; first | (rw [aI, aJ]; rfl) | (rw [aJ]; done) | (rw [aI, aI, shl52 aA])) sX), rfl⟩
  have hh14 := hg14; try simp only [aM, dK] at hh14
  refine AY ?_
  refine .cond_false (tm rfl) aD ?_
  iterate 3 refine AX ?_
  refine .p rfl (acE (tm rfl) (zI 4503599627370496)) ?_
  refine AY ?_
  refine .cx rfl (fun hc19 => ?_) (fun hc19 => ?_)
  ·refine AY ?_
   refine .p rfl (.as (b := .int .u64 (((u1 + 1074).toNat : Nat) : Int)) (by congr 1; omega) (qX U3 U22 (tm rfl) (wrap64 aA aA))) ?_
   refine .p rfl (qA (tm rfl) (zI 52) aA (by rw [shl52 aA]; omega)) (.p rfl (yR (tm rfl) (tm rfl) (by (rw [shl52 aA]; omega))) ?_)
   refine AY ?_
   exact ⟨rfl, (zN rfl (by unfold adF; first | (rw [aI, aJ]; rfl) | (rw [aJ]; done) | (rw [aI, aI, shl52 aA])) sX), rfl⟩
  refine AY ?_
  exact ⟨rfl, (zN rfl (by unfold adF; first | (rw [aI, aJ]; rfl) | (rw [aJ]; done) | (rw [aI, aI, shl52 aA])) sX), rfl⟩
 refine .sub [(1, _), (2, _), (0, _), (6, _)] sX ?_
 have hM := bwG (u := u1) hA
 have hM2 : adF m1 u1 < 9223372036854775808 := aV hM aC
 refine AY ?_
 refine .cx rfl (fun hc29 => ?_) (fun hc29 => ?_)
 ·refine AY ?_
  refine .p rfl (abD (tm rfl) (zI 9223372036854775808) aA aA) ?_
  refine AY ?_
  refine ⟨?_, rfl⟩
  simp only [yE, aaA]
  rw [aN aB, beR hM2]
 refine AY ?_
 refine ⟨?_, rfl⟩
 simp only [yE, aaA]
 rw [aL aH, bZ]

theorem bjP (n : Nat) (e : Int) (hn : yG n ≤ 100000) (he : -1000000000000000 ≤ e ∧ e ≤ 1000000000000000) : Fn 238 [.int .i64 (yG n : Int), .int .i64 e] (.int .i64 (yC n e)) := by
 intro H
 refine .of_body func238 rfl ntmps238 results238 rfl ?_
 refine AY ?_
 refine ⟨?_, rfl⟩
 simp only [yE, yC, baZ] <;> (congr 1; split <;> split <;> omega)

theorem bsQ (neg : Bool) (n : Nat) (e : Int) (hn : yG n ≤ 100000) (he : -1000000000000000 ≤ e ∧ e ≤ 1000000000000000) : Fn 237 [.bool neg, .int .i64 (yG n : Int), .int .i64 e] (.tuple [.int .u64 ((bxU neg n e : Nat) : Int), .bool (bmK n e)]) := by
 intro H
 have hb0 := @blen0 n
 refine .of_body func237 rfl ntmps237 results237 rfl ?_
 iterate 2 refine AX ?_
 refine .p rfl (zG (zI 0)) ?_
 refine AY ?_
 refine zD (t := 11) rfl (fun hg11 => ?_) (fun hg11 => ?_)
 ·have hh11 := hg11; try simp only [aO] at hh11
  refine AY ?_
  refine .cond_true (tm rfl) aD ?_
  refine AY ?_
  refine .cl rfl C239 (.cons (tm rfl) (.cons (zI 0) (.cons zH .nil))) (agX _ _ aA _ aA _) ?_
  refine AY ?_
  refine ⟨?_, rfl⟩
  obtain ⟨e1, e2⟩ := caR (neg := neg) (n := n) (e := e) aA
  rw [e1, e2]
  rfl
 have hh11 := hg11; try simp only [aM] at hh11
 refine AY ?_
 refine zD (t := 14) rfl (fun hg14 => ?_) (fun hg14 => ?_)
 ·have hh14 := hg14; try simp only [aO] at hh14
  refine AY ?_
  refine .cx rfl (fun hc8 => ?_) (fun hc8 => ?_)
  ·refine AY ?_
   refine .cl rfl C239 (.cons (tm rfl) (.cons (zI 0) (.cons zH .nil))) (agX _ _ aA _ aA _) ?_
   refine AY ?_
   refine ⟨?_, rfl⟩
   obtain ⟨e1, e2⟩ := caR (neg := neg) (n := n) (e := e) aA
   rw [e1, e2]
   rfl
  refine AY ?_
  refine .cx rfl (fun hc23 => ?_) (fun hc23 => ?_)
  ·refine AY ?_
   refine .cl rfl C239 (.cons (tm rfl) (.cons (zI 4503599627370496) (.cons zH .nil))) (agX _ _ aA _ aA _) ?_
   refine AY ?_
   refine ⟨?_, rfl⟩
   obtain ⟨e1, e2⟩ := caS (neg := neg) (n := n) (e := e) aA aA
   rw [e1, e2]
   rfl
  iterate 5 refine AX ?_
  refine .p rfl (zG (zI 0)) ?_
  refine AY ?_
  refine ⟨?_, rfl⟩
  obtain ⟨e1, e2⟩ := caQ (neg := neg) (n := n) (e := e) aA aA
  rw [e1, e2]
  rfl
 have hh14 := hg14; try simp only [aM, cH] at hh14
 refine AY ?_
 refine .cond_false (tm rfl) aD ?_
 refine AY ?_
 refine .cx rfl (fun hc23 => ?_) (fun hc23 => ?_)
 ·refine AY ?_
  refine .cl rfl C239 (.cons (tm rfl) (.cons (zI 4503599627370496) (.cons zH .nil))) (agX _ _ aA _ aA _) ?_
  refine AY ?_
  refine ⟨?_, rfl⟩
  obtain ⟨e1, e2⟩ := caS (neg := neg) (n := n) (e := e) aA aA
  rw [e1, e2]
  rfl
 iterate 5 refine AX ?_
 refine .p rfl (zG (zI 0)) ?_
 refine AY ?_
 refine ⟨?_, rfl⟩
 obtain ⟨e1, e2⟩ := caQ (neg := neg) (n := n) (e := e) aA aA
 rw [e1, e2]
 rfl

end
section
open Go Go.RowKit
set_option maxRecDepth 100000

def dM (v : Nat) (k : Int) : Nat := if k ≤ 0 then v * 2 ^ (-k).toNat else v / 2 ^ k.toNat
def dH (v : Nat) (k : Int) : Bool := decide (0 < k ∧ v / 2 ^ (k.toNat - 1) % 2 = 1)
def dR (v : Nat) (k : Int) : Bool := decide (0 < k ∧ v % 2 ^ (k.toNat - 1) ≠ 0)
theorem cgH {P Q : Prop} [Decidable P] [Decidable Q] (h : P ↔ Q) (a b : Nat) : (if P then a else b) = if Q then a else b := by
 by_cases hp : P
 ·rw [aN hp, aN (h.1 hp)]
 rw [aL hp, aL (fun q => hp (h.2 q))]
theorem cgC (v : Nat) (e : Int) (more : Bool) :
  acN v e more = if (dH v (yC v e - e) && (dR v (yC v e - e) || more || decide (((dM v (yC v e - e) &&& 1 : Nat) : Int) = ((1 : Nat) : Int)))) = true then dM v (yC v e - e) + 1 else dM v (yC v e - e) := by
 have e1 : ∀ x : Nat, (decide (((x &&& 1 : Nat) : Int) = ((1 : Nat) : Int))) = decide (x % 2 = 1) := fun x => by
  refine aY.2 ?_
  rw [show (1 : Nat) = 2 ^ 1 - 1 by decide, cW]
  omega
 rw [e1]
 by_cases h : yC v e ≤ e
 ·have hd : dM v (yC v e - e) = acN v e more := by
   rw [arJ h]; unfold dM; rw [aJ]; congr 2; omega
  have hh : dH v (yC v e - e) = false := by unfold dH; exact bD aA
  rw [hh, Bool.false_and, aL aC, hd]
 have hd : dM v (yC v e - e) = v / 2 ^ (yC v e - e).toNat := by unfold dM; rw [aI]
 have hp : 0 < yC v e - e := by omega
 rw [brJ aA, hd]
 have hH : dH v (yC v e - e) = decide (v / 2 ^ ((yC v e - e).toNat - 1) % 2 = 1) := by unfold dH; exact aY.2 ⟨fun q => q.2, fun q => ⟨hp, q⟩⟩
 have hR : dR v (yC v e - e) = decide (v % 2 ^ ((yC v e - e).toNat - 1) ≠ 0) := by unfold dR; exact aY.2 ⟨fun q => q.2, fun q => ⟨hp, q⟩⟩
 rw [hH, hR]
 refine cgH ?_ _ _
 simp only [bK, cN, aO, or_assoc]

theorem azB (neg : Bool) (n : Nat) (e : Int) (more : Bool) (hn : yG n ≤ 100000) (he : -1000000000000000 ≤ e ∧ e ≤ 1000000000000000) (f : FuncId) (cap : List AV) (H : Heap) (hent : ∀ args w, (callFunc f args).run prog w = .ok (.enter f args) w) (hf : bmK n e = false → ACall prog f ([.int .i64 (yC n e - e)] ++ cap) H (fun y H' => y = .tuple [.int .u64 ((dM n (yC n e - e) : Nat) : Int), .bool (dH n (yC n e - e)), .bool (dR n (yC n e - e))] ∧ H' = H)) : ACall prog 184 [.bool neg, .int .i64 (yG n : Int), .int .i64 e, .bool more, .func f cap] H (fun y H' => y = .int .u64 ((zX neg n e more : Nat) : Int) ∧ H' = H) := by
 have hmd := cgC n e more
 have hml := akU n e more
 have hdm : dM n (yC n e - e) ≤ 9007199254740992 := by rw [hmd] at hml; split at hml <;> omega
 have hul := avU n e
 have hur : yC n e ≤ 1000000000000000 + 100000 := by unfold yC; split <;> omega
 refine .of_body func184 rfl ntmps184 results184 rfl ?_
 iterate 2 refine AX ?_
 refine .p rfl (zG (zI 0)) ?_
 refine AY ?_
 refine .cl rfl call237 (evs3 rfl rfl rfl) (bsQ neg n e hn he _) ?_
 refine AY ?_
 refine .cx rfl (fun hc24 => ?_) (fun hc24 => ?_)
 ·have hfar : bmK n e = true := hc24
  refine AY ?_
  refine ⟨?_, rfl⟩
  rw [bxT hfar]; rfl
 have hfar : bmK n e = false := hc24
 obtain ⟨hf1, hf2, hf3, hf4⟩ := bbH (neg := neg) (more := more) hfar
 have hup : yC n e ≤ 1000000 := by unfold yC; split <;> omega
 refine AY ?_
 refine .cl rfl call238 (evs2 rfl rfl) (bjP n e hn he _) ?_
 refine AY ?_
 refine .e rfl (apP hent (tm rfl) (evs1 rfl) (hf hfar)) ?_
 iterate 9 refine AX ?_
 refine .seqToL [(14, .int .u64 ((acN n e more : Nat) : Int))] [0, 10, 13] ?_ ?_
 ·refine .seqTo 49 (.bool ((dH n (yC n e - e) && (dR n (yC n e - e) || more || decide (((dM n (yC n e - e) &&& 1 : Nat) : Int) = ((1 : Nat) : Int)))))) [0, 10, 13, 14] ?_ ?_
  ·-- region 6
   refine AY ?_
   refine zD (t := 39) rfl (fun hg39 => ?_) (fun hg39 => ?_)
   ·refine AY ?_
    refine zD (t := 41) rfl (fun hg41 => ?_) (fun hg41 => ?_)
    ·refine AY ?_
     exact ⟨rfl, zO rfl (by (rw [show dH n (yC n e - e) = _ from hg39, show dR n (yC n e - e) = _ from hg41]; rfl)) sX, rfl⟩
    refine AY ?_
    refine zD (t := 44) rfl (fun hg44 => ?_) (fun hg44 => ?_)
    ·refine AY ?_
     exact ⟨rfl, zO rfl (by (rw [show dH n (yC n e - e) = _ from hg39, show dR n (yC n e - e) = _ from hg41, show more = _ from hg44]; rfl)) sX, rfl⟩
    refine AX ?_
    refine .gp rfl rfl rfl aB (abE (tm rfl) (zI 1) aA aA) (.gp rfl rfl rfl aB (yO (tm rfl) (zI 1)) ?_)
    refine AY ?_
    exact ⟨rfl, zO rfl (by (rw [show dH n (yC n e - e) = _ from hg39, show dR n (yC n e - e) = _ from hg41, show more = _ from hg44]; rfl)) sX, rfl⟩
   refine AY ?_
   exact ⟨rfl, zO rfl (by (rw [show dH n (yC n e - e) = _ from hg39]; rfl)) sX, rfl⟩
  refine .sub [(49, _), (0, _), (10, _), (13, _), (14, _)] sX ?_
  refine .cx rfl (fun hc49 => ?_) (fun hc49 => ?_)
  ·rw [aN hc49] at hmd
   refine AY ?_
   refine .p rfl (yR (tm rfl) (zI 1) aA) ?_
   refine AY ?_
   exact ⟨rfl, (zN rfl (by rw [hmd]) sX), rfl⟩
  rw [aL (by rw [hc49]; decide)] at hmd
  refine AX ?_
  exact ⟨rfl, (zN rfl (by rw [hmd]) sX), rfl⟩
 refine .sub [(14, _), (0, _), (10, _), (13, _)] sX ?_
 refine AY ?_
 refine .cl rfl C239 (evs3 rfl rfl rfl) (agX neg _ hml _ (by constructor <;> omega) _) ?_
 refine AY ?_
 refine ⟨?_, rfl⟩
 rw [hf4]; rfl

theorem bmS (v : Nat) (hv : v < M2) (k : Int) (hk : -52 ≤ k ∧ k ≤ 1000000) (h0 : k ≤ 0 → v * 2 ^ (-k).toNat < M1) (h1 : 0 < k → v / 2 ^ (k.toNat - 1) < 18014398509481984) : Fn 186 [.int .i64 k, .iptr (u2 v).cells] (.tuple [.int .u64 ((dM v k : Nat) : Int), .bool (dH v k), .bool (dR v k)]) := by
 intro H
 refine .of_body func186 rfl ntmps186 results186 rfl ?_
 iterate 2 refine AX ?_
 refine .p rfl (zG (zI 0)) ?_
 refine AY ?_
 refine .cx rfl (fun hc9 => ?_) (fun hc9 => ?_)
 ·have hq := h0 aA
  refine AY ?_
  refine .cl rfl C187 (evs2 rfl rfl) (agO v (-k).toNat aA (-k) aA _) (.p rfl (aoB U149 rfl G22 Z22 (tm rfl) rfl) ?_)
  refine AY ?_
  refine ⟨?_, rfl⟩
  have e1 : dM v k = v * 2 ^ (-k).toNat := by unfold dM; rw [aJ]
  have e2 : dH v k = false := by unfold dH; exact bD aA
  have e3 : dR v k = false := by unfold dR; exact bD aA
  have e4 : v * 2 ^ (-k).toNat % M2 % M1 = v * 2 ^ (-k).toNat := by rw [bB (dI hq aE), bB hq]
  rw [e1, e2, e3]
  show AV.tuple [.int .u64 ((v * 2 ^ (-k).toNat % M2 % M1 : Nat) : Int), _, _] = _
  rw [e4]
 have hq := h1 aA
 have hqm : v / 2 ^ (k.toNat - 1) % M1 < 18446744073709551616 := afN _
 refine AY ?_
 refine .cl rfl call188 (evs2 rfl rfl) (amP v hv (k.toNat - 1) aA (k - 1) aA _) ?_
 refine AY ?_
 refine .al zr149 (fun b6 hb6 => ?_)
 iterate 4 refine AX ?_
 refine .frz (t := 6) rfl (hb6) ?_
 refine AX ?_
 refine .draw [(0, true), (3, true), (4, true), (5, true), (6, true), (7, true), (1, false), (2, true), (8, true), (9, true), (10, true)] rfl aE ?_
 refine AX ?_
 refine .p rfl rfl (zA U149 rfl Z22 (tm rfl)) ?_
 refine AX ?_
 refine .p rfl rfl (abE (tm rfl) (zI 1) aB aA) (.p rfl rfl (yO (tm rfl) (zI 1)) ?_)
 refine AX ?_
 refine .s rfl rfl (zB C187 (.cons (tm rfl) (.cons zH .nil)) (agO (v / 2 ^ (k.toNat - 1)) 63 aC 63 rfl _)) ?_
 rintro _ _ ⟨rfl, hH⟩
 obtain rfl := hH.symm
 refine .p rfl rfl (aoB U149 rfl G22 Z22 (tm rfl) rfl) ?_
 refine AY ?_
 refine ⟨?_, rfl⟩
 have e1 : dM v k = v / 2 ^ k.toNat := by unfold dM; rw [aI]
 have e2 : dH v k = decide (v / 2 ^ (k.toNat - 1) % 2 = 1) := by unfold dH; exact aY.2 ⟨fun q => q.2, fun q => ⟨by omega, q⟩⟩
 have e3 : dR v k = decide (v % 2 ^ (k.toNat - 1) ≠ 0) := by unfold dR; exact aY.2 ⟨fun q => q.2, fun q => ⟨by omega, q⟩⟩
 have e4 : v / 2 ^ (k.toNat - 1) * 2 ^ 63 % M2 / M1 = v / 2 ^ k.toNat := by rw [cdO hq, biS aA]
 have e5 : decide (((v / 2 ^ (k.toNat - 1) % M1 &&& 1 : Nat) : Int) = ((1 : Nat) : Int)) = decide (v / 2 ^ (k.toNat - 1) % 2 = 1) := by
  refine aY.2 ?_
  rw [bB (dI hq aE), show (1 : Nat) = 2 ^ 1 - 1 by decide, cW]
  omega
 rw [e1, e2, e3]
 show AV.tuple [.int .u64 ((v / 2 ^ (k.toNat - 1) * 2 ^ 63 % M2 / M1 : Nat) : Int), .bool (decide (((v / 2 ^ (k.toNat - 1) % M1 &&& 1 : Nat) : Int) = ((1 : Nat) : Int))), _] = _
 rw [e4, e5]

theorem wLen2 (v : Nat) (hv : v < M2) : Fn 185 [u2 v] (.int .i64 (yG v : Int)) := by
 intro H
 have h := bjL (v / M1) (v % M1) (bmB hv) (afN v) H
 rw [show v / M1 * 18446744073709551616 + v % M1 = v from by have := cJ v M1; rw [bL] at this; exact this] at h
 exact h
theorem ceB (v : Nat) (hv : v < M2) (e : Int) (hfar : bmK v e = false) (H : Heap) : ACall prog 186 ([.int .i64 (yC v e - e)] ++ [.iptr (u2 v).cells]) H (fun y H' => y = .tuple [.int .u64 ((dM v (yC v e - e) : Nat) : Int), .bool (dH v (yC v e - e)), .bool (dR v (yC v e - e))] ∧ H' = H) := by
 obtain ⟨h0, h1, h2, h3⟩ := bbH (neg := false) (more := false) hfar
 have hb : yG v ≤ 128 := yP.2 (by rw [show (2 : Nat) ^ 128 = M2 by decide +kernel]; exact hv)
 refine bmS v hv (yC v e - e) ⟨?_, ?_⟩ (fun q => ?_) (fun q => ?_) H
 ·rcases Int.lt_or_le e (yC v e) with h | h
  ·omega
  have := boB h0 h; omega
 ·unfold yC; split <;> omega
 ·have := bbC (v := v) (e := e) aA
  rw [show (-(yC v e - e)).toNat = (e - yC v e).toNat by omega]; exact this
 exact avJ aA

theorem adE (neg : Bool) (v : Nat) (hv : v < M2) (e : Int) (he : -1000000000000000 ≤ e ∧ e ≤ 1000000000000000) (more : Bool) : Fn 122 [.bool neg, u2 v, .int .i64 e, .bool more] (.int .u64 ((zX neg v e more : Nat) : Int)) := by
 intro H
 refine .of_body func122 rfl ntmps122 results122 rfl ?_
 iterate 3 refine AX ?_
 refine .p rfl (zG (zI 0)) ?_
 refine AY ?_
 refine .cl rfl call185 (evs1 rfl) (wLen2 v hv _) ?_
 refine AY ?_
 refine .p rfl (bkX (tm rfl)) ?_
 refine .cl rfl call184 (.cons (tm rfl) (.cons (tm rfl) (evs3 rfl rfl rfl))) (azB neg v e more (by have : yG v ≤ 128 := yP.2 (by rw [show (2 : Nat) ^ 128 = M2 by decide +kernel]; exact hv); omega) he 186 [.iptr (u2 v).cells] _ call186 (fun hfar => ceB v hv e hfar _)) ?_
 refine AY ?_
 exact ⟨rfl, rfl⟩

end
def atB (k : Int) : Int := if k < 0 then -((yG (10 ^ (-k).toNat) + 127 : Nat) : Int) else (yG (10 ^ k.toNat) : Int) - 128
def aiC (k : Int) : Nat :=
 if k < 0 then 2 ^ (yG (10 ^ (-k).toNat) + 127) / 10 ^ (-k).toNat
 else if yG (10 ^ k.toNat) ≤ 128 then 10 ^ k.toNat * 2 ^ (128 - yG (10 ^ k.toNat))
 else 10 ^ k.toNat / 2 ^ (yG (10 ^ k.toNat) - 128)
def bcL (k : Int) : Bool := if k < 0 then false else decide (yG (10 ^ k.toNat) ≤ 128 ∨ 10 ^ k.toNat % 2 ^ (yG (10 ^ k.toNat) - 128) = 0)
def akO (m : Nat) (k : Int) : Nat :=
 if 0 ≤ k then zX false (m * 10 ^ k.toNat) 0 false else azP m (10 ^ (-k).toNat) (yG (10 ^ (-k).toNat) + 127)
def akA (m : Nat) (k : Int) : Nat := zX false (aiC k * m) (atB k) false
def aqS (m : Nat) (k : Int) : Bool := bcL k || decide (zX false ((aiC k + 1) * m) (atB k) false = akA m k)
def avZ (m : Nat) (k : Int) : Nat := yG (10 ^ (-k).toNat) + 66 - yG m
def apQ (m : Nat) (k : Int) : Nat := if 0 ≤ k then zX false (m * 10 ^ k.toNat) 0 false else azP m (10 ^ (-k).toNat) (avZ m k)

theorem acL (j : Nat) : 0 < 10 ^ j := bN aC
theorem cbK (j : Nat) : 10 ^ j < 2 ^ (4 * j + 1) := by
 refine aV (Nat.pow_le_pow_left (show 10 ≤ 2 ^ 4 by decide) j) ?_
 rw [← dW]
 exact dU aC aA
theorem ajC (j : Nat) : yG (10 ^ j) ≤ 4 * j + 1 := yP.2 (cbK j)
theorem aeE (h : 0 < n) : 0 < yG n := aaQ.2 (by rw [dN]; exact h)
theorem asJ (h : 0 < n) : 2 ^ (yG n - 1) ≤ n := aaQ.1 (by have := aeE h; omega)
theorem agD (n : Nat) : n < 2 ^ yG n := yP.1 (aT _)
theorem bdW {K p : Nat} (hm : 0 < m) (hp : 0 < p) (hb : 0 < b) (hK : K ≤ 10000) (h1 : p * b ≤ 2 ^ K) (h2 : 2 ^ K < (p + 1) * b) :
  zX false (p * m) (-(K : Int)) false ≤ azP m b K ∧ azP m b K ≤ zX false ((p + 1) * m) (-(K : Int)) false := by
 have hpm : 0 < p * m := fZ hp hm
 have e1 : p * m ≤ m * 2 ^ K / b := by
  rw [dJ hb, bL p m, bJ]
  exact bX _ h1
 have e2 : m * 2 ^ K / b < (p + 1) * m := by
  rw [bO hb, bL (p + 1) m, bJ]
  exact fJ h2 hm
 unfold azP
 constructor
 ·refine agR aA aA hpm ?_
  rcases Nat.lt_or_eq_of_le e1 with h | h
  ·grind
  grind
 exact agR aA aA aA (.inl e2)
theorem beT {t p : Nat} (hm : 0 < m) (hj : j ≤ 2000) (hb : 55 ≤ yG p) (h1 : p * 2 ^ j ≤ t) (h2 : t < (p + 1) * 2 ^ j) :
  zX false (p * m) (j : Int) false ≤ zX false (m * t) 0 false ∧ zX false (m * t) 0 false ≤ zX false ((p + 1) * m) (j : Int) false := by
 have hj0 : 0 < 2 ^ j := bN aC
 have hp : 0 < p := by
  rcases bF p with h | h
  ·subst h; have := yP.2 (show 0 < 2 ^ 0 by decide); omega
  exact h
 have hpm : 0 < p * m := fZ hp hm
 have e1 : p * m ≤ m * t / 2 ^ j := by
  rw [dJ hj0, bL p m, bJ]
  exact bX _ h1
 have e2 : m * t / 2 ^ j < (p + 1) * m := by
  rw [bO hj0, bL (p + 1) m, bJ]
  exact fJ h2 hm
 have hbl : 55 ≤ yG (m * t / 2 ^ j) := bE hb (ahE (bE (fE _ hm) e1))
 rw [aqF (n := m * t) (j := j) hbl aA aA, show (0 : Int) + (j : Int) = (j : Int) by omega]
 constructor
 ·refine agR aA aA hpm ?_
  rcases Nat.lt_or_eq_of_le e1 with h | h
  ·grind
  grind
 exact agR aA aA aA (.inl e2)
theorem beL {j : Nat} : 0 < 2 ^ (yG (10 ^ j) + 127) / 10 ^ j := by
 rw [Nat.div_pos_iff]
 refine ⟨acL j, bE (dS (agD _)) (aZ aC aA)⟩
theorem beB {k : Int} (hm : 0 < m) (hk : -400 ≤ k ∧ k ≤ 400) (h : aqS m k = true) : akA m k = akO m k := by
 unfold aqS akA at h
 unfold akA akO
 rcases Int.lt_or_le k 0 with hn | hn
 ·rw [aI]
  have hA : bcL k = false := by unfold bcL; rw [aN hn]
  have hE : atB k = -((yG (10 ^ (-k).toNat) + 127 : Nat) : Int) := by unfold atB; rw [aN hn]
  have hP : aiC k = 2 ^ (yG (10 ^ (-k).toNat) + 127) / 10 ^ (-k).toNat := by unfold aiC; rw [aN hn]
  rw [hA, Bool.false_or, aO] at h
  have hbl := ajC (-k).toNat
  have ht := acL (-k).toNat
  have hp := @beL (-k).toNat
  rw [hE, hP] at h
  rw [hE, hP]
  generalize hK : yG (10 ^ (-k).toNat) + 127 = K at *
  obtain ⟨a, b⟩ := bdW (m := m) (b := 10 ^ (-k).toNat) (K := K) (p := 2 ^ K / 10 ^ (-k).toNat) hm hp ht aA (eL _ _) (by
    have := gH (2 ^ K / 10 ^ (-k).toNat)
    exact (bO ht).1 this)
  rw [h] at b
  exact Nat.le_antisymm a b
 rw [aN hn]
 have hE : atB k = (yG (10 ^ k.toNat) : Int) - 128 := by unfold atB; rw [aI]
 have hbl := ajC k.toNat
 have ht := acL k.toNat
 rcases cD 128 (yG (10 ^ k.toNat)) with hl | hl
 ·have hP : aiC k = 10 ^ k.toNat / 2 ^ (yG (10 ^ k.toNat) - 128) := by unfold aiC; rw [aI, aI]
  have hA : bcL k = decide (10 ^ k.toNat % 2 ^ (yG (10 ^ k.toNat) - 128) = 0) := by
   unfold bcL; rw [aI]; exact aY.2 ⟨fun q => q.resolve_left aA, .inr⟩
  have hj : (yG (10 ^ k.toNat) : Int) - 128 = ((yG (10 ^ k.toNat) - 128 : Nat) : Int) := by omega
  rw [hE, hj, hP, hA] at h
  rw [hE, hj, hP]
  have hb : yG (10 ^ k.toNat / 2 ^ (yG (10 ^ k.toNat) - 128)) = 128 := by
   have hpos : 0 < 10 ^ k.toNat / 2 ^ (yG (10 ^ k.toNat) - 128) := by
    rw [Nat.div_pos_iff]
    exact ⟨bN aC, bE (aZ aC aA) (asJ ht)⟩
   have := bfX hpos
   omega
  generalize hjj : yG (10 ^ k.toNat) - 128 = j at *
  generalize htt : 10 ^ k.toNat = t at *
  have hj0 : 0 < 2 ^ j := bN aC
  rw [cN, aO, aO] at h
  rcases h with h | h
  ·have e : m * t = t / 2 ^ j * m * 2 ^ j := by
    have := cJ t (2 ^ j)
    rw [h, cI] at this
    conv => lhs; rw [← this]
    rw [bL (2 ^ j), ← bJ, bL m]
   rw [e, afG aA aA, show (0 : Int) + (j : Int) = (j : Int) by omega]
  obtain ⟨a, b⟩ := beT (m := m) (t := t) (p := t / 2 ^ j) (j := j) hm aA aA (eL _ _) ((bO hj0).1 (gH _))
  rw [h] at b
  exact Nat.le_antisymm a b
 have hP : aiC k = 10 ^ k.toNat * 2 ^ (128 - yG (10 ^ k.toNat)) := by unfold aiC; rw [aI, aN hl]
 rw [hE, hP, show (yG (10 ^ k.toNat) : Int) - 128 = -((128 - yG (10 ^ k.toNat) : Nat) : Int) by omega]
 rw [show 10 ^ k.toNat * 2 ^ (128 - yG (10 ^ k.toNat)) * m = m * 10 ^ k.toNat * 2 ^ (128 - yG (10 ^ k.toNat)) by rw [bL _ m, ← bJ]]
 rw [afG aA aA]
 congr 1; omega
theorem azA {k : Int} (hm : 0 < m) (hk : -2000 ≤ k) : apQ m k = akO m k := by
 unfold apQ akO
 split
 ·rfl
 rename_i hn
 have hbl := ajC (-k).toNat
 have ht := acL (-k).toNat
 have hb := aeE hm
 refine (bhL ht ?_ (by unfold avZ; omega) aA).symm
 have h1 := asJ hm
 have h2 := agD (10 ^ (-k).toNat)
 have h3 : 2 ^ 65 ≤ m * 2 ^ avZ m k / 10 ^ (-k).toNat := by
  rw [dJ ht]
  refine bE (bX _ (dS h2)) (bE ?_ (bC _ h1))
  rw [← bI, ← bI]
  exact aZ aC (by unfold avZ; omega)
 have := aaQ.2 h3
 omega
theorem acV (n : Nat) (e : Int) (more : Bool) : zX false n e more ≤ aoG := by
 unfold zX
 split
 ·exact Nat.zero_le _
 split
 ·exact Nat.le_of_eq (by unfold aaA; simp)
 rw [axD]
 have h := akU n e more
 unfold aaA pk
 rw [aL aC, bZ]
 split
 ·exact baI _ _ aC
 exact baI _ _ aA
end Go.Proofs.YtmmgbnolccpjoaaGreatDoor
