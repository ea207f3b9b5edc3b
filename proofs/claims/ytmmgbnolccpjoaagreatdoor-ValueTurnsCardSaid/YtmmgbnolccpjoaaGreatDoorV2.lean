import Derived.Test.YtmmgbnolccpjoaaGreatDoorV1
import Derived.Test.YtmmgbnolccpjoaaGreatDoorQ3
set_option maxHeartbeats 1000000
namespace Go.Proofs.YtmmgbnolccpjoaaGreatDoor
open Go.Proofs.Tryz
open Go Go.RowKit

variable {r x : Nat}
def cgU (p q : Nat) : Int := (([[4, 0, 3, 1], [0, 0, 3, 1], [2, 2, 4, 1], [1, 1, 1, 1]] : List (List Int)).getD p []).getD q 0
def bzL (na : Bool) (ma : Nat) (ea : Int) (nb : Bool) (mb : Nat) (eb : Int) : Nat :=
 let up := (min (ea - eb) 64).toNat
 let x := ma * 2 ^ up
 let e := ea - up
 let j := (e - eb).toNat
 let y := mb / 2 ^ j
 let more := decide (mb % 2 ^ j ≠ 0)
 if na = nb then zX na (x + y) e more
 else
  let z := if more = true then y + 1 else y
  if x < z then zX nb (z - x) e false else if x - z = 0 ∧ more = false then 0 else zX na (x - z) e more
def cbA (n r : Nat) : Prop := r * r ≤ n ∧ n < (r + 1) * (r + 1)
def bwN : Nat := 9221120237041090560
def cgY (a b : Nat) : Int := cgU (ajW (zV a)) (ajW (zV b))
def axS (a b : Nat) : Nat := if yU a < yU b then bzL (aoE b) (yX b) (yU b) (aoE a) (yX a) (yU a) else bzL (aoE a) (yX a) (yU a) (aoE b) (yX b) (yU b)
def aiV (a b : Nat) : Nat :=
 if cgY a b = 1 then bwN else if cgY a b = 2 then a else if cgY a b = 3 then b
 else if cgY a b = 4 then (if a = b then a else if zV a = 3 then bwN else 0)
 else axS a b
def acK (x : Nat) : Nat := yX x * 2 ^ (53 - yG (yX x))
def akC (x : Nat) : Int := yU x - ((53 - yG (yX x) : Nat) : Int)
def aeK (a b : Nat) : Prop := zV a = 4 ∨ zV b = 4 ∨ (zV a = 3 ∧ zV b = 3) ∨ (zV a = 0 ∧ zV b = 0)
instance (a b : Nat) : Decidable (aeK a b) := by unfold aeK; exact inferInstance
def arW (a b : Nat) : Nat :=
 if aeK a b then bwN
 else if zV a = 3 ∨ zV b = 0 then aaA (alW a b) + aoG
 else if zV a = 0 ∨ zV b = 3 then aaA (alW a b)
 else zX (alW a b) (acK a * 2 ^ 64 / acK b) (akC a - akC b - 64) (decide (acK a * 2 ^ 64 % acK b ≠ 0))
def aeJ (n : Nat) : Nat → Nat → Nat
 | 0, r => r
 | k + 1, r => if (r + 2 ^ k) * (r + 2 ^ k) ≤ n then aeJ n k (r + 2 ^ k) else aeJ n k r
theorem aqG {n : Nat} : ∀ (k r : Nat), r * r ≤ n → n < (r + 2 ^ k) * (r + 2 ^ k) → cbA n (aeJ n k r)
 | 0, r, h1, h2 => ⟨h1, by rw [dN] at h2; exact h2⟩
 | k + 1, r, h1, h2 => by
  have e : 2 ^ (k + 1) = 2 ^ k + 2 ^ k := by rw [bR]; omega
  rw [e] at h2
  rw [aeJ]
  split
  ·rename_i h
   exact aqG k _ h (by rw [eD]; exact h2)
  rename_i h
  exact aqG k r h1 aA
theorem bvR {n : Nat} (h : n < 2 ^ 128) : cbA n (aeJ n 64 0) := aqG 64 0 (Nat.zero_le _) (by rw [bZ, ← bI]; exact h)
def akL (x : Nat) : Nat := if (akC x - 74) % 2 ≠ 0 then 73 else 74
def akK (x : Nat) : Nat := acK x * 2 ^ akL x
def arT (a : Nat) : Nat :=
 if zV a = 4 ∨ 9223372036854775808 < a then bwN
 else if zV a = 0 ∨ zV a = 3 then a
 else zX false (aeJ (akK a) 64 0) ((akC a - akL a) / 2) (decide (aeJ (akK a) 64 0 * aeJ (akK a) 64 0 ≠ akK a))
def cfW : Nat := 4607182418800017408
def blB (a u L : Nat) : Nat → Nat
 | 0 => cfW
 | i + 1 => if u / 2 ^ (L - 1 - i) % 2 = 1 then aeQ (aeQ (blB a u L i) (blB a u L i)) a else aeQ (blB a u L i) (blB a u L i)
def bfI (a : Nat) (n : Int) : Nat :=
 if zV a = 4 then bwN else if n < 0 then arW cfW (blB a n.natAbs (yG n.natAbs) (yG n.natAbs)) else blB a n.natAbs (yG n.natAbs) (yG n.natAbs)
def alU (x : Nat) : Int := if 9223372036854775808 ≤ x then -(((if zV x = 4 then bwN else x % 9223372036854775808 : Nat) : Nat) : Int) else (x : Int)
def axW (a b : Nat) : Int := if zV a = 4 ∨ zV b = 4 then 0 else if alU a < alU b then -1 else if alU b < alU a then 1 else 0
def akD (x : Nat) : Int := axW x 0
def atD (x : Nat) : Nat := if zV x = 4 then bwN else if 9223372036854775808 ≤ x then x - 9223372036854775808 else x + 9223372036854775808
def toN (x : Nat) : Int × Int :=
 if 3 ≤ zV x then (0, 11)
 else
  let n := if yU x < 0 then yX x / 2 ^ (-yU x).toNat else yX x * 2 ^ (yU x).toNat
  if 0 ≤ yU x ∧ 11 < yU x then (0, 6)
  else if aoE x = true then (if n ≤ 9223372036854775808 then (-(n : Int), 0) else (0, 6)) else (if n < 9223372036854775808 then ((n : Int), 0) else (0, 6))
def isN (x : Nat) : Bool := decide (zV x < 3) && (decide (0 ≤ yU x) || decide (yX x % 2 ^ (-yU x).toNat = 0))
section
open Go Go.RowKit
set_option maxRecDepth 100000

theorem div2 {a b : Nat} (hb : 0 < b) (hb2 : b ≤ M1) : w2 (a / M1 / b) ((a / M1 % b * 18446744073709551616 + a % M1) / b) = u2 (a / b) ∧ (a / M1 % b * 18446744073709551616 + a % M1) % b = a % b := by
 obtain ⟨e1, e2⟩ := biT (B := M1) (Y := b) (a := a / M1) (u0 := a % M1) hb
 have e3 : a / M1 * M1 + a % M1 = a := by rw [bL]; exact cJ a M1
 rw [e3] at e1 e2
 have hlt : (a / M1 % b * M1 + a % M1) / b < M1 := by
  rw [bO hb]
  have h1 := bC M1 (Nat.succ_le_of_lt (bT (a / M1) hb))
  have h2 := afN a
  rw [Nat.succ_mul, bL b] at h1
  omega
 have e4 : M1 = 18446744073709551616 := rfl
 rw [← e4, e2, e1]
 refine ⟨?_, rfl⟩
 unfold u2
 generalize (a / M1 % b * M1 + a % M1) / b = z at *
 rw [eO (_ * M1), Nat.add_mul_div_right _ _ aC, Nat.add_mul_mod_self_right, cB hlt, bB hlt, bZ]


theorem bjM (a b : Nat) (ha : a < M2) (hb : 0 < b) (hb2 : b < 18446744073709551616) : Fn 121 [u2 a, .int .u64 (b : Int)] (.tuple [u2 (a / b), .int .u64 ((a % b : Nat) : Int), .int .i64 0]) := by
 intro H
 have ha1 := bmB ha
 have ha2 := afN a
 obtain ⟨e1, e2⟩ := div2 (a := a) hb (dS hb2)
 refine .of_body func121 rfl ntmps121 results121 rfl ?_
 iterate 3 refine AX ?_
 refine .al zr149 (fun b4 hb4 => ?_)
 refine AM ?_
 iterate 7 refine AX ?_
 iterate 3 refine AM ?_
 refine .cond_false (tm rfl) (by exact bD aA) ?_
 iterate 3 refine AX ?_
 refine .draw [(0, true), (1, true), (2, true), (3, true), (4, true), (5, true), (6, true), (7, true), (8, true), (9, true)] rfl aE ?_
 refine .p rfl rfl (zA U149 rfl Z22 (tm rfl)) ?_
 iterate 3 refine AX ?_
 refine .p rfl rfl (zA U149 rfl Z22 (tm rfl)) ?_
 iterate 2 refine AX ?_
 refine .p rfl rfl (abP (tm rfl) (tm rfl) aB) ?_
 iterate 7 refine AX ?_
 refine .p rfl (zA U149 rfl Z22 (tm rfl)) ?_
 iterate 2 refine AX ?_
 refine .cl rfl call183 (evs3 rfl rfl rfl) (bgN (a / M1 % b) (a % M1) b (bT _ hb) ha2 hb2 _) ?_
 iterate 11 refine AX ?_
 refine .p rfl (yB zr149 pl149 (.cons (tm rfl) (.inl rfl) (.cons (tm rfl) (.inl rfl) .nil)) rfl) ?_
 iterate 6 refine AX ?_
 refine .frz (t := 4) rfl (hb4) ?_
 iterate 2 refine AX ?_
 refine ⟨?_, rfl⟩
 rw [← e1, ← e2]
 rfl

theorem ccD {v i : Nat} (h : (r + 2 ^ i) * (r + 2 ^ i) ≤ v) : aeJ v (i + 1) r = aeJ v i (r + 2 ^ i) := by rw [aeJ, aN h]
theorem ccC {v i : Nat} (h : ¬ (r + 2 ^ i) * (r + 2 ^ i) ≤ v) : aeJ v (i + 1) r = aeJ v i r := by rw [aeJ, aL h]
theorem bxN (i : Nat) : 2 ^ (i + 1) / 2 = 2 ^ i := by rw [bR, fM _ aC]
theorem bvQ {i : Nat} (h : r % 2 ^ (i + 1) = 0) : r % 2 ^ i = 0 ∧ (r + 2 ^ i) % 2 ^ i = 0 := by
 obtain ⟨c, rfl⟩ := Nat.dvd_of_mod_eq_zero h
 have e : 2 ^ (i + 1) * c = 2 ^ i * (2 * c) := by rw [bR, bJ]
 rw [e]
 exact ⟨Nat.mul_mod_right _ _, by rw [gC]; exact Nat.mod_self _⟩
theorem bpN {i : Nat} (hi : i < 64) (h : r % 2 ^ (i + 1) = 0) (hr : r < M1) : r + 2 ^ i < 18446744073709551616 := by
 obtain ⟨c, rfl⟩ := Nat.dvd_of_mod_eq_zero h
 have e : M1 = 2 ^ (i + 1) * 2 ^ (63 - i) := by rw [afR, ← bI, show i + 1 + (63 - i) = 64 by omega]
 rw [e] at hr
 have h1 : c < 2 ^ (63 - i) := Nat.lt_of_mul_lt_mul_left hr
 have h2 := bX (2 ^ (i + 1)) (Nat.succ_le_of_lt h1)
 rw [← e, Nat.mul_succ] at h2
 have h3 : 2 ^ i < 2 ^ (i + 1) := dU aC (gH i)
 have h4 : M1 = 18446744073709551616 := rfl
 omega
theorem beK {i : Nat} (h : i ≤ 64) : 2 ^ i / 2 < 18446744073709551616 := by
 have : 2 ^ i ≤ 2 ^ 64 := aZ aC h
 have e : (2 : Nat) ^ 64 = 18446744073709551616 := by decide
 omega
theorem caX {a b : Nat} : ((if a = b then 0 else if a < b then -1 else 1 : Int) ≤ 0) ↔ a ≤ b := by
 split
 ·omega
 split <;> omega

def bpO (v : Nat) (H : Heap) : Nat → Env → Heap → Prop := fun k env H1 => ∃ i r : Nat, i ≤ 64 ∧ r % 2 ^ i = 0 ∧ r < M1 ∧ aeJ v i r = aeJ v 64 0 ∧ env = [(1, .iptr (u2 v).cells), (2, .int .u64 ((0 : Nat) : Int)), (3, .bool false), (4, .int .u64 (r : Int)), (5, .int .u64 ((2 ^ i / 2 : Nat) : Int))] ∧ H = H1 ∧ k = i

theorem wMulS (x : Nat) (hx : x < 18446744073709551616) (H : Heap) : ACall prog 193 [.int .u64 (x : Int), .int .u64 (x : Int)] H (fun z H' => z = u2 (x * x) ∧ H' = H) := wMul2 x x hx hx H

theorem bcS (v : Nat) (hv : v < M2) (H : Heap) : ACall prog 197 [u2 v] H (fun y H' => y = .tuple [.int .u64 ((aeJ v 64 0 : Nat) : Int), .bool (decide (aeJ v 64 0 * aeJ v 64 0 = v))] ∧ H' = H) := by
 refine ACall.of_body func197 rfl ntmps197 results197 rfl ?_
 iterate 19 refine AM ?_
 refine AWP.loopW (bpO v H) (64) ⟨64, 0, aT _, Nat.zero_mod _, by decide, rfl, rfl, rfl, rfl⟩ (zJ rfl (zJ rfl (zJ rfl (zJ rfl (zJ rfl yJ))))) (hRa _) ?_
 rintro _ _ _ ⟨i, r, hi, hm, hr, hroot, rfl, rfl, hk⟩
 have hpp := beK hi
 iterate 7 refine AM ?_
 refine AWP.cx rfl (fun hc8 => ?_) (fun hc8 => ?_)
 ·have hi0 : i ≠ 0 := by rintro rfl; exact absurd hc8 aC
  obtain ⟨j, rfl⟩ : ∃ j, i = j + 1 := ⟨i - 1, by omega⟩
  rw [bxN]
  have hor := cfS hm
  have hroom := bpN aA hm hr
  obtain ⟨hm1, hm2⟩ := bvQ hm
  have hpl : 2 ^ j < 18446744073709551616 := by omega
  iterate 8 refine AX ?_
  refine .p rfl (abD (tm rfl) (tm rfl) (hr) (hpl)) ?_
  iterate 4 refine AX ?_
  rw [hor]
  refine AWP.draw [(0, true), (1, true), (3, true), (2, false), (4, false), (5, true)] rfl aE ?_
  iterate 3 refine AX ?_
  refine .s rfl rfl (zB C193 (evs2 rfl rfl) (wMulS _ hroom _)) ?_
  rintro _ _ ⟨rfl, hH⟩
  obtain rfl := hH.symm
  refine .s rfl rfl (zB call251 (evs2 rfl rfl) (bjN ((r + 2 ^ j) * (r + 2 ^ j)) v _)) ?_
  rintro _ _ ⟨rfl, hH⟩
  obtain rfl := hH.symm
  iterate 3 refine AX ?_
  refine AWP.cx rfl (fun hc19 => ?_) (fun hc19 => ?_)
  ·have hle := caX.1 hc19
   have hst := ccD hle
   iterate 12 refine AM ?_
   refine Round.mk (J := bpO v H) ⟨j, r + 2 ^ j, by omega, hm2, hroom, by rw [← hst]; exact hroot, rfl, rfl, rfl⟩ (zJ rfl (zJ rfl (zJ rfl (zJ rfl (zN rfl (by rw [gF]) yJ))))) (hRa _) aA
  have hle : ¬ (r + 2 ^ j) * (r + 2 ^ j) ≤ v := fun h => by have := caX.2 h; omega
  have hst := ccC hle
  iterate 9 refine AM ?_
  refine Round.mk (J := bpO v H) ⟨j, r, by omega, hm1, hr, by rw [← hst]; exact hroot, rfl, rfl, rfl⟩ (zJ rfl (zJ rfl (zJ rfl (zJ rfl (zN rfl (by rw [gF]) yJ))))) (hRa _) aA
 have hi0 : i = 0 := by
  rcases bF i with h | h
  ·exact h
  have h2 : 2 ≤ 2 ^ i := bE aC (aZ aC h)
  omega
 subst hi0
 have hr64 : r < 18446744073709551616 := hr
 have hrr : aeJ v 64 0 = r := by rw [← hroot]; rfl
 iterate 6 refine AX ?_
 refine AWP.draw [(0, true), (1, true), (2, true), (4, true), (3, false), (5, true), (6, true), (7, true)] rfl aE ?_
 iterate 4 refine AX ?_
 refine .s rfl rfl (zB C193 (evs2 rfl rfl) (wMulS _ hr64 _)) ?_
 rintro _ _ ⟨rfl, hH⟩
 obtain rfl := hH.symm
 refine .p rfl rfl (qI eqGuardType149 (tm rfl) (tm rfl) (eq2 _ _ _ _)) ?_
 iterate 6 refine AX ?_
 refine ⟨?_, rfl⟩
 rw [hrr]
 simp only [yE]
 congr 3
 exact congrArg AV.bool (aY.2 bfR)

end
theorem cbQ (na : Bool) (ma : Nat) (ea : Int) (nb : Bool) (mb : Nat) (eb : Int) : bzL na ma ea nb mb eb < 18446744073709551616 := by
 unfold bzL
 simp only
 generalize (if decide (mb % 2 ^ _ ≠ 0) = true then _ else _ : Nat) = z
 split
 ·exact aeB _ _ _ _
 split
 ·exact aeB _ _ _ _
 split
 ·decide
 exact aeB _ _ _ _
theorem cdS (a b : Nat) : axS a b < 18446744073709551616 := by
 unfold axS; split <;> exact cbQ _ _ _ _ _ _
theorem bsR {a b : Nat} (ha : a < 18446744073709551616) (hb : b < 18446744073709551616) : aiV a b < 18446744073709551616 := by
 unfold aiV
 split
 ·decide
 split
 ·exact ha
 split
 ·exact hb
 split
 ·split
  ·exact ha
  split <;> decide
 exact cdS a b
theorem bgX (neg : Bool) : aaA neg + aoG < 18446744073709551616 ∧ aaA neg < 18446744073709551616 := by cases neg <;> decide
theorem bfK (a b : Nat) : arW a b < 18446744073709551616 := by
 unfold arW
 split
 ·decide
 split
 ·exact (bgX _).1
 split
 ·exact (bgX _).2
 exact aeB _ _ _ _
theorem bxQ {a : Nat} (ha : a < 18446744073709551616) : arT a < 18446744073709551616 := by
 unfold arT
 split
 ·decide
 split
 ·exact ha
 exact aeB _ _ _ _
theorem beM (a u L : Nat) : ∀ i, blB a u L i < 18446744073709551616
 | 0 => show (4607182418800017408 : Nat) < 18446744073709551616 by decide
 | i + 1 => by
  unfold blB
  split <;> exact apC _ _
theorem cdT (a : Nat) (n : Int) : bfI a n < 18446744073709551616 := by
 unfold bfI
 split
 ·decide
 split
 ·exact bfK _ _
 exact beM _ _ _ _
theorem bfJ {a : Nat} (ha : a < 18446744073709551616) : atD a < 18446744073709551616 := by
 unfold atD
 split
 ·decide
 split <;> omega
section
open Go Go.RowKit
set_option maxRecDepth 100000

theorem byZ {p q : Nat} (hp : p < 4) (hq : q < 4) : ((([.int .i64 4, .int .i64 0, .int .i64 3, .int .i64 1, .int .i64 0, .int .i64 0, .int .i64 3, .int .i64 1, .int .i64 2, .int .i64 2, .int .i64 4, .int .i64 1, .int .i64 1, .int .i64 1, .int .i64 1, .int .i64 1] : List AV).drop (((p : Nat) : Int).toNat * 4)).drop (((q : Nat) : Int).toNat * 1))[0]? = some (.int .i64 (cgU p q)) := by
 rcases (by omega : p = 0 ∨ p = 1 ∨ p = 2 ∨ p = 3) with rfl | rfl | rfl | rfl <;> rcases (by omega : q = 0 ∨ q = 1 ∨ q = 2 ∨ q = 3) with rfl | rfl | rfl | rfl <;> rfl
def ayU (y : Nat) (more : Bool) : Nat := if more = true then y + 1 else y
def ceZ (na nb : Bool) (x y : Nat) (e : Int) (more : Bool) : Nat :=
 if na = nb then zX na (x + y) e more
 else if x < ayU y more then zX nb (ayU y more - x) e false else if x - ayU y more = 0 ∧ more = false then 0 else zX na (x - ayU y more) e more
theorem cbR {na nb : Bool} {ma mb : Nat} {ea eb : Int} {up j : Nat} (hup : up = (min (ea - eb) 64).toNat) (hj : j = (ea - up - eb).toNat) : bzL na ma ea nb mb eb = ceZ na nb (ma * 2 ^ up) (mb / 2 ^ j) (ea - up) (decide (mb % 2 ^ j ≠ 0)) := by
 subst hup; subst hj; rfl
theorem bvJ {m n : Nat} (hm : m < 9007199254740992) (hn : n ≤ 64) : m * 2 ^ n < 166153499473114484112975882535043072 := by
 have h1 : 2 ^ n ≤ 2 ^ 64 := aZ aC hn
 have h2 : m * 2 ^ n ≤ 9007199254740991 * 2 ^ 64 := eE aA h1
 exact aV h2 aC
theorem adO : M2 = 340282366920938463463374607431768211456 := rfl
theorem wShlU (v : Nat) (n : Nat) (hn : n < 128) (q : Int) (hq : q = (n : Int)) : Fn 187 [u2 v, .int .i64 q] (u2 (v * 2 ^ n % M2)) := by
 intro H
 by_cases h : n < 64
 ·exact agO v n h q hq H
 exact bcR v n ⟨by omega, hn⟩ q hq H
theorem avW {a b : Nat} (ha : a < M2) (h : b ≤ a) : (a + M2 - b) % M2 = a - b := by unfold M2 at *; omega
theorem bgS {z : Nat} (hx : x < M2) (h : ¬ x < z) : (decide (((((x + M2 - z) % M2 / M1 : Nat)) : Int) = 0 ∧ ((((x + M2 - z) % M2 % M1 : Nat)) : Int) = 0)) = decide (x - z = 0) := by
 rw [avW hx aA]
 refine aY.2 ?_
 unfold M1; omega

theorem bnJ (a b : Nat) (ha : a < 18446744073709551616) (hb : b < 18446744073709551616) : Fn 190 [.int .u64 (a : Int), .int .u64 (b : Int)] (.int .i64 (cgY a b)) := by
 intro H
 have hka := aoX (zV a)
 have hkb := aoX (zV b)
 refine .of_body func190 rfl ntmps190 results190 rfl ?_
 iterate 7 refine AX ?_
 refine .p rfl (adK U251 Z3 zr251 (.cons zH (.inl rfl) (.cons zH (.inl rfl) (.cons zH (.inl rfl) (.cons zH (.inl rfl) .nil)))) rfl) (.p rfl (adK U251 Z3 zr251 (.cons zH (.inl rfl) (.cons zH (.inl rfl) (.cons zH (.inl rfl) (.cons zH (.inl rfl) .nil)))) rfl) (.p rfl (adK U251 Z3 zr251 (.cons zH (.inl rfl) (.cons zH (.inl rfl) (.cons zH (.inl rfl) (.cons zH (.inl rfl) .nil)))) rfl) (.p rfl (adK U251 Z3 zr251 (.cons zH (.inl rfl) (.cons zH (.inl rfl) (.cons zH (.inl rfl) (.cons zH (.inl rfl) .nil)))) rfl) (.p rfl (adK U252 Z251 zr252 (.cons (tm rfl) (.inr ⟨_, rfl⟩) (.cons (tm rfl) (.inr ⟨_, rfl⟩) (.cons (tm rfl) (.inr ⟨_, rfl⟩) (.cons (tm rfl) (.inr ⟨_, rfl⟩) .nil)))) rfl) ?_))))
 refine .al zr252 (fun b5 hb5 => ?_)
 iterate 3 refine AX ?_
 refine .frz (t := 5) rfl (hb5) ?_
 refine AX ?_
 refine .draw [(0, true), (1, true), (2, true), (3, true), (4, true), (5, true), (6, true), (7, true)] rfl aE ?_
 refine AX ?_
 refine .f rfl rfl (fun _ => zB C242 (evs1 rfl) (ahX _ aB _)) ?_
 refine AX ?_
 refine .f rfl rfl (fun _ => zB C242 (evs1 rfl) (ahX _ aB _)) ?_
 iterate 2 refine AX ?_
 refine .p rfl rfl (auL G3 (tm rfl) (byZ hka hkb)) ?_
 iterate 5 refine AX ?_
 exact ⟨rfl, rfl⟩

theorem boQ (a b : Nat) (ha : a < 18446744073709551616) (hb : b < 18446744073709551616) : Fn 191 [.int .u64 (a : Int), .int .u64 (b : Int)] (.int .u64 ((axS a b : Nat) : Int)) := by
 intro H
 have hpa := aaM a
 have hpb := aaM b
 have hma := acG a
 have hmb := acG b
 refine .of_body func191 rfl ntmps191 results191 rfl ?_
 iterate 8 refine AM ?_
 refine .cl rfl C181 (evs1 rfl) (acA a ha _) ?_
 iterate 12 refine AX ?_
 refine .cl rfl C181 (evs1 rfl) (acA b hb _) ?_
 iterate 9 refine AX ?_
 refine .meet (fun env H2 => ∃ (na nb : Bool) (ma mb : Nat) (ea eb : Int), eb ≤ ea ∧ ma < 9007199254740992 ∧ mb < 9007199254740992 ∧ (-1075 ≤ eb ∧ ea ≤ 972) ∧ bzL na ma ea nb mb eb = axS a b ∧ env = [(4, .int .u64 ((0 : Nat) : Int)), (5, .bool na), (6, .int .u64 (ma : Int)), (7, .int .i64 ea), (8, .bool nb), (9, .int .u64 (mb : Int)), (10, .int .i64 eb)] ∧ H = H2) ?_ ?_
 ·iterate 7 refine AX ?_
  refine .cx rfl (fun hc34 => ?_) (fun hc34 => ?_)
  ·iterate 15 refine AX ?_
   refine .mk ⟨_, _, _, _, _, _, by omega, by omega, by omega, by omega, by unfold axS; rw [aJ], rfl, rfl⟩ (zJ rfl (zJ rfl (zJ rfl (zJ rfl (zJ rfl (zJ rfl (zJ rfl yJ))))))) (hRa _)
  iterate 2 refine AX ?_
  refine .mk ⟨_, _, _, _, _, _, by omega, by omega, by omega, by omega, by unfold axS; rw [aI], rfl, rfl⟩ (zJ rfl (zJ rfl (zJ rfl (zJ rfl (zJ rfl (zJ rfl (zJ rfl yJ))))))) (hRa _)
 rintro _ _ ⟨na, nb, ma, mb, ea, eb, hle, hm1, hm2, hr, hsum, rfl, rfl⟩
 obtain ⟨up, hup⟩ : ∃ up : Nat, up = (min (ea - eb) 64).toNat := ⟨_, rfl⟩
 obtain ⟨j, hj⟩ : ∃ j : Nat, j = (ea - up - eb).toNat := ⟨_, rfl⟩
 have hup64 : up ≤ 64 := by omega
 have hroom := bvJ hm1 hup64
 have hyl : mb / 2 ^ j ≤ mb := dF _ _
 rw [← hsum, cbR hup hj]
 iterate 10 refine AX ?_
 rw [show bnU (ea - eb) 64 = ((up : Nat) : Int) by simp only [bnU]; split <;> omega]
 iterate 2 refine AX ?_
 refine .p rfl (yB zr149 pl149 (.cons (tm rfl) (.inl rfl) .nil) rfl) ?_
 refine AX ?_
 refine .cl rfl C187 (evs2 rfl rfl) ((by have h := fun H => wShlU ma up aA _ rfl H; rw [alC (by (unfold M1; omega))] at h; exact h _)) ?_
 rw [bB (show ma * 2 ^ up < M2 by rw [adO]; omega)]
 iterate 3 refine AX ?_
 refine .al zr149 (fun b12 hb12 => ?_)
 iterate 4 refine AX ?_
 refine .frz (t := 12) rfl (hb12) ?_
 iterate 3 refine AX ?_
 refine .p rfl (yB zr149 pl149 (.cons (tm rfl) (.inl rfl) .nil) rfl) ?_
 iterate 3 refine AX ?_
 refine .cl rfl call188 (evs2 rfl rfl) ((by have h := fun H => amP mb (by rw [adO]; omega) j aA (ea - up - eb) aA H; rw [alC (by (unfold M1; omega))] at h; exact h _)) ?_
 iterate 3 refine AX ?_
 refine .al zr149 (fun b14 hb14 => ?_)
 iterate 6 refine AX ?_
 obtain ⟨x, hx⟩ : ∃ x, x = ma * 2 ^ up := ⟨_, rfl⟩
 obtain ⟨y, hy⟩ : ∃ y, y = mb / 2 ^ j := ⟨_, rfl⟩
 obtain ⟨e, he⟩ : ∃ e : Int, e = ea - up := ⟨_, rfl⟩
 generalize hmo : decide (mb % 2 ^ j ≠ 0) = more
 rw [← hx, ← hy, ← he]
 rw [← hx] at hroom
 rw [← hy] at hyl
 iterate 3 refine AX ?_
 refine .p rfl (baB U4 (tm rfl) (tm rfl)) ?_
 iterate 2 refine AX ?_
 refine .cx rfl (fun hc63 => ?_) (fun hc63 => ?_)
 ·iterate 4 refine AX ?_
  refine .cl rfl call243 (evs2 rfl rfl) (amR x y (by rw [adO]; omega) (by rw [adO]; omega) _) ?_
  rw [bB (show x + y < M2 by rw [adO]; omega)]
  iterate 3 refine AX ?_
  refine .al zr149 (fun b16 hb16 => ?_)
  have hn14_16 := Heap.ne_of (oS _ _ _) hb16
  iterate 4 refine AX ?_
  refine .frz (t := 16) rfl (hb16) ?_
  iterate 6 refine AX ?_
  refine .cl rfl C122 (.cons (tm rfl) (evs3 rfl rfl rfl)) (adE na (x + y) (by rw [adO]; omega) e aA more _) ?_
  iterate 3 refine AX ?_
  refine .dropb (hb14) ?_
  iterate 3 refine AX ?_
  refine ⟨?_, rfl⟩
  unfold ceZ
  rw [aN (by simpa using hc63)]; rfl
 iterate 2 refine AX ?_
 refine .meet (fun env H2 => env = [(4, .int .u64 ((0 : Nat) : Int)), (5, .bool na), (8, .bool nb), (12, .iptr (u2 x).cells), (13, .int .i64 e), (14, .ptr (some ⟨b14, 0, none⟩)), (15, .bool more)] ∧ H2 = H.set b14 (.box 149 (u2 (ayU y more)).cells)) ?_ ?_
 ·iterate 5 refine AX ?_
  refine .cx rfl (fun hc75 => ?_) (fun hc75 => ?_)
  ·iterate 2 refine AX ?_
   refine .p rfl (yB zr149 pl149 (.cons (zI 1) (.inl rfl) .nil) rfl) ?_
   refine .cl rfl call243 (evs2 rfl rfl) ((by have h := fun H => amR y 1 (by rw [adO]; omega) aE H; rw [alC (show 1 < M1 by decide)] at h; exact h _)) ?_
   rw [bB (show y + 1 < M2 by rw [adO]; omega)]
   iterate 6 refine AX ?_
   refine .mk ⟨rfl, by rw [show ayU y more = y + 1 from aN hc75]; rfl⟩ (zJ rfl (zJ rfl (zJ rfl (zJ rfl (zJ rfl (zJ rfl (zJ rfl yJ))))))) (hRa _)
  iterate 2 refine AX ?_
  refine .mk ⟨rfl, by rw [show ayU y more = y from aL (by rw [hc75]; decide)]; rfl⟩ (zJ rfl (zJ rfl (zJ rfl (zJ rfl (zJ rfl (zJ rfl (zJ rfl yJ))))))) (hRa _)
 rintro _ _ ⟨rfl, rfl⟩
 have hty : ayU y more ≤ y + 1 := by unfold ayU; split <;> omega
 iterate 4 refine AX ?_
 refine .cl rfl call244 (evs2 rfl rfl) (atJ x (ayU y more) (by rw [adO]; omega) (by rw [adO]; omega) _) ?_
 iterate 3 refine AX ?_
 refine .al zr149 (fun b18 hb18 => ?_)
 have hn14_18 := Heap.ne_of (oS _ _ _) hb18
 iterate 11 refine AX ?_
 refine .cx rfl (fun hc93 => ?_) (fun hc93 => ?_)
 ·iterate 4 refine AX ?_
  refine .cl rfl call244 (evs2 rfl rfl) (atJ (ayU y more) x (by rw [adO]; omega) (by rw [adO]; omega) _) ?_
  rw [avW (by rw [adO]; omega) aA]
  iterate 11 refine AX ?_
  refine .cl rfl C122 (.cons (tm rfl) (.cons (tm rfl) (.cons (tm rfl) (.cons yH .nil)))) (adE nb (ayU y more - x) (by rw [adO]; omega) e aA false _) ?_
  iterate 3 refine AX ?_
  refine .dropb (hb18) ?_
  refine .dropb (hb14) ?_
  iterate 3 refine AX ?_
  refine ⟨?_, rfl⟩
  unfold ceZ
  rw [aL (by simpa using hc63), aN (by simpa using hc93)]; rfl
 have hxz : ¬ x < ayU y more := by simpa using hc93
 refine .seqTo 105 (.bool (decide (x - ayU y more = 0) && !more)) [4, 5, 13, 15, 18] ?_ ?_
 ·-- region 18
  iterate 2 refine AX ?_
  refine .p rfl (yB zr149 pl149 .nil rfl) ?_
  refine .p rfl (qI eqGuardType149 (tm rfl) (tm rfl) (eq2 _ _ _ _)) ?_
  refine AX ?_
  refine zD (t := 109) rfl (fun hg109 => ?_) (fun hg109 => ?_)
  ·have hh109 := hg109; try simp only [aO] at hh109
   iterate 5 refine AX ?_
   exact ⟨rfl, zO rfl (by (rw [← bgS (by rw [adO]; omega) hxz, hg109]; rfl)) (zJ rfl (zJ rfl (zJ rfl (zJ rfl (zJ rfl yJ))))), rfl⟩
  have hh109 := hg109; try simp only [aM] at hh109
  iterate 5 refine AX ?_
  exact ⟨rfl, zO rfl (by (rw [← bgS (by rw [adO]; omega) hxz, hg109]; rfl)) (zJ rfl (zJ rfl (zJ rfl (zJ rfl (zJ rfl yJ))))), rfl⟩
 refine .sub [(105, _), (4, _), (5, _), (13, _), (15, _), (18, _)] (zJ rfl (zJ rfl (zJ rfl (zJ rfl (zJ rfl (zJ rfl yJ)))))) ?_
 refine .cx rfl (fun hc105 => ?_) (fun hc105 => ?_)
 ·iterate 5 refine AM ?_
  refine .dropb (hb18) ?_
  refine .dropb (hb14) ?_
  iterate 3 refine AX ?_
  refine ⟨?_, rfl⟩
  unfold ceZ
  rw [aL (by simpa using hc63), aL hxz, aN (by simpa using hc105)]; rfl
 refine AX ?_
 rw [avW (by rw [adO]; omega) aA]
 iterate 5 refine AX ?_
 refine .cl rfl C122 (.cons (tm rfl) (evs3 rfl rfl rfl)) (adE na (x - ayU y more) (by rw [adO]; omega) e aA more _) ?_
 iterate 3 refine AX ?_
 refine .dropb (hb18) ?_
 refine .dropb (hb14) ?_
 iterate 3 refine AX ?_
 refine ⟨?_, rfl⟩
 unfold ceZ
 rw [aL (by simpa using hc63), aL hxz, aL (by simpa using hc105)]; rfl

theorem avH (a b : Nat) (ha : a < 18446744073709551616) (hb : b < 18446744073709551616) : Fn 131 [.int .u64 (a : Int), .int .u64 (b : Int)] (.int .u64 ((aiV a b : Nat) : Int)) := by
 intro H
 refine .of_body func131 rfl ntmps131 results131 rfl ?_
 iterate 10 refine AM ?_
 refine .cl rfl call190 (evs2 rfl rfl) (bnJ a b ha hb _) ?_
 iterate 9 refine AX ?_
 refine .cx rfl (fun hc8 => ?_) (fun hc8 => ?_)
 ·iterate 9 refine AM ?_
  refine ⟨?_, rfl⟩
  unfold aiV
  rw [aN aB]
  rfl
 iterate 6 refine AX ?_
 refine .cx rfl (fun hc10 => ?_) (fun hc10 => ?_)
 ·iterate 10 refine AX ?_
  refine ⟨?_, rfl⟩
  unfold aiV
  rw [aL aB, aN aB]
  rfl
 iterate 6 refine AX ?_
 refine .cx rfl (fun hc13 => ?_) (fun hc13 => ?_)
 ·iterate 10 refine AX ?_
  refine ⟨?_, rfl⟩
  unfold aiV
  rw [aL aB, aL aB, aN aB]
  rfl
 iterate 6 refine AX ?_
 refine .cx rfl (fun hc16 => ?_) (fun hc16 => ?_)
 ·iterate 10 refine AX ?_
  refine .cx rfl (fun hc18 => ?_) (fun hc18 => ?_)
  ·iterate 12 refine AX ?_
   refine ⟨?_, rfl⟩
   unfold aiV
   rw [aL aB, aL aB, aL aB, aN aB, aJ]
   rfl
  iterate 3 refine AX ?_
  refine .cl rfl C89 (evs1 rfl) (qU _ aB _) ?_
  iterate 4 refine AX ?_
  refine .cx rfl (fun hc23 => ?_) (fun hc23 => ?_)
  ·iterate 11 refine AM ?_
   refine ⟨?_, rfl⟩
   unfold aiV
   rw [aL aB, aL aB, aL aB, aN aB, aI, aJ]
   rfl
  iterate 12 refine AM ?_
  refine ⟨?_, rfl⟩
  unfold aiV
  rw [aL aB, aL aB, aL aB, aN aB, aI, aI]
  rfl
 iterate 7 refine AX ?_
 refine .cl rfl call191 (evs2 rfl rfl) (boQ a b ha hb _) ?_
 iterate 5 refine AX ?_
 refine ⟨?_, rfl⟩
 unfold aiV
 rw [aL aB, aL aB, aL aB, aL aB]
 rfl

theorem ayN (h : x < 2 ^ 63) : x ^^^ 2 ^ 63 = 2 ^ 63 + x := by
 apply Nat.eq_of_testBit_eq
 intro i
 rw [Nat.testBit_xor, Nat.testBit_two_pow]
 rcases Nat.lt_trichotomy i 63 with hi | rfl | hi
 ·rw [Nat.testBit_two_pow_add_gt hi, bD aA, Bool.xor_false]
 ·rw [Nat.testBit_two_pow_add_eq, bG rfl, Bool.xor_true]
 have h2 : 2 ^ 63 + x < 2 ^ i := by
  have : 2 ^ 64 ≤ 2 ^ i := aZ aC hi
  have e : (2 : Nat) ^ 64 = 2 ^ 63 + 2 ^ 63 := by decide
  omega
 rw [Nat.testBit_lt_two_pow h2, Nat.testBit_lt_two_pow (show x < 2 ^ i by omega), bD aA]; rfl
theorem buP (h : x < 18446744073709551616) : x ^^^ 9223372036854775808 = if 9223372036854775808 ≤ x then x - 9223372036854775808 else x + 9223372036854775808 := by
 have e : (9223372036854775808 : Nat) = 2 ^ 63 := by decide
 split
 ·rename_i q
  obtain ⟨y, rfl⟩ : ∃ y, x = 9223372036854775808 + y := ⟨x - 9223372036854775808, by omega⟩
  have hy : y < 2 ^ 63 := by rw [← e]; omega
  rw [fF, e, ← ayN hy, Nat.xor_assoc, Nat.xor_self, Nat.xor_zero]
 rename_i q
 rw [e, ayN (by rw [← e]; omega), eO]
theorem byT {a : Nat} (h : a < 18446744073709551616) : a - (a &&& 9223372036854775808) = a % 9223372036854775808 := by
 have e : a &&& 9223372036854775808 = if a.testBit 63 then 9223372036854775808 else 0 := by
  apply Nat.eq_of_testBit_eq
  intro i
  rw [Nat.testBit_and, show (9223372036854775808 : Nat) = 2 ^ 63 by decide, Nat.testBit_two_pow]
  by_cases hi : 63 = i
  ·subst hi
   cases a.testBit 63
   ·simp
   simp only [decide_true, Bool.and_self, if_true]; rw [Nat.testBit_two_pow]; simp
  cases a.testBit 63
  ·simp [hi]
  simp only [hi, decide_false, Bool.and_false, if_true]; rw [Nat.testBit_two_pow]; simp [hi]
 rw [e, Nat.testBit_eq_decide_div_mod_eq]
 have h2 : (2 : Nat) ^ 63 = 9223372036854775808 := by decide
 rw [h2]
 split <;> simp_all <;> omega
def ceV (x : Nat) : Nat := if zV x = 4 then bwN else x % 9223372036854775808
theorem avF (a : Nat) (ha : a < 18446744073709551616) : Fn 56 [.int .u64 (a : Int)] (.int .u64 ((atD a : Nat) : Int)) := by
 intro H
 refine .of_body func56 rfl ntmps56 results56 rfl ?_
 iterate 9 refine AM ?_
 refine .cl rfl C89 (evs1 rfl) (qU _ aB _) ?_
 iterate 3 refine AX ?_
 refine .cx rfl (fun hc5 => ?_) (fun hc5 => ?_)
 ·iterate 8 refine AM ?_
  refine ⟨?_, rfl⟩
  unfold atD
  rw [aJ]
  rfl
 iterate 5 refine AX ?_
 refine .p rfl (bkT (tm rfl) (zI 9223372036854775808) aB aA) ?_
 iterate 5 refine AX ?_
 refine ⟨?_, rfl⟩
 unfold atD
 rw [aI, ← buP ha]
 rfl

theorem bmM (a : Nat) (ha : a < 18446744073709551616) : Fn 228 [.int .u64 (a : Int)] (.int .u64 ((ceV a : Nat) : Int)) := by
 intro H
 refine .of_body func228 rfl ntmps228 results228 rfl ?_
 iterate 9 refine AM ?_
 refine .cl rfl C89 (evs1 rfl) (qU _ aB _) ?_
 iterate 3 refine AX ?_
 refine .cx rfl (fun hc5 => ?_) (fun hc5 => ?_)
 ·iterate 8 refine AM ?_
  refine ⟨?_, rfl⟩
  unfold ceV
  rw [aJ]
  rfl
 iterate 5 refine AX ?_
 refine .p rfl (awZ (tm rfl) (zI 9223372036854775808) aB aA) ?_
 iterate 5 refine AX ?_
 refine ⟨?_, rfl⟩
 unfold ceV
 rw [aI, ← byT ha]
 rfl

end
end Go.Proofs.YtmmgbnolccpjoaaGreatDoor
