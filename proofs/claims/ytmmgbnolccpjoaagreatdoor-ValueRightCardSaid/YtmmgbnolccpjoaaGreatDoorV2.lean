import Derived.Test.YtmmgbnolccpjoaaGreatDoorYd
import Derived.Test.YtmmgbnolccpjoaaGreatDoorP2
import Derived.Test.YtmmgbnolccpjoaaGreatDoorX1
import Derived.Test.YtmmgbnolccpjoaaGreatDoorQ2
import Derived.Test.YtmmgbnolccpjoaaGreatDoorSsk
import Derived.Test.YtmmgbnolccpjoaaGreatDoorV1
import Derived.Test.YtmmgbnolccpjoaaGreatDoorQ3
namespace Go.Proofs.YtmmgbnolccpjoaaGreatDoor
open Go Go.RowKit

def addsT (p q : Nat) : Int := (([[4, 0, 3, 1], [0, 0, 3, 1], [2, 2, 4, 1], [1, 1, 1, 1]] : List (List Int)).getD p []).getD q 0
def sumP (na : Bool) (ma : Nat) (ea : Int) (nb : Bool) (mb : Nat) (eb : Int) : Nat :=
 let up := (min (ea - eb) 64).toNat
 let x := ma * 2 ^ up
 let e := ea - up
 let j := (e - eb).toNat
 let y := mb / 2 ^ j
 let more := decide (mb % 2 ^ j ≠ 0)
 if na = nb then yG na (x + y) e more
 else
  let z := if more = true then y + 1 else y
  if x < z then yG nb (z - x) e false else if x - z = 0 ∧ more = false then 0 else yG na (x - z) e more
def IsRoot (n r : Nat) : Prop := r * r ≤ n ∧ n < (r + 1) * (r + 1)
def nanN : Nat := 9221120237041090560
def addK (a b : Nat) : Int := addsT (afX (zY a)) (afX (zY b))
def aqA (a b : Nat) : Nat := if yM a < yM b then sumP (ajD b) (yS b) (yM b) (ajD a) (yS a) (yM a) else sumP (ajD a) (yS a) (yM a) (ajD b) (yS b) (yM b)
def afJ (a b : Nat) : Nat :=
 if addK a b = 1 then nanN else if addK a b = 2 then a else if addK a b = 3 then b
 else if addK a b = 4 then (if a = b then a else if zY a = 3 then nanN else 0)
 else aqA a b
def aaX (x : Nat) : Nat := yS x * 2 ^ (53 - yE (yS x))
def agB (x : Nat) : Int := yM x - ((53 - yE (yS x) : Nat) : Int)
def acK (a b : Nat) : Prop := zY a = 4 ∨ zY b = 4 ∨ (zY a = 3 ∧ zY b = 3) ∨ (zY a = 0 ∧ zY b = 0)
instance (a b : Nat) : Decidable (acK a b) := by unfold acK; exact inferInstance
def amA (a b : Nat) : Nat :=
 if acK a b then nanN
 else if zY a = 3 ∨ zY b = 0 then abF (ajL a b) + alR
 else if zY a = 0 ∨ zY b = 3 then abF (ajL a b)
 else yG (ajL a b) (aaX a * 2 ^ 64 / aaX b) (agB a - agB b - 64) (decide (aaX a * 2 ^ 64 % aaX b ≠ 0))
def acJ (n : Nat) : Nat → Nat → Nat
 | 0, r => r
 | k + 1, r => if (r + 2 ^ k) * (r + 2 ^ k) ≤ n then acJ n k (r + 2 ^ k) else acJ n k r
theorem akR {n : Nat} : ∀ (k r : Nat), r * r ≤ n → n < (r + 2 ^ k) * (r + 2 ^ k) → IsRoot n (acJ n k r)
 | 0, r, h1, h2 => ⟨h1, by rw [Nat.pow_zero] at h2; exact h2⟩
 | k + 1, r, h1, h2 => by
  have e : 2 ^ (k + 1) = 2 ^ k + 2 ^ k := by rw [Nat.pow_succ]; omega
  rw [e] at h2
  rw [acJ]
  split
  ·rename_i h
   exact akR k _ h (by rw [Nat.add_assoc]; exact h2)
  ·rename_i h
   exact akR k r h1 (by omega)
theorem rootS_64 {n : Nat} (h : n < 2 ^ 128) : IsRoot n (acJ n 64 0) := akR 64 0 (Nat.zero_le _) (by rw [Nat.zero_add, ← Nat.pow_add]; exact h)
def agH (x : Nat) : Nat := if (agB x - 74) % 2 ≠ 0 then 73 else 74
def agG (x : Nat) : Nat := aaX x * 2 ^ agH x
def alT (a : Nat) : Nat :=
 if zY a = 4 ∨ 9223372036854775808 < a then nanN
 else if zY a = 0 ∨ zY a = 3 then a
 else yG false (acJ (agG a) 64 0) ((agB a - agH a) / 2) (decide (acJ (agG a) 64 0 * acJ (agG a) 64 0 ≠ agG a))
def oneN : Nat := 4607182418800017408
def azX (a u L : Nat) : Nat → Nat
 | 0 => oneN
 | i + 1 => if u / 2 ^ (L - 1 - i) % 2 = 1 then adH (adH (azX a u L i) (azX a u L i)) a else adH (azX a u L i) (azX a u L i)
def avU (a : Nat) (n : Int) : Nat :=
 if zY a = 4 then nanN else if n < 0 then amA oneN (azX a n.natAbs (yE n.natAbs) (yE n.natAbs)) else azX a n.natAbs (yE n.natAbs) (yE n.natAbs)
def alK (x : Nat) : Int := if 9223372036854775808 ≤ x then -(((if zY x = 4 then nanN else x % 9223372036854775808 : Nat) : Nat) : Int) else (x : Int)
def avV (a b : Nat) : Int := if zY a = 4 ∨ zY b = 4 then 0 else if alK a < alK b then -1 else if alK b < alK a then 1 else 0
def alU (x : Nat) : Int := avV x 0
def amV (x : Nat) : Nat := if zY x = 4 then nanN else if 9223372036854775808 ≤ x then x - 9223372036854775808 else x + 9223372036854775808
def toN (x : Nat) : Int × Int :=
 if 3 ≤ zY x then (0, 11)
 else
  let n := if yM x < 0 then yS x / 2 ^ (-yM x).toNat else yS x * 2 ^ (yM x).toNat
  if 0 ≤ yM x ∧ 11 < yM x then (0, 6)
  else if ajD x = true then (if n ≤ 9223372036854775808 then (-(n : Int), 0) else (0, 6)) else (if n < 9223372036854775808 then ((n : Int), 0) else (0, 6))
def isN (x : Nat) : Bool := decide (zY x < 3) && (decide (0 ≤ yM x) || decide (yS x % 2 ^ (-yM x).toNat = 0))
theorem div2 {a b : Nat} (hb : 0 < b) (hb2 : b ≤ M1) : w2 (a / M1 / b) ((a / M1 % b * 18446744073709551616 + a % M1) / b) = u2 (a / b) ∧ (a / M1 % b * 18446744073709551616 + a % M1) % b = a % b := by
 obtain ⟨e1, e2⟩ := ayC (B := M1) (Y := b) (a := a / M1) (u0 := a % M1) hb
 have e3 : a / M1 * M1 + a % M1 = a := by rw [Nat.mul_comm]; exact Nat.div_add_mod a M1
 rw [e3] at e1 e2
 have hlt : (a / M1 % b * M1 + a % M1) / b < M1 := by
  rw [Nat.div_lt_iff_lt_mul hb]
  have h1 := Nat.mul_le_mul_right M1 (Nat.succ_le_of_lt (Nat.mod_lt (a / M1) hb))
  have h2 := adA a
  rw [Nat.succ_mul, Nat.mul_comm b] at h1
  omega
 have e4 : M1 = 18446744073709551616 := rfl
 rw [← e4, e2, e1]
 refine ⟨?_, rfl⟩
 unfold u2
 generalize (a / M1 % b * M1 + a % M1) / b = z at *
 rw [Nat.add_comm (_ * M1), Nat.add_mul_div_right _ _ (by decide), Nat.add_mul_mod_self_right, Nat.div_eq_of_lt hlt, Nat.mod_eq_of_lt hlt, Nat.zero_add]


set_option maxRecDepth 100000 in
theorem ayR (a b : Nat) (ha : a < M2) (hb : 0 < b) (hb2 : b < 18446744073709551616) (H : Heap) : ACall Tryz.prog 121 [u2 a, .int .u64 (b : Int)] H (fun y H' => y = .tuple [u2 (a / b), .int .u64 ((a % b : Nat) : Int), .int .i64 0] ∧ H' = H) := by
 have ha1 := baR ha
 have ha2 := adA a
 obtain ⟨e1, e2⟩ := div2 (a := a) hb (Nat.le_of_lt hb2)
 refine ACall.of_body Tryz.func121 rfl Tryz.ntmps121 Tryz.results121 rfl ?_
 iterate 2 refine AX ?_
 refine .e rfl (zO (tm rfl) (.inr ⟨_, rfl⟩)) (.s rfl (zG Tryz.zeroValue149 (zr149)) ?_)
 rintro _ _ ⟨b4, hb4, rfl, hH⟩
 obtain rfl := hH.symm
 refine .p rfl (zD (zE 0)) ?_
 iterate 7 refine AX ?_
 refine .p rfl (qH (tm rfl) (zE 0)) ?_
 iterate 2 refine AX ?_
 refine AWP.cond_false (tm rfl) (by exact decide_eq_false (by omega)) ?_
 iterate 3 refine AX ?_
 refine AWP.draw [(0, true), (1, true), (2, true), (3, true), (4, true), (5, true), (6, true), (7, true), (8, true), (9, true)] rfl (by decide +kernel) ?_
 refine .p rfl rfl (zA Tryz.underlying149 rfl Tryz.sizeOf22 (tm rfl)) ?_
 iterate 3 refine AX ?_
 refine .p rfl rfl (zA Tryz.underlying149 rfl Tryz.sizeOf22 (tm rfl)) ?_
 iterate 2 refine AX ?_
 refine .p rfl rfl (afS (tm rfl) (tm rfl) (by assumption)) ?_
 iterate 7 refine AX ?_
 refine .p rfl (zA Tryz.underlying149 rfl Tryz.sizeOf22 (tm rfl)) ?_
 iterate 2 refine AX ?_
 refine .cl rfl Tryz.call183 (evs3 rfl rfl rfl) (awP (a / M1 % b) (a % M1) b (Nat.mod_lt _ hb) ha2 hb2 _) ?_
 iterate 11 refine AX ?_
 refine .p rfl (zL [(0, 1), (1, 1)] Tryz.underlying149 Tryz.zeroValue149 (zr149) rfl (pl149 _ Tryz.underlying149) (.cons (tm rfl) (.inl rfl) (.cons (tm rfl) (.inl rfl) .nil)) rfl) ?_
 refine AX ?_
 refine .e0 (zB Tryz.sizeOf149 (tm rfl) (tm rfl) rfl rfl (.inr ⟨_, rfl⟩) (Heap.objs_set_same _ _ _) (Nat.le_of_ble_eq_true rfl)) ?_
 try first | rw [Heap.set_set] | rw [Heap.set_under (by assumption)]
 iterate 4 refine AX ?_
 refine AWP.frz (t := 4) rfl (hb4) ?_
 refine AX ?_
 refine Ret.go (.cons (.cellI _ _ _ _ rfl Tryz.isAgg149 Tryz.sizeOf149 rfl) (.cons (.tmp _ _ rfl) (.cons (.tmp _ _ rfl) .nil))) _ (Heap.le.refl _) ?_
 refine ⟨?_, rfl⟩
 rw [← e1, ← e2]
 rfl

theorem root_go {v i r : Nat} (h : (r + 2 ^ i) * (r + 2 ^ i) ≤ v) : acJ v (i + 1) r = acJ v i (r + 2 ^ i) := by rw [acJ, if_pos h]
theorem root_no {v i r : Nat} (h : ¬ (r + 2 ^ i) * (r + 2 ^ i) ≤ v) : acJ v (i + 1) r = acJ v i r := by rw [acJ, if_neg h]
theorem half_pow (i : Nat) : 2 ^ (i + 1) / 2 = 2 ^ i := by rw [Nat.pow_succ, Nat.mul_div_cancel _ (by decide)]
theorem root_mod {r i : Nat} (h : r % 2 ^ (i + 1) = 0) : r % 2 ^ i = 0 ∧ (r + 2 ^ i) % 2 ^ i = 0 := by
 obtain ⟨c, rfl⟩ := Nat.dvd_of_mod_eq_zero h
 have e : 2 ^ (i + 1) * c = 2 ^ i * (2 * c) := by rw [Nat.pow_succ, Nat.mul_assoc]
 rw [e]
 exact ⟨Nat.mul_mod_right _ _, by rw [Nat.mul_add_mod]; exact Nat.mod_self _⟩
theorem bdT {r i : Nat} (hi : i < 64) (h : r % 2 ^ (i + 1) = 0) (hr : r < M1) : r + 2 ^ i < 18446744073709551616 := by
 obtain ⟨c, rfl⟩ := Nat.dvd_of_mod_eq_zero h
 have e : M1 = 2 ^ (i + 1) * 2 ^ (63 - i) := by rw [adF, ← Nat.pow_add, show i + 1 + (63 - i) = 64 by omega]
 rw [e] at hr
 have h1 : c < 2 ^ (63 - i) := Nat.lt_of_mul_lt_mul_left hr
 have h2 := Nat.mul_le_mul_left (2 ^ (i + 1)) (Nat.succ_le_of_lt h1)
 rw [← e, Nat.mul_succ] at h2
 have h3 : 2 ^ i < 2 ^ (i + 1) := Nat.pow_lt_pow_right (by decide) (Nat.lt_succ_self i)
 have h4 : M1 = 18446744073709551616 := rfl
 omega
theorem avC {i : Nat} (h : i ≤ 64) : 2 ^ i / 2 < 18446744073709551616 := by
 have : 2 ^ i ≤ 2 ^ 64 := Nat.pow_le_pow_right (by decide) h
 have e : (2 : Nat) ^ 64 = 18446744073709551616 := by decide
 omega
theorem cmp_le {a b : Nat} : ((if a = b then 0 else if a < b then -1 else 1 : Int) ≤ 0) ↔ a ≤ b := by
 split
 ·omega
 ·split <;> omega

def bdU (v : Nat) (H : Heap) : Nat → Env → Heap → Prop := fun k env H1 => ∃ i r : Nat, i ≤ 64 ∧ r % 2 ^ i = 0 ∧ r < M1 ∧ acJ v i r = acJ v 64 0 ∧ env = [(1, .iptr (u2 v).cells), (2, .int .u64 ((0 : Nat) : Int)), (3, .bool false), (4, .int .u64 (r : Int)), (5, .int .u64 ((2 ^ i / 2 : Nat) : Int))] ∧ H = H1 ∧ k = i

theorem wMulS (x : Nat) (hx : x < 18446744073709551616) (H : Heap) : ACall Tryz.prog 193 [.int .u64 (x : Int), .int .u64 (x : Int)] H (fun z H' => z = u2 (x * x) ∧ H' = H) := wMul2 x x hx hx H

set_option maxRecDepth 100000 in
theorem atW (v : Nat) (hv : v < M2) (H : Heap) : ACall Tryz.prog 197 [u2 v] H (fun y H' => y = .tuple [.int .u64 ((acJ v 64 0 : Nat) : Int), .bool (decide (acJ v 64 0 * acJ v 64 0 = v))] ∧ H' = H) := by
 refine ACall.of_body Tryz.func197 rfl Tryz.ntmps197 Tryz.results197 rfl ?_
 iterate 2 refine AX ?_
 refine .e rfl (zO (tm rfl) (.inr ⟨_, rfl⟩)) (.p rfl (zD (zE 0)) ?_)
 iterate 5 refine AX ?_
 refine .p rfl (zD (zE 0)) ?_
 iterate 5 refine AX ?_
 refine .p rfl (zD (zE 9223372036854775808)) ?_
 iterate 3 refine AX ?_
 refine AWP.loopW (bdU v H) (64) ⟨64, 0, Nat.le_refl _, Nat.zero_mod _, by decide, rfl, rfl, rfl, rfl⟩ (zP rfl (zP rfl (zP rfl (zP rfl (zP rfl qM))))) (Heap.le.refl _) ?_
 rintro _ _ _ ⟨i, r, hi, hm, hr, hroot, rfl, rfl, hk⟩
 have hpp := avC hi
 iterate 4 refine AX ?_
 refine .p rfl (yQ (tm rfl) (zE 0)) ?_
 iterate 2 refine AX ?_
 refine AWP.cx rfl (fun hc8 => ?_) (fun hc8 => ?_)
 ·have hi0 : i ≠ 0 := by rintro rfl; exact absurd hc8 (by decide)
  obtain ⟨j, rfl⟩ : ∃ j, i = j + 1 := ⟨i - 1, by omega⟩
  rw [half_pow]
  have hor := or_two hm
  have hroom := bdT (by omega) hm hr
  obtain ⟨hm1, hm2⟩ := root_mod hm
  have hpl : 2 ^ j < 18446744073709551616 := by omega
  iterate 8 refine AX ?_
  refine .p rfl (qW (tm rfl) (tm rfl) (hr) (hpl)) ?_
  iterate 4 refine AX ?_
  rw [hor]
  refine AWP.draw [(0, true), (1, true), (3, true), (2, false), (4, false), (5, true)] rfl (by decide +kernel) ?_
  iterate 3 refine AX ?_
  refine .s rfl rfl (zC Tryz.call193 (evs2 rfl rfl) (wMulS _ hroom _)) ?_
  rintro _ _ ⟨rfl, hH⟩
  obtain rfl := hH.symm
  refine .s rfl rfl (zC Tryz.call251 (evs2 rfl rfl) (ayS ((r + 2 ^ j) * (r + 2 ^ j)) v _)) ?_
  rintro _ _ ⟨rfl, hH⟩
  obtain rfl := hH.symm
  iterate 3 refine AX ?_
  refine AWP.cx rfl (fun hc19 => ?_) (fun hc19 => ?_)
  ·have hle := cmp_le.1 hc19
   have hst := root_go hle
   iterate 8 refine AX ?_
   refine .p rfl (zW (tm rfl) (zE 1) (by omega)) ?_
   iterate 3 refine AX ?_
   refine Round.mk (J := bdU v H) ⟨j, r + 2 ^ j, by omega, hm2, hroom, by rw [← hst]; exact hroot, rfl, rfl, rfl⟩ (zP rfl (zP rfl (zP rfl (zP rfl (zZ rfl (by rw [Nat.pow_one]) qM))))) (Heap.le.refl _) (by omega)
  ·have hle : ¬ (r + 2 ^ j) * (r + 2 ^ j) ≤ v := fun h => by have := cmp_le.2 h; omega
   have hst := root_no hle
   iterate 5 refine AX ?_
   refine .p rfl (zW (tm rfl) (zE 1) (by omega)) ?_
   iterate 3 refine AX ?_
   refine Round.mk (J := bdU v H) ⟨j, r, by omega, hm1, hr, by rw [← hst]; exact hroot, rfl, rfl, rfl⟩ (zP rfl (zP rfl (zP rfl (zP rfl (zZ rfl (by rw [Nat.pow_one]) qM))))) (Heap.le.refl _) (by omega)
 ·have hi0 : i = 0 := by
   rcases Nat.eq_zero_or_pos i with h | h
   ·exact h
   ·have h2 : 2 ≤ 2 ^ i := Nat.le_trans (by decide) (Nat.pow_le_pow_right (by decide) h)
    omega
  subst hi0
  have hr64 : r < 18446744073709551616 := hr
  have hrr : acJ v 64 0 = r := by rw [← hroot]; rfl
  iterate 6 refine AX ?_
  refine AWP.draw [(0, true), (1, true), (2, true), (4, true), (3, false), (5, true), (6, true), (7, true)] rfl (by decide +kernel) ?_
  iterate 4 refine AX ?_
  refine .s rfl rfl (zC Tryz.call193 (evs2 rfl rfl) (wMulS _ hr64 _)) ?_
  rintro _ _ ⟨rfl, hH⟩
  obtain rfl := hH.symm
  refine .p rfl rfl (yH Tryz.eqGuardType149 (tm rfl) (tm rfl) (eq2 _ _ _ _)) ?_
  iterate 5 refine AX ?_
  refine Ret.go (.cons (.tmp _ _ rfl) (.cons (.tmp _ _ rfl) .nil)) _ (Heap.le.refl _) ?_
  refine ⟨?_, rfl⟩
  rw [hrr]
  simp only [zU]
  congr 3
  exact congrArg AV.bool (decide_eq_decide.2 awA)
theorem sumP_lt (na : Bool) (ma : Nat) (ea : Int) (nb : Bool) (mb : Nat) (eb : Int) : sumP na ma ea nb mb eb < 18446744073709551616 := by
 unfold sumP
 simp only
 generalize (if decide (mb % 2 ^ _ ≠ 0) = true then _ else _ : Nat) = z
 split
 ·exact acC _ _ _ _
 ·split
  ·exact acC _ _ _ _
  ·split
   ·decide
   ·exact acC _ _ _ _
theorem fsum_lt (a b : Nat) : aqA a b < 18446744073709551616 := by
 unfold aqA; split <;> exact sumP_lt _ _ _ _ _ _
theorem aqD {a b : Nat} (ha : a < 18446744073709551616) (hb : b < 18446744073709551616) : afJ a b < 18446744073709551616 := by
 unfold afJ
 split
 ·decide
 ·split
  ·exact ha
  ·split
   ·exact hb
   ·split
    ·split
     ·exact ha
     ·split <;> decide
    ·exact fsum_lt a b
theorem awZ (neg : Bool) : abF neg + alR < 18446744073709551616 ∧ abF neg < 18446744073709551616 := by cases neg <;> decide
theorem alZ (a b : Nat) : amA a b < 18446744073709551616 := by
 unfold amA
 split
 ·decide
 ·split
  ·exact (awZ _).1
  ·split
   ·exact (awZ _).2
   ·exact acC _ _ _ _
theorem axY {a : Nat} (ha : a < 18446744073709551616) : alT a < 18446744073709551616 := by
 unfold alT
 split
 ·decide
 ·split
  ·exact ha
  ·exact acC _ _ _ _
theorem avD (a u L : Nat) : ∀ i, azX a u L i < 18446744073709551616
 | 0 => show (4607182418800017408 : Nat) < 18446744073709551616 by decide
 | i + 1 => by
  unfold azX
  split <;> exact ahL _ _
theorem bfX (a : Nat) (n : Int) : avU a n < 18446744073709551616 := by
 unfold avU
 split
 ·decide
 ·split
  ·exact alZ _ _
  ·exact avD _ _ _ _
theorem alV {a : Nat} (ha : a < 18446744073709551616) : amV a < 18446744073709551616 := by
 unfold amV
 split
 ·decide
 ·split <;> omega
theorem adds_tab {p q : Nat} (hp : p < 4) (hq : q < 4) : ((([.int .i64 4, .int .i64 0, .int .i64 3, .int .i64 1, .int .i64 0, .int .i64 0, .int .i64 3, .int .i64 1, .int .i64 2, .int .i64 2, .int .i64 4, .int .i64 1, .int .i64 1, .int .i64 1, .int .i64 1, .int .i64 1] : List AV).drop (((p : Nat) : Int).toNat * 4)).drop (((q : Nat) : Int).toNat * 1))[0]? = some (.int .i64 (addsT p q)) := by
 rcases (by omega : p = 0 ∨ p = 1 ∨ p = 2 ∨ p = 3) with rfl | rfl | rfl | rfl <;> rcases (by omega : q = 0 ∨ q = 1 ∨ q = 2 ∨ q = 3) with rfl | rfl | rfl | rfl <;> rfl
def aqZ (y : Nat) (more : Bool) : Nat := if more = true then y + 1 else y
def sumQ (na nb : Bool) (x y : Nat) (e : Int) (more : Bool) : Nat :=
 if na = nb then yG na (x + y) e more
 else if x < aqZ y more then yG nb (aqZ y more - x) e false else if x - aqZ y more = 0 ∧ more = false then 0 else yG na (x - aqZ y more) e more
theorem sumP_at {na nb : Bool} {ma mb : Nat} {ea eb : Int} {up j : Nat} (hup : up = (min (ea - eb) 64).toNat) (hj : j = (ea - up - eb).toNat) : sumP na ma ea nb mb eb = sumQ na nb (ma * 2 ^ up) (mb / 2 ^ j) (ea - up) (decide (mb % 2 ^ j ≠ 0)) := by
 subst hup; subst hj; rfl
theorem shl_room {m n : Nat} (hm : m < 9007199254740992) (hn : n ≤ 64) : m * 2 ^ n < 166153499473114484112975882535043072 := by
 have h1 : 2 ^ n ≤ 2 ^ 64 := Nat.pow_le_pow_right (by decide) hn
 have h2 : m * 2 ^ n ≤ 9007199254740991 * 2 ^ 64 := Nat.mul_le_mul (by omega) h1
 exact Nat.lt_of_le_of_lt h2 (by decide)
theorem abR : M2 = 340282366920938463463374607431768211456 := rfl
theorem wShlU (v : Nat) (n : Nat) (hn : n < 128) (q : Int) (hq : q = (n : Int)) (H : Heap) : ACall Tryz.prog 187 [u2 v, .int .i64 q] H (fun y H' => y = u2 (v * 2 ^ n % M2) ∧ H' = H) := by
 by_cases h : n < 64
 ·exact adT v n h q hq H
 ·exact atV v n ⟨by omega, hn⟩ q hq H
theorem aoU {a b : Nat} (ha : a < M2) (h : b ≤ a) : (a + M2 - b) % M2 = a - b := by unfold M2 at *; omega
theorem awW {x z : Nat} (hx : x < M2) (h : ¬ x < z) : (decide (((((x + M2 - z) % M2 / M1 : Nat)) : Int) = 0 ∧ ((((x + M2 - z) % M2 % M1 : Nat)) : Int) = 0)) = decide (x - z = 0) := by
 rw [aoU hx (by omega)]
 refine decide_eq_decide.2 ?_
 unfold M1; omega

set_option maxRecDepth 100000 in
theorem bbX (a b : Nat) (ha : a < 18446744073709551616) (hb : b < 18446744073709551616) (H : Heap) : ACall Tryz.prog 190 [.int .u64 (a : Int), .int .u64 (b : Int)] H (fun y H' => y = .int .i64 (addK a b) ∧ H' = H) := by
 have hka := ajW (zY a)
 have hkb := ajW (zY b)
 refine ACall.of_body Tryz.func190 rfl Tryz.ntmps190 Tryz.results190 rfl ?_
 iterate 7 refine AX ?_
 refine .p rfl (qU Tryz.underlying251 Tryz.sizeOf3 Tryz.zeroValue251 (zr251) (.cons zI (.inl rfl) (.cons zI (.inl rfl) (.cons zI (.inl rfl) (.cons zI (.inl rfl) .nil)))) rfl) (.p rfl (qU Tryz.underlying251 Tryz.sizeOf3 Tryz.zeroValue251 (zr251) (.cons zI (.inl rfl) (.cons zI (.inl rfl) (.cons zI (.inl rfl) (.cons zI (.inl rfl) .nil)))) rfl) (.p rfl (qU Tryz.underlying251 Tryz.sizeOf3 Tryz.zeroValue251 (zr251) (.cons zI (.inl rfl) (.cons zI (.inl rfl) (.cons zI (.inl rfl) (.cons zI (.inl rfl) .nil)))) rfl) (.p rfl (qU Tryz.underlying251 Tryz.sizeOf3 Tryz.zeroValue251 (zr251) (.cons zI (.inl rfl) (.cons zI (.inl rfl) (.cons zI (.inl rfl) (.cons zI (.inl rfl) .nil)))) rfl) ?_)))
 refine .p rfl (qU Tryz.underlying252 Tryz.sizeOf251 Tryz.zeroValue252 (zr252) (.cons (tm rfl) (.inr ⟨_, rfl⟩) (.cons (tm rfl) (.inr ⟨_, rfl⟩) (.cons (tm rfl) (.inr ⟨_, rfl⟩) (.cons (tm rfl) (.inr ⟨_, rfl⟩) .nil)))) rfl) ?_
 refine .s rfl (zG Tryz.zeroValue252 (zr252)) ?_
 rintro _ _ ⟨b5, hb5, rfl, hH⟩
 obtain rfl := hH.symm
 refine .e0 (zB Tryz.sizeOf252 (tm rfl) (tm rfl) rfl rfl (.inr ⟨_, rfl⟩) (Heap.objs_set_same _ _ _) (Nat.le_of_ble_eq_true rfl)) ?_
 try first | rw [Heap.set_set] | rw [Heap.set_under (by assumption)]
 iterate 2 refine AX ?_
 refine AWP.frz (t := 5) rfl (hb5) ?_
 refine AX ?_
 refine AWP.draw [(0, true), (1, true), (2, true), (3, true), (4, true), (5, true), (6, true), (7, true)] rfl (by decide +kernel) ?_
 refine AX ?_
 refine APlan.f rfl rfl (fun _ => zC Tryz.call242 (evs1 rfl) (aeW _ (by assumption) _)) ?_
 refine AX ?_
 refine APlan.f rfl rfl (fun _ => zC Tryz.call242 (evs1 rfl) (aeW _ (by assumption) _)) ?_
 iterate 2 refine AX ?_
 refine .p rfl rfl (anT Tryz.isAgg3 (tm rfl) (adds_tab hka hkb)) ?_
 iterate 4 refine AX ?_
 refine Ret.go (.cons (.tmp _ _ rfl) .nil) _ (Heap.le.refl _) ?_
 exact ⟨rfl, rfl⟩

set_option maxRecDepth 100000 in
theorem bdB (a b : Nat) (ha : a < 18446744073709551616) (hb : b < 18446744073709551616) (H : Heap) : ACall Tryz.prog 191 [.int .u64 (a : Int), .int .u64 (b : Int)] H (fun y H' => y = .int .u64 ((aqA a b : Nat) : Int) ∧ H' = H) := by
 have hpa := qY a
 have hpb := qY b
 have hma := abD a
 have hmb := abD b
 refine ACall.of_body Tryz.func191 rfl Tryz.ntmps191 Tryz.results191 rfl ?_
 iterate 2 refine AX ?_
 refine .p rfl (zD (zE 0)) ?_
 iterate 5 refine AX ?_
 refine .cl rfl Tryz.call181 (evs1 rfl) (aaV a ha _) ?_
 iterate 12 refine AX ?_
 refine .cl rfl Tryz.call181 (evs1 rfl) (aaV b hb _) ?_
 iterate 9 refine AX ?_
 refine AWP.meet (fun env H2 => ∃ (na nb : Bool) (ma mb : Nat) (ea eb : Int), eb ≤ ea ∧ ma < 9007199254740992 ∧ mb < 9007199254740992 ∧ (-1075 ≤ eb ∧ ea ≤ 972) ∧ sumP na ma ea nb mb eb = aqA a b ∧ env = [(4, .int .u64 ((0 : Nat) : Int)), (5, .bool na), (6, .int .u64 (ma : Int)), (7, .int .i64 ea), (8, .bool nb), (9, .int .u64 (mb : Int)), (10, .int .i64 eb)] ∧ H = H2) ?_ ?_
 ·iterate 7 refine AX ?_
  refine AWP.cx rfl (fun hc34 => ?_) (fun hc34 => ?_)
  ·iterate 15 refine AX ?_
   refine Meets.mk (M := fun env H2 => ∃ (na nb : Bool) (ma mb : Nat) (ea eb : Int), eb ≤ ea ∧ ma < 9007199254740992 ∧ mb < 9007199254740992 ∧ (-1075 ≤ eb ∧ ea ≤ 972) ∧ sumP na ma ea nb mb eb = aqA a b ∧ env = [(4, .int .u64 ((0 : Nat) : Int)), (5, .bool na), (6, .int .u64 (ma : Int)), (7, .int .i64 ea), (8, .bool nb), (9, .int .u64 (mb : Int)), (10, .int .i64 eb)] ∧ H = H2) ⟨_, _, _, _, _, _, by omega, by omega, by omega, by omega, by unfold aqA; rw [if_pos (by omega)], rfl, rfl⟩ (zP rfl (zP rfl (zP rfl (zP rfl (zP rfl (zP rfl (zP rfl qM))))))) (Heap.le.refl _)
  ·iterate 2 refine AX ?_
   refine Meets.mk (M := fun env H2 => ∃ (na nb : Bool) (ma mb : Nat) (ea eb : Int), eb ≤ ea ∧ ma < 9007199254740992 ∧ mb < 9007199254740992 ∧ (-1075 ≤ eb ∧ ea ≤ 972) ∧ sumP na ma ea nb mb eb = aqA a b ∧ env = [(4, .int .u64 ((0 : Nat) : Int)), (5, .bool na), (6, .int .u64 (ma : Int)), (7, .int .i64 ea), (8, .bool nb), (9, .int .u64 (mb : Int)), (10, .int .i64 eb)] ∧ H = H2) ⟨_, _, _, _, _, _, by omega, by omega, by omega, by omega, by unfold aqA; rw [if_neg (by omega)], rfl, rfl⟩ (zP rfl (zP rfl (zP rfl (zP rfl (zP rfl (zP rfl (zP rfl qM))))))) (Heap.le.refl _)
 ·rintro _ _ ⟨na, nb, ma, mb, ea, eb, hle, hm1, hm2, hr, hsum, rfl, rfl⟩
  obtain ⟨up, hup⟩ : ∃ up : Nat, up = (min (ea - eb) 64).toNat := ⟨_, rfl⟩
  obtain ⟨j, hj⟩ : ∃ j : Nat, j = (ea - up - eb).toNat := ⟨_, rfl⟩
  have hup64 : up ≤ 64 := by omega
  have hroom := shl_room hm1 hup64
  have hyl : mb / 2 ^ j ≤ mb := Nat.div_le_self _ _
  rw [← hsum, sumP_at hup hj]
  iterate 10 refine AX ?_
  rw [show bcH (ea - eb) 64 = ((up : Nat) : Int) by simp only [bcH]; split <;> omega]
  iterate 2 refine AX ?_
  refine .p rfl (zL [(0, 1), (1, 1)] Tryz.underlying149 Tryz.zeroValue149 (zr149) rfl (pl149 _ Tryz.underlying149) (.cons (tm rfl) (.inl rfl) .nil) rfl) ?_
  refine AX ?_
  refine .cl rfl Tryz.call187 (evs2 rfl rfl) ((by have h := fun H => wShlU ma up (by omega) _ rfl H; rw [agX (by (unfold M1; omega))] at h; exact h _)) ?_
  rw [Nat.mod_eq_of_lt (show ma * 2 ^ up < M2 by rw [abR]; omega)]
  iterate 3 refine AX ?_
  refine .s rfl (zG Tryz.zeroValue149 (zr149)) ?_
  rintro _ _ ⟨b12, hb12, rfl, hH⟩
  obtain rfl := hH.symm
  refine .e0 (zB Tryz.sizeOf149 (tm rfl) (tm rfl) rfl rfl (.inr ⟨_, rfl⟩) (Heap.objs_set_same _ _ _) (Nat.le_of_ble_eq_true rfl)) ?_
  try first | rw [Heap.set_set] | rw [Heap.set_under (by assumption)]
  iterate 3 refine AX ?_
  refine AWP.frz (t := 12) rfl (hb12) ?_
  iterate 3 refine AX ?_
  refine .p rfl (zL [(0, 1), (1, 1)] Tryz.underlying149 Tryz.zeroValue149 (zr149) rfl (pl149 _ Tryz.underlying149) (.cons (tm rfl) (.inl rfl) .nil) rfl) ?_
  iterate 3 refine AX ?_
  refine .cl rfl Tryz.call188 (evs2 rfl rfl) ((by have h := fun H => ahW mb (by rw [abR]; omega) j (by omega) (ea - up - eb) (by omega) H; rw [agX (by (unfold M1; omega))] at h; exact h _)) ?_
  iterate 3 refine AX ?_
  refine .s rfl (zG Tryz.zeroValue149 (zr149)) ?_
  rintro _ _ ⟨b14, hb14, rfl, hH⟩
  obtain rfl := hH.symm
  refine .e0 (zB Tryz.sizeOf149 (tm rfl) (tm rfl) rfl rfl (.inr ⟨_, rfl⟩) (Heap.objs_set_same _ _ _) (Nat.le_of_ble_eq_true rfl)) ?_
  try first | rw [Heap.set_set] | rw [Heap.set_under (by assumption)]
  iterate 5 refine AX ?_
  obtain ⟨x, hx⟩ : ∃ x, x = ma * 2 ^ up := ⟨_, rfl⟩
  obtain ⟨y, hy⟩ : ∃ y, y = mb / 2 ^ j := ⟨_, rfl⟩
  obtain ⟨e, he⟩ : ∃ e : Int, e = ea - up := ⟨_, rfl⟩
  generalize hmo : decide (mb % 2 ^ j ≠ 0) = more
  rw [← hx, ← hy, ← he]
  rw [← hx] at hroom
  rw [← hy] at hyl
  iterate 3 refine AX ?_
  refine .p rfl (beD Tryz.underlying4 (tm rfl) (tm rfl)) ?_
  iterate 2 refine AX ?_
  refine AWP.cx rfl (fun hc63 => ?_) (fun hc63 => ?_)
  ·iterate 3 refine AX ?_
   refine .e rfl (zV Tryz.isAgg149 Tryz.sizeOf149 (tm rfl) (Heap.objs_set_same _ _ _) (Nat.le_of_ble_eq_true rfl)) (.cl rfl Tryz.call243 (evs2 rfl rfl) (ahY x y (by rw [abR]; omega) (by rw [abR]; omega) _) ?_)
   rw [Nat.mod_eq_of_lt (show x + y < M2 by rw [abR]; omega)]
   iterate 3 refine AX ?_
   refine .s rfl (zG Tryz.zeroValue149 (zr149)) ?_
   rintro _ _ ⟨b16, hb16, rfl, hH⟩
   obtain rfl := hH.symm
   have hn14_16 := Heap.ne_of (Heap.objs_set_same _ _ _) hb16
   refine .e0 (zB Tryz.sizeOf149 (tm rfl) (tm rfl) rfl rfl (.inr ⟨_, rfl⟩) (Heap.objs_set_same _ _ _) (Nat.le_of_ble_eq_true rfl)) ?_
   try first | rw [Heap.set_set] | rw [Heap.set_under (by assumption)]
   iterate 3 refine AX ?_
   refine AWP.frz (t := 16) rfl (hb16) ?_
   iterate 6 refine AX ?_
   refine .cl rfl Tryz.call122 (.cons (tm rfl) (evs3 rfl rfl rfl)) (abM na (x + y) (by rw [abR]; omega) e (by omega) more _) ?_
   iterate 3 refine AX ?_
   refine AWP.dropb (hb14) ?_
   iterate 2 refine AX ?_
   refine Ret.go (.cons (.tmp _ _ rfl) .nil) _ (Heap.le.refl _) ?_
   refine ⟨?_, rfl⟩
   unfold sumQ
   rw [if_pos (by simpa using hc63)]; rfl
  ·iterate 2 refine AX ?_
   refine AWP.meet (fun env H2 => env = [(4, .int .u64 ((0 : Nat) : Int)), (5, .bool na), (8, .bool nb), (12, .iptr (u2 x).cells), (13, .int .i64 e), (14, .ptr (some ⟨b14, 0, none⟩)), (15, .bool more)] ∧ H2 = H.set b14 (.box 149 (u2 (aqZ y more)).cells)) ?_ ?_
   ·iterate 5 refine AX ?_
    refine AWP.cx rfl (fun hc75 => ?_) (fun hc75 => ?_)
    ·refine AX ?_
     refine .e rfl (zV Tryz.isAgg149 Tryz.sizeOf149 (tm rfl) (Heap.objs_set_same _ _ _) (Nat.le_of_ble_eq_true rfl)) (.p rfl (zL [(0, 1), (1, 1)] Tryz.underlying149 Tryz.zeroValue149 (zr149) rfl (pl149 _ Tryz.underlying149) (.cons (zE 1) (.inl rfl) .nil) rfl) ?_)
     refine .cl rfl Tryz.call243 (evs2 rfl rfl) ((by have h := fun H => ahY y 1 (by rw [abR]; omega) (by decide +kernel) H; rw [agX (show 1 < M1 by decide)] at h; exact h _)) ?_
     rw [Nat.mod_eq_of_lt (show y + 1 < M2 by rw [abR]; omega)]
     iterate 3 refine AX ?_
     refine .e0 (zB Tryz.sizeOf149 (tm rfl) (tm rfl) rfl rfl (.inr ⟨_, rfl⟩) (Heap.objs_set_same _ _ _) (Nat.le_of_ble_eq_true rfl)) ?_
     try first | rw [Heap.set_set] | rw [Heap.set_under (by assumption)]
     iterate 2 refine AX ?_
     refine Meets.mk (M := fun env H2 => env = [(4, .int .u64 ((0 : Nat) : Int)), (5, .bool na), (8, .bool nb), (12, .iptr (u2 x).cells), (13, .int .i64 e), (14, .ptr (some ⟨b14, 0, none⟩)), (15, .bool more)] ∧ H2 = H.set b14 (.box 149 (u2 (aqZ y more)).cells)) ⟨rfl, by rw [show aqZ y more = y + 1 from if_pos hc75]; rfl⟩ (zP rfl (zP rfl (zP rfl (zP rfl (zP rfl (zP rfl (zP rfl qM))))))) (Heap.le.refl _)
    ·iterate 2 refine AX ?_
     refine Meets.mk (M := fun env H2 => env = [(4, .int .u64 ((0 : Nat) : Int)), (5, .bool na), (8, .bool nb), (12, .iptr (u2 x).cells), (13, .int .i64 e), (14, .ptr (some ⟨b14, 0, none⟩)), (15, .bool more)] ∧ H2 = H.set b14 (.box 149 (u2 (aqZ y more)).cells)) ⟨rfl, by rw [show aqZ y more = y from if_neg (by rw [hc75]; decide)]; rfl⟩ (zP rfl (zP rfl (zP rfl (zP rfl (zP rfl (zP rfl (zP rfl qM))))))) (Heap.le.refl _)
   ·rintro _ _ ⟨rfl, rfl⟩
    have hty : aqZ y more ≤ y + 1 := by unfold aqZ; split <;> omega
    iterate 3 refine AX ?_
    refine .e rfl (zV Tryz.isAgg149 Tryz.sizeOf149 (tm rfl) (Heap.objs_set_same _ _ _) (Nat.le_of_ble_eq_true rfl)) (.cl rfl Tryz.call244 (evs2 rfl rfl) (anB x (aqZ y more) (by rw [abR]; omega) (by rw [abR]; omega) _) ?_)
    iterate 3 refine AX ?_
    refine .s rfl (zG Tryz.zeroValue149 (zr149)) ?_
    rintro _ _ ⟨b18, hb18, rfl, hH⟩
    obtain rfl := hH.symm
    have hn14_18 := Heap.ne_of (Heap.objs_set_same _ _ _) hb18
    refine .e0 (zB Tryz.sizeOf149 (tm rfl) (tm rfl) rfl rfl (.inr ⟨_, rfl⟩) (Heap.objs_set_same _ _ _) (Nat.le_of_ble_eq_true rfl)) ?_
    try first | rw [Heap.set_set] | rw [Heap.set_under (by assumption)]
    iterate 10 refine AX ?_
    refine AWP.cx rfl (fun hc93 => ?_) (fun hc93 => ?_)
    ·iterate 2 refine AX ?_
     refine .e rfl (zV Tryz.isAgg149 Tryz.sizeOf149 (tm rfl) ((Heap.objs_set_ne _ _ (by assumption)).trans (Heap.objs_set_same _ _ _)) (Nat.le_of_ble_eq_true rfl)) ?_
     refine AX ?_
     refine .cl rfl Tryz.call244 (evs2 rfl rfl) (anB (aqZ y more) x (by rw [abR]; omega) (by rw [abR]; omega) _) ?_
     rw [aoU (by rw [abR]; omega) (by omega)]
     iterate 3 refine AX ?_
     refine .e0 (zB Tryz.sizeOf149 (tm rfl) (tm rfl) rfl rfl (.inr ⟨_, rfl⟩) (Heap.objs_set_same _ _ _) (Nat.le_of_ble_eq_true rfl)) ?_
     try first | rw [Heap.set_set] | rw [Heap.set_under (by assumption)]
     iterate 5 refine AX ?_
     refine .e rfl (zV Tryz.isAgg149 Tryz.sizeOf149 (tm rfl) (Heap.objs_set_same _ _ _) (Nat.le_of_ble_eq_true rfl)) ?_
     refine AX ?_
     refine .cl rfl Tryz.call122 (.cons (tm rfl) (.cons (tm rfl) (.cons (tm rfl) (.cons yF .nil)))) (abM nb (aqZ y more - x) (by rw [abR]; omega) e (by omega) false _) ?_
     iterate 3 refine AX ?_
     refine AWP.dropb (hb18) ?_
     refine AWP.dropb (hb14) ?_
     iterate 2 refine AX ?_
     refine Ret.go (.cons (.tmp _ _ rfl) .nil) _ (Heap.le.refl _) ?_
     refine ⟨?_, rfl⟩
     unfold sumQ
     rw [if_neg (by simpa using hc63), if_pos (by simpa using hc93)]; rfl
    ·have hxz : ¬ x < aqZ y more := by simpa using hc93
     refine AWP.seqTo 105 (.bool (decide (x - aqZ y more = 0) && !more)) [4, 5, 13, 15, 18] ?_ ?_
     ·-- region 18
      refine AX ?_
      refine .e rfl (zV Tryz.isAgg149 Tryz.sizeOf149 (tm rfl) (Heap.objs_set_same _ _ _) (Nat.le_of_ble_eq_true rfl)) (.p rfl (zL [(0, 1), (1, 1)] Tryz.underlying149 Tryz.zeroValue149 (zr149) rfl (pl149 _ Tryz.underlying149) .nil rfl) ?_)
      refine .p rfl (yH Tryz.eqGuardType149 (tm rfl) (tm rfl) (eq2 _ _ _ _)) ?_
      refine AX ?_
      refine zH (t := 109) rfl (fun hg109 => ?_) (fun hg109 => ?_)
      ·have hh109 := hg109; try simp only [decide_eq_true_eq, decide_eq_false_iff_not, Bool.not_eq_true', Bool.not_eq_false', Int.not_lt, Int.not_le, ne_eq, Decidable.not_not] at hh109
       iterate 5 refine AX ?_
       exact ⟨rfl, zS rfl (by (rw [← awW (by rw [abR]; omega) hxz, hg109]; rfl)) (zP rfl (zP rfl (zP rfl (zP rfl (zP rfl qM))))), rfl⟩
      ·have hh109 := hg109; try simp only [decide_eq_true_eq, decide_eq_false_iff_not, Bool.not_eq_true', Bool.not_eq_false', Int.not_lt, Int.not_le, ne_eq, Decidable.not_not] at hh109
       iterate 5 refine AX ?_
       exact ⟨rfl, zS rfl (by (rw [← awW (by rw [abR]; omega) hxz, hg109]; rfl)) (zP rfl (zP rfl (zP rfl (zP rfl (zP rfl qM))))), rfl⟩
     ·refine AWP.sub [(105, _), (4, _), (5, _), (13, _), (15, _), (18, _)] (zP rfl (zP rfl (zP rfl (zP rfl (zP rfl (zP rfl qM)))))) ?_
      refine AWP.cx rfl (fun hc105 => ?_) (fun hc105 => ?_)
      ·iterate 2 refine AX ?_
       refine .p rfl (zD (zE 0)) ?_
       iterate 2 refine AX ?_
       refine AWP.dropb (hb18) ?_
       refine AWP.dropb (hb14) ?_
       iterate 2 refine AX ?_
       refine Ret.go (.cons (.tmp _ _ rfl) .nil) _ (Heap.le.refl _) ?_
       refine ⟨?_, rfl⟩
       unfold sumQ
       rw [if_neg (by simpa using hc63), if_neg hxz, if_pos (by simpa using hc105)]; rfl
      ·refine AX ?_
       rw [aoU (by rw [abR]; omega) (by omega)]
       iterate 2 refine AX ?_
       refine .e rfl (zV Tryz.isAgg149 Tryz.sizeOf149 (tm rfl) (Heap.objs_set_same _ _ _) (Nat.le_of_ble_eq_true rfl)) ?_
       iterate 2 refine AX ?_
       refine .cl rfl Tryz.call122 (.cons (tm rfl) (evs3 rfl rfl rfl)) (abM na (x - aqZ y more) (by rw [abR]; omega) e (by omega) more _) ?_
       iterate 3 refine AX ?_
       refine AWP.dropb (hb18) ?_
       refine AWP.dropb (hb14) ?_
       iterate 2 refine AX ?_
       refine Ret.go (.cons (.tmp _ _ rfl) .nil) _ (Heap.le.refl _) ?_
       refine ⟨?_, rfl⟩
       unfold sumQ
       rw [if_neg (by simpa using hc63), if_neg hxz, if_neg (by simpa using hc105)]; rfl

set_option maxRecDepth 100000 in
theorem aoM (a b : Nat) (ha : a < 18446744073709551616) (hb : b < 18446744073709551616) (H : Heap) : ACall Tryz.prog 131 [.int .u64 (a : Int), .int .u64 (b : Int)] H (fun y H' => y = .int .u64 ((afJ a b : Nat) : Int) ∧ H' = H) := by
 refine ACall.of_body Tryz.func131 rfl Tryz.ntmps131 Tryz.results131 rfl ?_
 iterate 2 refine AX ?_
 refine .p rfl (zD (zE 0)) ?_
 iterate 7 refine AX ?_
 refine .cl rfl Tryz.call190 (evs2 rfl rfl) (bbX a b ha hb _) ?_
 iterate 9 refine AX ?_
 refine AWP.cx rfl (fun hc8 => ?_) (fun hc8 => ?_)
 ·iterate 2 refine AX ?_
  refine .p rfl (zD (zE 9221120237041090560)) ?_
  iterate 5 refine AX ?_
  refine Ret.go (.cons (.tmp _ _ rfl) .nil) _ (Heap.le.refl _) ?_
  refine ⟨?_, rfl⟩
  unfold afJ
  first
  | (rw [if_pos (by assumption)]; rfl)
  | (rw [if_neg (by assumption), if_pos (by assumption)]; rfl)
  | (rw [if_neg (by assumption), if_neg (by assumption), if_pos (by assumption)]; rfl)
  | (rw [if_neg (by assumption), if_neg (by assumption), if_neg (by assumption), if_pos (by assumption), if_pos (by omega)]; rfl)
  | (rw [if_neg (by assumption), if_neg (by assumption), if_neg (by assumption), if_pos (by assumption), if_neg (by omega), if_pos (by omega)]; rfl)
  | (rw [if_neg (by assumption), if_neg (by assumption), if_neg (by assumption), if_pos (by assumption), if_neg (by omega), if_neg (by omega)]; rfl)
  | (rw [if_neg (by assumption), if_neg (by assumption), if_neg (by assumption), if_neg (by assumption)]; rfl)
 ·iterate 6 refine AX ?_
  refine AWP.cx rfl (fun hc10 => ?_) (fun hc10 => ?_)
  ·iterate 9 refine AX ?_
   refine Ret.go (.cons (.tmp _ _ rfl) .nil) _ (Heap.le.refl _) ?_
   refine ⟨?_, rfl⟩
   unfold afJ
   first
   | (rw [if_pos (by assumption)]; rfl)
   | (rw [if_neg (by assumption), if_pos (by assumption)]; rfl)
   | (rw [if_neg (by assumption), if_neg (by assumption), if_pos (by assumption)]; rfl)
   | (rw [if_neg (by assumption), if_neg (by assumption), if_neg (by assumption), if_pos (by assumption), if_pos (by omega)]; rfl)
   | (rw [if_neg (by assumption), if_neg (by assumption), if_neg (by assumption), if_pos (by assumption), if_neg (by omega), if_pos (by omega)]; rfl)
   | (rw [if_neg (by assumption), if_neg (by assumption), if_neg (by assumption), if_pos (by assumption), if_neg (by omega), if_neg (by omega)]; rfl)
   | (rw [if_neg (by assumption), if_neg (by assumption), if_neg (by assumption), if_neg (by assumption)]; rfl)
  ·iterate 6 refine AX ?_
   refine AWP.cx rfl (fun hc13 => ?_) (fun hc13 => ?_)
   ·iterate 9 refine AX ?_
    refine Ret.go (.cons (.tmp _ _ rfl) .nil) _ (Heap.le.refl _) ?_
    refine ⟨?_, rfl⟩
    unfold afJ
    first
    | (rw [if_pos (by assumption)]; rfl)
    | (rw [if_neg (by assumption), if_pos (by assumption)]; rfl)
    | (rw [if_neg (by assumption), if_neg (by assumption), if_pos (by assumption)]; rfl)
    | (rw [if_neg (by assumption), if_neg (by assumption), if_neg (by assumption), if_pos (by assumption), if_pos (by omega)]; rfl)
    | (rw [if_neg (by assumption), if_neg (by assumption), if_neg (by assumption), if_pos (by assumption), if_neg (by omega), if_pos (by omega)]; rfl)
    | (rw [if_neg (by assumption), if_neg (by assumption), if_neg (by assumption), if_pos (by assumption), if_neg (by omega), if_neg (by omega)]; rfl)
    | (rw [if_neg (by assumption), if_neg (by assumption), if_neg (by assumption), if_neg (by assumption)]; rfl)
   ·iterate 6 refine AX ?_
    refine AWP.cx rfl (fun hc16 => ?_) (fun hc16 => ?_)
    ·iterate 10 refine AX ?_
     refine AWP.cx rfl (fun hc18 => ?_) (fun hc18 => ?_)
     ·iterate 11 refine AX ?_
      refine Ret.go (.cons (.tmp _ _ rfl) .nil) _ (Heap.le.refl _) ?_
      refine ⟨?_, rfl⟩
      unfold afJ
      first
      | (rw [if_pos (by assumption)]; rfl)
      | (rw [if_neg (by assumption), if_pos (by assumption)]; rfl)
      | (rw [if_neg (by assumption), if_neg (by assumption), if_pos (by assumption)]; rfl)
      | (rw [if_neg (by assumption), if_neg (by assumption), if_neg (by assumption), if_pos (by assumption), if_pos (by omega)]; rfl)
      | (rw [if_neg (by assumption), if_neg (by assumption), if_neg (by assumption), if_pos (by assumption), if_neg (by omega), if_pos (by omega)]; rfl)
      | (rw [if_neg (by assumption), if_neg (by assumption), if_neg (by assumption), if_pos (by assumption), if_neg (by omega), if_neg (by omega)]; rfl)
      | (rw [if_neg (by assumption), if_neg (by assumption), if_neg (by assumption), if_neg (by assumption)]; rfl)
     ·iterate 3 refine AX ?_
      refine .cl rfl Tryz.call89 (evs1 rfl) (qC _ (by assumption) _) ?_
      iterate 4 refine AX ?_
      refine AWP.cx rfl (fun hc23 => ?_) (fun hc23 => ?_)
      ·iterate 2 refine AX ?_
       refine .p rfl (zD (zE 9221120237041090560)) ?_
       iterate 7 refine AX ?_
       refine Ret.go (.cons (.tmp _ _ rfl) .nil) _ (Heap.le.refl _) ?_
       refine ⟨?_, rfl⟩
       unfold afJ
       first
       | (rw [if_pos (by assumption)]; rfl)
       | (rw [if_neg (by assumption), if_pos (by assumption)]; rfl)
       | (rw [if_neg (by assumption), if_neg (by assumption), if_pos (by assumption)]; rfl)
       | (rw [if_neg (by assumption), if_neg (by assumption), if_neg (by assumption), if_pos (by assumption), if_pos (by omega)]; rfl)
       | (rw [if_neg (by assumption), if_neg (by assumption), if_neg (by assumption), if_pos (by assumption), if_neg (by omega), if_pos (by omega)]; rfl)
       | (rw [if_neg (by assumption), if_neg (by assumption), if_neg (by assumption), if_pos (by assumption), if_neg (by omega), if_neg (by omega)]; rfl)
       | (rw [if_neg (by assumption), if_neg (by assumption), if_neg (by assumption), if_neg (by assumption)]; rfl)
      ·iterate 5 refine AX ?_
       refine .p rfl (zD (zE 0)) ?_
       iterate 5 refine AX ?_
       refine Ret.go (.cons (.tmp _ _ rfl) .nil) _ (Heap.le.refl _) ?_
       refine ⟨?_, rfl⟩
       unfold afJ
       first
       | (rw [if_pos (by assumption)]; rfl)
       | (rw [if_neg (by assumption), if_pos (by assumption)]; rfl)
       | (rw [if_neg (by assumption), if_neg (by assumption), if_pos (by assumption)]; rfl)
       | (rw [if_neg (by assumption), if_neg (by assumption), if_neg (by assumption), if_pos (by assumption), if_pos (by omega)]; rfl)
       | (rw [if_neg (by assumption), if_neg (by assumption), if_neg (by assumption), if_pos (by assumption), if_neg (by omega), if_pos (by omega)]; rfl)
       | (rw [if_neg (by assumption), if_neg (by assumption), if_neg (by assumption), if_pos (by assumption), if_neg (by omega), if_neg (by omega)]; rfl)
       | (rw [if_neg (by assumption), if_neg (by assumption), if_neg (by assumption), if_neg (by assumption)]; rfl)
    ·iterate 7 refine AX ?_
     refine .cl rfl Tryz.call191 (evs2 rfl rfl) (bdB a b ha hb _) ?_
     iterate 4 refine AX ?_
     refine Ret.go (.cons (.tmp _ _ rfl) .nil) _ (Heap.le.refl _) ?_
     refine ⟨?_, rfl⟩
     unfold afJ
     first
     | (rw [if_pos (by assumption)]; rfl)
     | (rw [if_neg (by assumption), if_pos (by assumption)]; rfl)
     | (rw [if_neg (by assumption), if_neg (by assumption), if_pos (by assumption)]; rfl)
     | (rw [if_neg (by assumption), if_neg (by assumption), if_neg (by assumption), if_pos (by assumption), if_pos (by omega)]; rfl)
     | (rw [if_neg (by assumption), if_neg (by assumption), if_neg (by assumption), if_pos (by assumption), if_neg (by omega), if_pos (by omega)]; rfl)
     | (rw [if_neg (by assumption), if_neg (by assumption), if_neg (by assumption), if_pos (by assumption), if_neg (by omega), if_neg (by omega)]; rfl)
     | (rw [if_neg (by assumption), if_neg (by assumption), if_neg (by assumption), if_neg (by assumption)]; rfl)

theorem aqU {x : Nat} (h : x < 2 ^ 63) : x ^^^ 2 ^ 63 = 2 ^ 63 + x := by
 apply Nat.eq_of_testBit_eq
 intro i
 rw [Nat.testBit_xor, Nat.testBit_two_pow]
 rcases Nat.lt_trichotomy i 63 with hi | rfl | hi
 ·rw [Nat.testBit_two_pow_add_gt hi, decide_eq_false (by omega), Bool.xor_false]
 ·rw [Nat.testBit_two_pow_add_eq, decide_eq_true rfl, Bool.xor_true]
 ·have h2 : 2 ^ 63 + x < 2 ^ i := by
   have : 2 ^ 64 ≤ 2 ^ i := Nat.pow_le_pow_right (by decide) hi
   have e : (2 : Nat) ^ 64 = 2 ^ 63 + 2 ^ 63 := by decide
   omega
  rw [Nat.testBit_lt_two_pow h2, Nat.testBit_lt_two_pow (show x < 2 ^ i by omega), decide_eq_false (by omega)]; rfl
theorem awQ {x : Nat} (h : x < 18446744073709551616) : x ^^^ 9223372036854775808 = if 9223372036854775808 ≤ x then x - 9223372036854775808 else x + 9223372036854775808 := by
 have e : (9223372036854775808 : Nat) = 2 ^ 63 := by decide
 split
 ·rename_i q
  obtain ⟨y, rfl⟩ : ∃ y, x = 9223372036854775808 + y := ⟨x - 9223372036854775808, by omega⟩
  have hy : y < 2 ^ 63 := by rw [← e]; omega
  rw [Nat.add_sub_cancel_left, e, ← aqU hy, Nat.xor_assoc, Nat.xor_self, Nat.xor_zero]
 ·rename_i q
  rw [e, aqU (by rw [← e]; omega), Nat.add_comm]
theorem ayI {a : Nat} (h : a < 18446744073709551616) : a - (a &&& 9223372036854775808) = a % 9223372036854775808 := by
 have e : a &&& 9223372036854775808 = if a.testBit 63 then 9223372036854775808 else 0 := by
  apply Nat.eq_of_testBit_eq
  intro i
  rw [Nat.testBit_and, show (9223372036854775808 : Nat) = 2 ^ 63 by decide, Nat.testBit_two_pow]
  by_cases hi : 63 = i
  ·subst hi
   cases a.testBit 63
   ·simp
   ·simp only [decide_true, Bool.and_self, if_true]; rw [Nat.testBit_two_pow]; simp
  ·cases a.testBit 63
   ·simp [hi]
   ·simp only [hi, decide_false, Bool.and_false, if_true]; rw [Nat.testBit_two_pow]; simp [hi]
 rw [e, Nat.testBit_eq_decide_div_mod_eq]
 have h2 : (2 : Nat) ^ 63 = 9223372036854775808 := by decide
 rw [h2]
 split <;> simp_all <;> omega
def absN (x : Nat) : Nat := if zY x = 4 then nanN else x % 9223372036854775808
set_option maxRecDepth 100000 in
theorem aoK (a : Nat) (ha : a < 18446744073709551616) (H : Heap) : ACall Tryz.prog 56 [.int .u64 (a : Int)] H (fun y H' => y = .int .u64 ((amV a : Nat) : Int) ∧ H' = H) := by
 refine ACall.of_body Tryz.func56 rfl Tryz.ntmps56 Tryz.results56 rfl ?_
 iterate 2 refine AX ?_
 refine .p rfl (zD (zE 0)) ?_
 iterate 6 refine AX ?_
 refine .cl rfl Tryz.call89 (evs1 rfl) (qC _ (by assumption) _) ?_
 iterate 3 refine AX ?_
 refine AWP.cx rfl (fun hc5 => ?_) (fun hc5 => ?_)
 ·iterate 2 refine AX ?_
  refine .p rfl (zD (zE 9221120237041090560)) ?_
  iterate 4 refine AX ?_
  refine Ret.go (.cons (.tmp _ _ rfl) .nil) _ (Heap.le.refl _) ?_
  refine ⟨?_, rfl⟩
  unfold amV
  first
  | (rw [if_pos (by omega)]; rfl)
  | (rw [if_neg (by omega), ← awQ ha]; rfl)
 ·iterate 5 refine AX ?_
  refine .p rfl (azO (tm rfl) (zE 9223372036854775808) (by assumption) (by omega)) ?_
  iterate 4 refine AX ?_
  refine Ret.go (.cons (.tmp _ _ rfl) .nil) _ (Heap.le.refl _) ?_
  refine ⟨?_, rfl⟩
  unfold amV
  first
  | (rw [if_pos (by omega)]; rfl)
  | (rw [if_neg (by omega), ← awQ ha]; rfl)

set_option maxRecDepth 100000 in
theorem bbA (a : Nat) (ha : a < 18446744073709551616) (H : Heap) : ACall Tryz.prog 228 [.int .u64 (a : Int)] H (fun y H' => y = .int .u64 ((absN a : Nat) : Int) ∧ H' = H) := by
 refine ACall.of_body Tryz.func228 rfl Tryz.ntmps228 Tryz.results228 rfl ?_
 iterate 2 refine AX ?_
 refine .p rfl (zD (zE 0)) ?_
 iterate 6 refine AX ?_
 refine .cl rfl Tryz.call89 (evs1 rfl) (qC _ (by assumption) _) ?_
 iterate 3 refine AX ?_
 refine AWP.cx rfl (fun hc5 => ?_) (fun hc5 => ?_)
 ·iterate 2 refine AX ?_
  refine .p rfl (zD (zE 9221120237041090560)) ?_
  iterate 4 refine AX ?_
  refine Ret.go (.cons (.tmp _ _ rfl) .nil) _ (Heap.le.refl _) ?_
  refine ⟨?_, rfl⟩
  unfold absN
  first
  | (rw [if_pos (by omega)]; rfl)
  | (rw [if_neg (by omega), ← ayI ha]; rfl)
 ·iterate 5 refine AX ?_
  refine .p rfl (apN (tm rfl) (zE 9223372036854775808) (by assumption) (by omega)) ?_
  iterate 4 refine AX ?_
  refine Ret.go (.cons (.tmp _ _ rfl) .nil) _ (Heap.le.refl _) ?_
  refine ⟨?_, rfl⟩
  unfold absN
  first
  | (rw [if_pos (by omega)]; rfl)
  | (rw [if_neg (by omega), ← ayI ha]; rfl)
end Go.Proofs.YtmmgbnolccpjoaaGreatDoor
