import Derived.Test.YtmmgbnolccpjoaaGreatDoorV1
import Derived.Test.YtmmgbnolccpjoaaGreatDoorQ3
namespace Go.Proofs.YtmmgbnolccpjoaaGreatDoor
open Go Go.RowKit

variable {r x : Nat}
def addsT (p q : Nat) : Int := (([[4, 0, 3, 1], [0, 0, 3, 1], [2, 2, 4, 1], [1, 1, 1, 1]] : List (List Int)).getD p []).getD q 0
def sumP (na : Bool) (ma : Nat) (ea : Int) (nb : Bool) (mb : Nat) (eb : Int) : Nat :=
 let up := (min (ea - eb) 64).toNat
 let x := ma * 2 ^ up
 let e := ea - up
 let j := (e - eb).toNat
 let y := mb / 2 ^ j
 let more := decide (mb % 2 ^ j ≠ 0)
 if na = nb then yB na (x + y) e more
 else
  let z := if more = true then y + 1 else y
  if x < z then yB nb (z - x) e false else if x - z = 0 ∧ more = false then 0 else yB na (x - z) e more
def IsRoot (n r : Nat) : Prop := r * r ≤ n ∧ n < (r + 1) * (r + 1)
def nanN : Nat := 9221120237041090560
def addK (a b : Nat) : Int := addsT (aiJ (yD a)) (aiJ (yD b))
def atP (a b : Nat) : Nat := if qF a < qF b then sumP (alR b) (qI b) (qF b) (alR a) (qI a) (qF a) else sumP (alR a) (qI a) (qF a) (alR b) (qI b) (qF b)
def ahQ (a b : Nat) : Nat :=
 if addK a b = 1 then nanN else if addK a b = 2 then a else if addK a b = 3 then b
 else if addK a b = 4 then (if a = b then a else if yD a = 3 then nanN else 0)
 else atP a b
def acD (x : Nat) : Nat := qI x * 2 ^ (53 - yJ (qI x))
def aiN (x : Nat) : Int := qF x - ((53 - yJ (qI x) : Nat) : Int)
def adV (a b : Nat) : Prop := yD a = 4 ∨ yD b = 4 ∨ (yD a = 3 ∧ yD b = 3) ∨ (yD a = 0 ∧ yD b = 0)
instance (a b : Nat) : Decidable (adV a b) := by unfold adV; exact inferInstance
def aoV (a b : Nat) : Nat :=
 if adV a b then nanN
 else if yD a = 3 ∨ yD b = 0 then aaH (ajS a b) + akT
 else if yD a = 0 ∨ yD b = 3 then aaH (ajS a b)
 else yB (ajS a b) (acD a * 2 ^ 64 / acD b) (aiN a - aiN b - 64) (decide (acD a * 2 ^ 64 % acD b ≠ 0))
def adU (n : Nat) : Nat → Nat → Nat
 | 0, r => r
 | k + 1, r => if (r + 2 ^ k) * (r + 2 ^ k) ≤ n then adU n k (r + 2 ^ k) else adU n k r
theorem anL {n : Nat} : ∀ (k r : Nat), r * r ≤ n → n < (r + 2 ^ k) * (r + 2 ^ k) → IsRoot n (adU n k r)
 | 0, r, h1, h2 => ⟨h1, by rw [dC] at h2; exact h2⟩
 | k + 1, r, h1, h2 => by
  have e : 2 ^ (k + 1) = 2 ^ k + 2 ^ k := by rw [bO]; omega
  rw [e] at h2
  rw [adU]
  split
  ·rename_i h
   exact anL k _ h (by rw [dY]; exact h2)
  rename_i h
  exact anL k r h1 (by omega)
theorem rootS_64 {n : Nat} (h : n < 2 ^ 128) : IsRoot n (adU n 64 0) := anL 64 0 (Nat.zero_le _) (by rw [bW, ← bB]; exact h)
def aiT (x : Nat) : Nat := if (aiN x - 74) % 2 ≠ 0 then 73 else 74
def aiS (x : Nat) : Nat := acD x * 2 ^ aiT x
def aoR (a : Nat) : Nat :=
 if yD a = 4 ∨ 9223372036854775808 < a then nanN
 else if yD a = 0 ∨ yD a = 3 then a
 else yB false (adU (aiS a) 64 0) ((aiN a - aiT a) / 2) (decide (adU (aiS a) 64 0 * adU (aiS a) 64 0 ≠ aiS a))
def oneN : Nat := 4607182418800017408
def bfI (a u L : Nat) : Nat → Nat
 | 0 => oneN
 | i + 1 => if u / 2 ^ (L - 1 - i) % 2 = 1 then aeA (aeA (bfI a u L i) (bfI a u L i)) a else aeA (bfI a u L i) (bfI a u L i)
def baD (a : Nat) (n : Int) : Nat :=
 if yD a = 4 then nanN else if n < 0 then aoV oneN (bfI a n.natAbs (yJ n.natAbs) (yJ n.natAbs)) else bfI a n.natAbs (yJ n.natAbs) (yJ n.natAbs)
def aoG (x : Nat) : Int := if 9223372036854775808 ≤ x then -(((if yD x = 4 then nanN else x % 9223372036854775808 : Nat) : Nat) : Int) else (x : Int)
def baG (a b : Nat) : Int := if yD a = 4 ∨ yD b = 4 then 0 else if aoG a < aoG b then -1 else if aoG b < aoG a then 1 else 0
def aoS (x : Nat) : Int := baG x 0
def apY (x : Nat) : Nat := if yD x = 4 then nanN else if 9223372036854775808 ≤ x then x - 9223372036854775808 else x + 9223372036854775808
def toN (x : Nat) : Int × Int :=
 if 3 ≤ yD x then (0, 11)
 else
  let n := if qF x < 0 then qI x / 2 ^ (-qF x).toNat else qI x * 2 ^ (qF x).toNat
  if 0 ≤ qF x ∧ 11 < qF x then (0, 6)
  else if alR x = true then (if n ≤ 9223372036854775808 then (-(n : Int), 0) else (0, 6)) else (if n < 9223372036854775808 then ((n : Int), 0) else (0, 6))
def isN (x : Nat) : Bool := decide (yD x < 3) && (decide (0 ≤ qF x) || decide (qI x % 2 ^ (-qF x).toNat = 0))
section
open Go Go.RowKit
set_option maxRecDepth 100000

theorem div2 {a b : Nat} (hb : 0 < b) (hb2 : b ≤ M1) : w2 (a / M1 / b) ((a / M1 % b * 18446744073709551616 + a % M1) / b) = u2 (a / b) ∧ (a / M1 % b * 18446744073709551616 + a % M1) % b = a % b := by
 obtain ⟨e1, e2⟩ := bdC (B := M1) (Y := b) (a := a / M1) (u0 := a % M1) hb
 have e3 : a / M1 * M1 + a % M1 = a := by rw [bD]; exact cD a M1
 rw [e3] at e1 e2
 have hlt : (a / M1 % b * M1 + a % M1) / b < M1 := by
  rw [bJ hb]
  have h1 := aV M1 (Nat.succ_le_of_lt (bQ (a / M1) hb))
  have h2 := aeV a
  rw [Nat.succ_mul, bD b] at h1
  omega
 have e4 : M1 = 18446744073709551616 := rfl
 rw [← e4, e2, e1]
 refine ⟨?_, rfl⟩
 unfold u2
 generalize (a / M1 % b * M1 + a % M1) / b = z at *
 rw [eL (_ * M1), Nat.add_mul_div_right _ _ (by decide), Nat.add_mul_mod_self_right, bX hlt, aW hlt, bW]


theorem bdT (a b : Nat) (ha : a < M2) (hb : 0 < b) (hb2 : b < 18446744073709551616) (H : Heap) : ACall Tryz.prog 121 [u2 a, .int .u64 (b : Int)] H (fun y H' => y = .tuple [u2 (a / b), .int .u64 ((a % b : Nat) : Int), .int .i64 0] ∧ H' = H) := by
 have ha1 := bgF ha
 have ha2 := aeV a
 obtain ⟨e1, e2⟩ := div2 (a := a) hb (dG hb2)
 refine ACall.of_body Tryz.func121 rfl Tryz.ntmps121 Tryz.results121 rfl ?_
 refine .sr (.e rfl (zZ (tm rfl) (.inr ⟨_, rfl⟩)) ?_)
 refine .al zr149 (fun b4 hb4 => ?_)
 refine .p rfl (zA (zI 0)) (.p rfl (zA zE) (.ng (.seq (.sr (.mv rfl rfl (.p rfl (zR (tm rfl) (zI 0)) (.ng ?_)))))))
 refine AWP.cond_false (tm rfl) (by exact bG (by omega)) ?_
 refine .skip ?_
 refine Next.go ?_
 refine .seq ?_
 refine AWP.draw [(0, true), (1, true), (2, true), (3, true), (4, true), (5, true), (6, true), (7, true), (8, true), (9, true)] rfl (by decide +kernel) ?_
 refine .p rfl rfl (zD U149 rfl Z22 (tm rfl)) (.p rfl rfl (zH G22 (tm rfl)) (.p rfl rfl (zJ (tm rfl)) (.p rfl rfl (adE (tm rfl) (tm rfl) (by assumption) (by assumption)) (.p rfl rfl (zD U149 rfl Z22 (tm rfl)) (.p rfl rfl (zH G22 (tm rfl)) (.p rfl rfl (zJ (tm rfl)) (.p rfl rfl (qY (tm rfl) (tm rfl) (by assumption)) (.p rfl rfl (zA (tm rfl)) ?_))))))))
 refine .p rfl rfl (zA (tm rfl)) (.nil ?_)
 refine Next.go ?_
 refine .sr (.mv rfl rfl (.p rfl (zD U149 rfl Z22 (tm rfl)) (.p rfl (zH G22 (tm rfl)) (.mv rfl rfl (.cl rfl Tryz.call183 (evs3 rfl rfl rfl) (bbC (a / M1 % b) (a % M1) b (bQ _ hb) ha2 hb2 _) (.mv rfl rfl (.p rfl (zB (tm rfl) rfl) (.p rfl (zB (tm rfl) rfl) ?_))))))))
 refine .as rfl rfl (.as rfl rfl (.nr (.mv rfl rfl (.mv rfl rfl (.p rfl (yK zr149 pl149 (.cons (tm rfl) (.inl rfl) (.cons (tm rfl) (.inl rfl) .nil)) rfl) (.mv rfl rfl (.e0 (zG Z149 (tm rfl) (tm rfl) rfl rfl (.inr ⟨_, rfl⟩) (oS _ _ _) (lB rfl)) ?_)))))))
 try first | rw [sS] | rw [sU (by assumption)]
 refine .as rfl rfl (.p rfl (zA zE) (.ng ?_))
 refine AWP.frz (t := 4) rfl (hb4) ?_
 refine .ret ?_
 refine Ret.go (.cons (.cellI _ _ _ _ rfl G149 Z149 rfl) (.cons (.tmp _ _ rfl) (.cons (.tmp _ _ rfl) .nil))) _ (hRa _) ?_
 refine ⟨?_, rfl⟩
 rw [← e1, ← e2]
 rfl

theorem root_go {v i : Nat} (h : (r + 2 ^ i) * (r + 2 ^ i) ≤ v) : adU v (i + 1) r = adU v i (r + 2 ^ i) := by rw [adU, aO h]
theorem root_no {v i : Nat} (h : ¬ (r + 2 ^ i) * (r + 2 ^ i) ≤ v) : adU v (i + 1) r = adU v i r := by rw [adU, aN h]
theorem half_pow (i : Nat) : 2 ^ (i + 1) / 2 = 2 ^ i := by rw [bO, fC _ (by decide)]
theorem root_mod {i : Nat} (h : r % 2 ^ (i + 1) = 0) : r % 2 ^ i = 0 ∧ (r + 2 ^ i) % 2 ^ i = 0 := by
 obtain ⟨c, rfl⟩ := Nat.dvd_of_mod_eq_zero h
 have e : 2 ^ (i + 1) * c = 2 ^ i * (2 * c) := by rw [bO, bC]
 rw [e]
 exact ⟨Nat.mul_mod_right _ _, by rw [fQ]; exact Nat.mod_self _⟩
theorem bjI {i : Nat} (hi : i < 64) (h : r % 2 ^ (i + 1) = 0) (hr : r < M1) : r + 2 ^ i < 18446744073709551616 := by
 obtain ⟨c, rfl⟩ := Nat.dvd_of_mod_eq_zero h
 have e : M1 = 2 ^ (i + 1) * 2 ^ (63 - i) := by rw [aeZ, ← bB, show i + 1 + (63 - i) = 64 by omega]
 rw [e] at hr
 have h1 : c < 2 ^ (63 - i) := Nat.lt_of_mul_lt_mul_left hr
 have h2 := bT (2 ^ (i + 1)) (Nat.succ_le_of_lt h1)
 rw [← e, Nat.mul_succ] at h2
 have h3 : 2 ^ i < 2 ^ (i + 1) := dI (by decide) (fW i)
 have h4 : M1 = 18446744073709551616 := rfl
 omega
theorem azF {i : Nat} (h : i ≤ 64) : 2 ^ i / 2 < 18446744073709551616 := by
 have : 2 ^ i ≤ 2 ^ 64 := aT (by decide) h
 have e : (2 : Nat) ^ 64 = 18446744073709551616 := by decide
 omega
theorem cmp_le {a b : Nat} : ((if a = b then 0 else if a < b then -1 else 1 : Int) ≤ 0) ↔ a ≤ b := by
 split
 ·omega
 split <;> omega

def bjJ (v : Nat) (H : Heap) : Nat → Env → Heap → Prop := fun k env H1 => ∃ i r : Nat, i ≤ 64 ∧ r % 2 ^ i = 0 ∧ r < M1 ∧ adU v i r = adU v 64 0 ∧ env = [(1, .iptr (u2 v).cells), (2, .int .u64 ((0 : Nat) : Int)), (3, .bool false), (4, .int .u64 (r : Int)), (5, .int .u64 ((2 ^ i / 2 : Nat) : Int))] ∧ H = H1 ∧ k = i

theorem wMulS (x : Nat) (hx : x < 18446744073709551616) (H : Heap) : ACall Tryz.prog 193 [.int .u64 (x : Int), .int .u64 (x : Int)] H (fun z H' => z = u2 (x * x) ∧ H' = H) := wMul2 x x hx hx H

theorem axP (v : Nat) (hv : v < M2) (H : Heap) : ACall Tryz.prog 197 [u2 v] H (fun y H' => y = .tuple [.int .u64 ((adU v 64 0 : Nat) : Int), .bool (decide (adU v 64 0 * adU v 64 0 = v))] ∧ H' = H) := by
 refine ACall.of_body Tryz.func197 rfl Tryz.ntmps197 Tryz.results197 rfl ?_
 refine .sr (.e rfl (zZ (tm rfl) (.inr ⟨_, rfl⟩)) (.p rfl (zA (zI 0)) (.p rfl (zA zM) (.nr (.p rfl (zA (zI 0)) (.ng (.seq (.sr ?_))))))))
 refine .p rfl (zA (zI 9223372036854775808)) (.ng (.block ?_))
 refine AWP.loopW (bjJ v H) (64) ⟨64, 0, aX _, Nat.zero_mod _, by decide, rfl, rfl, rfl, rfl⟩ (zC rfl (zC rfl (zC rfl (zC rfl (zC rfl zU))))) (hRa _) ?_
 rintro _ _ _ ⟨i, r, hi, hm, hr, hroot, rfl, rfl, hk⟩
 have hpp := azF hi
 refine .seq (.sr (.mv rfl rfl (.p rfl (yC (tm rfl) (zI 0)) (.ng ?_))))
 refine AWP.cond (tm rfl) (fun hc8 => ?_) (fun hc8 => ?_)
 ·try simp only [aM] at hc8
  have hi0 : i ≠ 0 := by rintro rfl; exact absurd hc8 (by decide)
  obtain ⟨j, rfl⟩ : ∃ j, i = j + 1 := ⟨i - 1, by omega⟩
  rw [half_pow]
  have hor := or_two hm
  have hroom := bjI (by omega) hm hr
  obtain ⟨hm1, hm2⟩ := root_mod hm
  have hpl : 2 ^ j < 18446744073709551616 := by omega
  refine .skip ?_
  refine Next.go ?_
  refine .seq (.block (.sr (.mv rfl rfl (.mv rfl rfl (.p rfl (abC (tm rfl) (tm rfl) (hr) (hpl)) (.as rfl rfl (.ng (.seq ?_))))))))
  rw [hor]
  refine AWP.draw [(0, true), (1, true), (3, true), (2, false), (4, false), (5, true)] rfl (by decide +kernel) ?_
  refine .p rfl rfl (zJ (tm rfl)) (.p rfl rfl (zJ (tm rfl)) (.p rfl rfl (zQ G149 Z149 (tm rfl) (lB rfl)) (.s rfl rfl (zF C193 (evs2 rfl rfl) (wMulS _ hroom _)) ?_)))
  rintro _ _ ⟨rfl, hH⟩
  obtain rfl := hH.symm
  refine .s rfl rfl (zF Tryz.call251 (evs2 rfl rfl) (bdU ((r + 2 ^ j) * (r + 2 ^ j)) v _)) ?_
  rintro _ _ ⟨rfl, hH⟩
  obtain rfl := hH.symm
  refine .p rfl rfl (abJ (tm rfl) zE) (.nil ?_)
  refine Next.go ?_
  refine AWP.cond (tm rfl) (fun hc19 => ?_) (fun hc19 => ?_)
  ·try simp only [aM] at hc19
   have hle := cmp_le.1 hc19
   have hst := root_go hle
   refine .region (.mv rfl rfl (.as rfl rfl (.nil ?_)))
   refine Block.go ?_
   refine Next.go ?_
   refine .region (.mv rfl rfl (.p rfl (yF (tm rfl) (zI 1) (by omega)) (.as rfl rfl (.ng ?_))))
   refine Round.mk (J := bjJ v H) ⟨j, r + 2 ^ j, by omega, hm2, hroom, by rw [← hst]; exact hroot, rfl, rfl, rfl⟩ (zC rfl (zC rfl (zC rfl (zC rfl (zX rfl (by rw [Nat.pow_one]) zU))))) (hRa _) (by omega)
  try simp only [aL, cA] at hc19
  have hle : ¬ (r + 2 ^ j) * (r + 2 ^ j) ≤ v := fun h => by have := cmp_le.2 h; omega
  have hst := root_no hle
  refine .skip ?_
  refine Block.go ?_
  refine Next.go ?_
  refine .region (.mv rfl rfl (.p rfl (yF (tm rfl) (zI 1) (by omega)) (.as rfl rfl (.ng ?_))))
  refine Round.mk (J := bjJ v H) ⟨j, r, by omega, hm1, hr, by rw [← hst]; exact hroot, rfl, rfl, rfl⟩ (zC rfl (zC rfl (zC rfl (zC rfl (zX rfl (by rw [Nat.pow_one]) zU))))) (hRa _) (by omega)
 try simp only [aL, bN] at hc8
 have hi0 : i = 0 := by
  rcases aY i with h | h
  ·exact h
  have h2 : 2 ≤ 2 ^ i := aZ (by decide) (aT (by decide) h)
  omega
 subst hi0
 have hr64 : r < 18446744073709551616 := hr
 have hrr : adU v 64 0 = r := by rw [← hroot]; rfl
 refine .exit ?_
 refine Next.ex ?_
 refine Next.ex ?_
 refine Block.hit ?_
 refine Next.go ?_
 refine .seq ?_
 refine AWP.draw [(0, true), (1, true), (2, true), (4, true), (3, false), (5, true), (6, true), (7, true)] rfl (by decide +kernel) ?_
 refine .p rfl rfl (zJ (tm rfl)) (.p rfl rfl (zJ (tm rfl)) (.p rfl rfl (zJ (tm rfl)) (.p rfl rfl (zQ G149 Z149 (tm rfl) (lB rfl)) (.s rfl rfl (zF C193 (evs2 rfl rfl) (wMulS _ hr64 _)) ?_))))
 rintro _ _ ⟨rfl, hH⟩
 obtain rfl := hH.symm
 refine .p rfl rfl (aaC Tryz.eqGuardType149 (tm rfl) (tm rfl) (eq2 _ _ _ _)) ?_
 refine .p rfl rfl (zA (tm rfl)) (.p rfl rfl (zA (tm rfl)) (.nil ?_))
 refine Next.go ?_
 refine .ret ?_
 refine Ret.go (.cons (.tmp _ _ rfl) (.cons (.tmp _ _ rfl) .nil)) _ (hRa _) ?_
 refine ⟨?_, rfl⟩
 rw [hrr]
 simp only [yI]
 congr 3
 exact congrArg AV.bool (bA.2 baM)

end
theorem sumP_lt (na : Bool) (ma : Nat) (ea : Int) (nb : Bool) (mb : Nat) (eb : Int) : sumP na ma ea nb mb eb < 18446744073709551616 := by
 unfold sumP
 simp only
 generalize (if decide (mb % 2 ^ _ ≠ 0) = true then _ else _ : Nat) = z
 split
 ·exact adN _ _ _ _
 split
 ·exact adN _ _ _ _
 split
 ·decide
 exact adN _ _ _ _
theorem fsum_lt (a b : Nat) : atP a b < 18446744073709551616 := by
 unfold atP; split <;> exact sumP_lt _ _ _ _ _ _
theorem bmD {a b : Nat} (ha : a < 18446744073709551616) (hb : b < 18446744073709551616) : ahQ a b < 18446744073709551616 := by
 unfold ahQ
 split
 ·decide
 split
 ·exact ha
 split
 ·exact hb
 split
 ·split
  ·exact ha
  split <;> decide
 exact fsum_lt a b
theorem bbR (neg : Bool) : aaH neg + akT < 18446744073709551616 ∧ aaH neg < 18446744073709551616 := by cases neg <;> decide
theorem baF (a b : Nat) : aoV a b < 18446744073709551616 := by
 unfold aoV
 split
 ·decide
 split
 ·exact (bbR _).1
 split
 ·exact (bbR _).2
 exact adN _ _ _ _
theorem fsqrt_lt {a : Nat} (ha : a < 18446744073709551616) : aoR a < 18446744073709551616 := by
 unfold aoR
 split
 ·decide
 split
 ·exact ha
 exact adN _ _ _ _
theorem azH (a u L : Nat) : ∀ i, bfI a u L i < 18446744073709551616
 | 0 => show (4607182418800017408 : Nat) < 18446744073709551616 by decide
 | i + 1 => by
  unfold bfI
  split <;> exact amM _ _
theorem fpow_lt (a : Nat) (n : Int) : baD a n < 18446744073709551616 := by
 unfold baD
 split
 ·decide
 split
 ·exact baF _ _
 exact azH _ _ _ _
theorem baE {a : Nat} (ha : a < 18446744073709551616) : apY a < 18446744073709551616 := by
 unfold apY
 split
 ·decide
 split <;> omega
section
open Go Go.RowKit
set_option maxRecDepth 100000

theorem adds_tab {p q : Nat} (hp : p < 4) (hq : q < 4) : ((([.int .i64 4, .int .i64 0, .int .i64 3, .int .i64 1, .int .i64 0, .int .i64 0, .int .i64 3, .int .i64 1, .int .i64 2, .int .i64 2, .int .i64 4, .int .i64 1, .int .i64 1, .int .i64 1, .int .i64 1, .int .i64 1] : List AV).drop (((p : Nat) : Int).toNat * 4)).drop (((q : Nat) : Int).toNat * 1))[0]? = some (.int .i64 (addsT p q)) := by
 rcases (by omega : p = 0 ∨ p = 1 ∨ p = 2 ∨ p = 3) with rfl | rfl | rfl | rfl <;> rcases (by omega : q = 0 ∨ q = 1 ∨ q = 2 ∨ q = 3) with rfl | rfl | rfl | rfl <;> rfl
def auP (y : Nat) (more : Bool) : Nat := if more = true then y + 1 else y
def sumQ (na nb : Bool) (x y : Nat) (e : Int) (more : Bool) : Nat :=
 if na = nb then yB na (x + y) e more
 else if x < auP y more then yB nb (auP y more - x) e false else if x - auP y more = 0 ∧ more = false then 0 else yB na (x - auP y more) e more
theorem sumP_at {na nb : Bool} {ma mb : Nat} {ea eb : Int} {up j : Nat} (hup : up = (min (ea - eb) 64).toNat) (hj : j = (ea - up - eb).toNat) : sumP na ma ea nb mb eb = sumQ na nb (ma * 2 ^ up) (mb / 2 ^ j) (ea - up) (decide (mb % 2 ^ j ≠ 0)) := by
 subst hup; subst hj; rfl
theorem shl_room {m n : Nat} (hm : m < 9007199254740992) (hn : n ≤ 64) : m * 2 ^ n < 166153499473114484112975882535043072 := by
 have h1 : 2 ^ n ≤ 2 ^ 64 := aT (by decide) hn
 have h2 : m * 2 ^ n ≤ 9007199254740991 * 2 ^ 64 := dZ (by omega) h1
 exact aR h2 (by decide)
theorem acZ : M2 = 340282366920938463463374607431768211456 := rfl
theorem wShlU (v : Nat) (n : Nat) (hn : n < 128) (q : Int) (hq : q = (n : Int)) (H : Heap) : ACall Tryz.prog 187 [u2 v, .int .i64 q] H (fun y H' => y = u2 (v * 2 ^ n % M2) ∧ H' = H) := by
 by_cases h : n < 64
 ·exact afR v n h q hq H
 exact axO v n ⟨by omega, hn⟩ q hq H
theorem asH {a b : Nat} (ha : a < M2) (h : b ≤ a) : (a + M2 - b) % M2 = a - b := by unfold M2 at *; omega
theorem bbM {z : Nat} (hx : x < M2) (h : ¬ x < z) : (decide (((((x + M2 - z) % M2 / M1 : Nat)) : Int) = 0 ∧ ((((x + M2 - z) % M2 % M1 : Nat)) : Int) = 0)) = decide (x - z = 0) := by
 rw [asH hx (by omega)]
 refine bA.2 ?_
 unfold M1; omega

theorem bhN (a b : Nat) (ha : a < 18446744073709551616) (hb : b < 18446744073709551616) (H : Heap) : ACall Tryz.prog 190 [.int .u64 (a : Int), .int .u64 (b : Int)] H (fun y H' => y = .int .i64 (addK a b) ∧ H' = H) := by
 have hka := amI (yD a)
 have hkb := amI (yD b)
 refine ACall.of_body Tryz.func190 rfl Tryz.ntmps190 Tryz.results190 rfl ?_
 refine .sr (.p rfl (zA zE) (.nr (.p rfl (acU U251 Z3 zr251 (.cons zE (.inl rfl) (.cons zE (.inl rfl) (.cons zE (.inl rfl) (.cons zE (.inl rfl) .nil)))) rfl) (.p rfl (acU U251 Z3 zr251 (.cons zE (.inl rfl) (.cons zE (.inl rfl) (.cons zE (.inl rfl) (.cons zE (.inl rfl) .nil)))) rfl) (.p rfl (acU U251 Z3 zr251 (.cons zE (.inl rfl) (.cons zE (.inl rfl) (.cons zE (.inl rfl) (.cons zE (.inl rfl) .nil)))) rfl) (.p rfl (acU U251 Z3 zr251 (.cons zE (.inl rfl) (.cons zE (.inl rfl) (.cons zE (.inl rfl) (.cons zE (.inl rfl) .nil)))) rfl) (.p rfl (acU U252 Z251 zr252 (.cons (tm rfl) (.inr ⟨_, rfl⟩) (.cons (tm rfl) (.inr ⟨_, rfl⟩) (.cons (tm rfl) (.inr ⟨_, rfl⟩) (.cons (tm rfl) (.inr ⟨_, rfl⟩) .nil)))) rfl) ?_)))))))
 refine .al zr252 (fun b5 hb5 => ?_)
 refine .e0 (zG Z252 (tm rfl) (tm rfl) rfl rfl (.inr ⟨_, rfl⟩) (oS _ _ _) (lB rfl)) ?_
 try first | rw [sS] | rw [sU (by assumption)]
 refine .ng ?_
 refine AWP.frz (t := 5) rfl (hb5) ?_
 refine .seq ?_
 refine AWP.draw [(0, true), (1, true), (2, true), (3, true), (4, true), (5, true), (6, true), (7, true)] rfl (by decide +kernel) ?_
 refine .p rfl rfl (zJ (tm rfl)) ?_
 refine APlan.f rfl rfl (fun _ => zF C242 (evs1 rfl) (agW _ (by assumption) _)) ?_
 refine .p rfl rfl (zJ (tm rfl)) ?_
 refine APlan.f rfl rfl (fun _ => zF C242 (evs1 rfl) (agW _ (by assumption) _)) ?_
 refine .p rfl rfl (aeT U252 Z251 (tm rfl) (tm rfl) (by omega) (by omega)) (.p rfl rfl (aeT U251 Z3 (tm rfl) (tm rfl) (by omega) (by omega)) (.p rfl rfl (arB G3 (tm rfl) (adds_tab hka hkb)) (.p rfl rfl (zA (tm rfl)) (.nil ?_))))
 refine Next.go ?_
 refine .ret ?_
 refine Ret.go (.cons (.tmp _ _ rfl) .nil) _ (hRa _) ?_
 exact ⟨rfl, rfl⟩

theorem biQ (a b : Nat) (ha : a < 18446744073709551616) (hb : b < 18446744073709551616) (H : Heap) : ACall Tryz.prog 191 [.int .u64 (a : Int), .int .u64 (b : Int)] H (fun y H' => y = .int .u64 ((atP a b : Nat) : Int) ∧ H' = H) := by
 have hpa := aaS a
 have hpb := aaS b
 have hma := acB a
 have hmb := acB b
 refine ACall.of_body Tryz.func191 rfl Tryz.ntmps191 Tryz.results191 rfl ?_
 refine .sr (.p rfl (zA (zI 0)) (.nr (.mv rfl rfl (.cl rfl C181 (evs1 rfl) (abY a ha _) (.mv rfl rfl (.p rfl (zB (tm rfl) rfl) (.p rfl (zB (tm rfl) rfl) (.p rfl (zB (tm rfl) rfl) ?_))))))))
 refine .as rfl rfl (.as rfl rfl (.as rfl rfl (.nr (.mv rfl rfl (.cl rfl C181 (evs1 rfl) (abY b hb _) (.mv rfl rfl (.p rfl (zB (tm rfl) rfl) (.p rfl (zB (tm rfl) rfl) ?_))))))))
 refine .p rfl (zB (tm rfl) rfl) (.as rfl rfl (.as rfl rfl (.as rfl rfl (.ng ?_))))
 refine AWP.meet (fun env H2 => ∃ (na nb : Bool) (ma mb : Nat) (ea eb : Int), eb ≤ ea ∧ ma < 9007199254740992 ∧ mb < 9007199254740992 ∧ (-1075 ≤ eb ∧ ea ≤ 972) ∧ sumP na ma ea nb mb eb = atP a b ∧ env = [(4, .int .u64 ((0 : Nat) : Int)), (5, .bool na), (6, .int .u64 (ma : Int)), (7, .int .i64 ea), (8, .bool nb), (9, .int .u64 (mb : Int)), (10, .int .i64 eb)] ∧ H = H2) ?_ ?_
 ·refine .sr (.mv rfl rfl (.mv rfl rfl (.p rfl (yN (tm rfl) (tm rfl)) (.ng ?_))))
  refine AWP.cond (tm rfl) (fun hc34 => ?_) (fun hc34 => ?_)
  ·try simp only [aM] at hc34
   refine .region (.mv rfl rfl (.mv rfl rfl (.mv rfl rfl (.mv rfl rfl (.mv rfl rfl (.mv rfl rfl (.as rfl rfl (.as rfl rfl ?_))))))))
   refine .as rfl rfl (.as rfl rfl (.as rfl rfl (.as rfl rfl (.ng ?_))))
   refine Meets.mk (M := fun env H2 => ∃ (na nb : Bool) (ma mb : Nat) (ea eb : Int), eb ≤ ea ∧ ma < 9007199254740992 ∧ mb < 9007199254740992 ∧ (-1075 ≤ eb ∧ ea ≤ 972) ∧ sumP na ma ea nb mb eb = atP a b ∧ env = [(4, .int .u64 ((0 : Nat) : Int)), (5, .bool na), (6, .int .u64 (ma : Int)), (7, .int .i64 ea), (8, .bool nb), (9, .int .u64 (mb : Int)), (10, .int .i64 eb)] ∧ H = H2) ⟨_, _, _, _, _, _, by omega, by omega, by omega, by omega, by unfold atP; rw [aO (by omega)], rfl, rfl⟩ (zC rfl (zC rfl (zC rfl (zC rfl (zC rfl (zC rfl (zC rfl zU))))))) (hRa _)
  try simp only [aL, bN] at hc34
  refine .skip ?_
  refine Next.go ?_
  refine Meets.mk (M := fun env H2 => ∃ (na nb : Bool) (ma mb : Nat) (ea eb : Int), eb ≤ ea ∧ ma < 9007199254740992 ∧ mb < 9007199254740992 ∧ (-1075 ≤ eb ∧ ea ≤ 972) ∧ sumP na ma ea nb mb eb = atP a b ∧ env = [(4, .int .u64 ((0 : Nat) : Int)), (5, .bool na), (6, .int .u64 (ma : Int)), (7, .int .i64 ea), (8, .bool nb), (9, .int .u64 (mb : Int)), (10, .int .i64 eb)] ∧ H = H2) ⟨_, _, _, _, _, _, by omega, by omega, by omega, by omega, by unfold atP; rw [aN (by omega)], rfl, rfl⟩ (zC rfl (zC rfl (zC rfl (zC rfl (zC rfl (zC rfl (zC rfl zU))))))) (hRa _)
 rintro _ _ ⟨na, nb, ma, mb, ea, eb, hle, hm1, hm2, hr, hsum, rfl, rfl⟩
 obtain ⟨up, hup⟩ : ∃ up : Nat, up = (min (ea - eb) 64).toNat := ⟨_, rfl⟩
 obtain ⟨j, hj⟩ : ∃ j : Nat, j = (ea - up - eb).toNat := ⟨_, rfl⟩
 have hup64 : up ≤ 64 := by omega
 have hroom := shl_room hm1 hup64
 have hyl : mb / 2 ^ j ≤ mb := cU _ _
 rw [← hsum, sumP_at hup hj]
 refine .sr (.mv rfl rfl (.mv rfl rfl (.p rfl (yG (tm rfl) (tm rfl) (by omega)) (.p rfl (ahL (tm rfl) zE) (.as rfl rfl (.ng (.seq ?_)))))))
 rw [show bhU (ea - eb) 64 = ((up : Nat) : Int) by simp only [bhU]; split <;> omega]
 refine .region (.mv rfl rfl (.p rfl (yK zr149 pl149 (.cons (tm rfl) (.inl rfl) .nil) rfl) (.mv rfl rfl ?_)))
 refine .cl rfl C187 (evs2 rfl rfl) ((by have h := fun H => wShlU ma up (by omega) _ rfl H; rw [ajG (by (unfold M1; omega))] at h; exact h _)) ?_
 rw [aW (show ma * 2 ^ up < M2 by rw [acZ]; omega)]
 refine .mv rfl rfl (.mv rfl rfl (.p rfl (yG (tm rfl) (tm rfl) (by omega)) ?_))
 refine .al zr149 (fun b12 hb12 => ?_)
 refine .e0 (zG Z149 (tm rfl) (tm rfl) rfl rfl (.inr ⟨_, rfl⟩) (oS _ _ _) (lB rfl)) ?_
 try first | rw [sS] | rw [sU (by assumption)]
 refine .as rfl rfl (.ng ?_)
 refine AWP.frz (t := 12) rfl (hb12) ?_
 refine .sr (.mv rfl rfl (.p rfl (yK zr149 pl149 (.cons (tm rfl) (.inl rfl) .nil) rfl) (.mv rfl rfl (.mv rfl rfl (.p rfl (yG (tm rfl) (tm rfl) (by omega)) ?_)))))
 refine .cl rfl Tryz.call188 (evs2 rfl rfl) ((by have h := fun H => akH mb (by rw [acZ]; omega) j (by omega) (ea - up - eb) (by omega) H; rw [ajG (by (unfold M1; omega))] at h; exact h _)) ?_
 refine .mv rfl rfl (.p rfl (zB (tm rfl) rfl) (.p rfl (zB (tm rfl) rfl) ?_))
 refine .al zr149 (fun b14 hb14 => ?_)
 refine .e0 (zG Z149 (tm rfl) (tm rfl) rfl rfl (.inr ⟨_, rfl⟩) (oS _ _ _) (lB rfl)) ?_
 try first | rw [sS] | rw [sU (by assumption)]
 refine .as rfl rfl (.ng (.seq (.seq ?_)))
 obtain ⟨x, hx⟩ : ∃ x, x = ma * 2 ^ up := ⟨_, rfl⟩
 obtain ⟨y, hy⟩ : ∃ y, y = mb / 2 ^ j := ⟨_, rfl⟩
 obtain ⟨e, he⟩ : ∃ e : Int, e = ea - up := ⟨_, rfl⟩
 generalize hmo : decide (mb % 2 ^ j ≠ 0) = more
 rw [← hx, ← hy, ← he]
 rw [← hx] at hroom
 rw [← hy] at hyl
 refine .region (.mv rfl rfl (.mv rfl rfl (.p rfl (bjY U4 (tm rfl) (tm rfl)) (.ng ?_))))
 refine AWP.cond (tm rfl) (fun hc63 => ?_) (fun hc63 => ?_)
 ·try simp only [aK] at hc63
  refine .sr (.p rfl (zQ G149 Z149 (tm rfl) (lB rfl)) (.e rfl (yW G149 Z149 (tm rfl) (oS _ _ _) (lB rfl)) (.cl rfl Tryz.call243 (evs2 rfl rfl) (akJ x y (by rw [acZ]; omega) (by rw [acZ]; omega) _) ?_)))
  rw [aW (show x + y < M2 by rw [acZ]; omega)]
  refine .mv rfl rfl (.p rfl (zB (tm rfl) rfl) (.p rfl (zB (tm rfl) rfl) ?_))
  refine .al zr149 (fun b16 hb16 => ?_)
  have hn14_16 := Heap.ne_of (oS _ _ _) hb16
  refine .e0 (zG Z149 (tm rfl) (tm rfl) rfl rfl (.inr ⟨_, rfl⟩) (oS _ _ _) (lB rfl)) ?_
  try first | rw [sS] | rw [sU (by assumption)]
  refine .as rfl rfl (.ng ?_)
  refine AWP.frz (t := 16) rfl (hb16) ?_
  refine .sr (.mv rfl rfl (.p rfl (zQ G149 Z149 (tm rfl) (lB rfl)) (.mv rfl rfl (.mv rfl rfl (.cl rfl C122 (.cons (tm rfl) (evs3 rfl rfl rfl)) (acP na (x + y) (by rw [acZ]; omega) e (by omega) more _) (.as rfl rfl (.ng ?_)))))))
  refine AWP.dropb (hb14) ?_
  refine .ret ?_
  refine Next.rt ?_
  refine Ret.go (.cons (.tmp _ _ rfl) .nil) _ (hRa _) ?_
  refine ⟨?_, rfl⟩
  unfold sumQ
  rw [aO (by simpa using hc63)]; rfl
 try simp only [aK] at hc63
 refine .skip ?_
 refine Next.go ?_
 refine AWP.meet (fun env H2 => env = [(4, .int .u64 ((0 : Nat) : Int)), (5, .bool na), (8, .bool nb), (12, .iptr (u2 x).cells), (13, .int .i64 e), (14, .ptr (some ⟨b14, 0, none⟩)), (15, .bool more)] ∧ H2 = H.set b14 (.box 149 (u2 (auP y more)).cells)) ?_ ?_
 ·refine .sr (.mv rfl rfl (.ng ?_))
  refine AWP.cond (tm rfl) (fun hc75 => ?_) (fun hc75 => ?_)
  ·try simp only [aK] at hc75
   refine .region (.e rfl (yW G149 Z149 (tm rfl) (oS _ _ _) (lB rfl)) (.p rfl (yK zr149 pl149 (.cons (zI 1) (.inl rfl) .nil) rfl) ?_))
   refine .cl rfl Tryz.call243 (evs2 rfl rfl) ((by have h := fun H => akJ y 1 (by rw [acZ]; omega) (by decide +kernel) H; rw [ajG (show 1 < M1 by decide)] at h; exact h _)) ?_
   rw [aW (show y + 1 < M2 by rw [acZ]; omega)]
   refine .mv rfl rfl (.p rfl (zB (tm rfl) rfl) (.p rfl (zB (tm rfl) rfl) (.e0 (zG Z149 (tm rfl) (tm rfl) rfl rfl (.inr ⟨_, rfl⟩) (oS _ _ _) (lB rfl)) ?_)))
   try first | rw [sS] | rw [sU (by assumption)]
   refine .ng ?_
   refine Meets.mk (M := fun env H2 => env = [(4, .int .u64 ((0 : Nat) : Int)), (5, .bool na), (8, .bool nb), (12, .iptr (u2 x).cells), (13, .int .i64 e), (14, .ptr (some ⟨b14, 0, none⟩)), (15, .bool more)] ∧ H2 = H.set b14 (.box 149 (u2 (auP y more)).cells)) ⟨rfl, by rw [show auP y more = y + 1 from aO hc75]; rfl⟩ (zC rfl (zC rfl (zC rfl (zC rfl (zC rfl (zC rfl (zC rfl zU))))))) (hRa _)
  try simp only [aK] at hc75
  refine .skip ?_
  refine Next.go ?_
  refine Meets.mk (M := fun env H2 => env = [(4, .int .u64 ((0 : Nat) : Int)), (5, .bool na), (8, .bool nb), (12, .iptr (u2 x).cells), (13, .int .i64 e), (14, .ptr (some ⟨b14, 0, none⟩)), (15, .bool more)] ∧ H2 = H.set b14 (.box 149 (u2 (auP y more)).cells)) ⟨rfl, by rw [show auP y more = y from aN (by rw [hc75]; decide)]; rfl⟩ (zC rfl (zC rfl (zC rfl (zC rfl (zC rfl (zC rfl (zC rfl zU))))))) (hRa _)
 rintro _ _ ⟨rfl, rfl⟩
 have hty : auP y more ≤ y + 1 := by unfold auP; split <;> omega
 refine .sr (.p rfl (zQ G149 Z149 (tm rfl) (lB rfl)) (.e rfl (yW G149 Z149 (tm rfl) (oS _ _ _) (lB rfl)) (.cl rfl Tryz.call244 (evs2 rfl rfl) (aqC x (auP y more) (by rw [acZ]; omega) (by rw [acZ]; omega) _) (.mv rfl rfl (.p rfl (zB (tm rfl) rfl) (.p rfl (zB (tm rfl) rfl) ?_))))))
 refine .al zr149 (fun b18 hb18 => ?_)
 have hn14_18 := Heap.ne_of (oS _ _ _) hb18
 refine .e0 (zG Z149 (tm rfl) (tm rfl) rfl rfl (.inr ⟨_, rfl⟩) (oS _ _ _) (lB rfl)) ?_
 try first | rw [sS] | rw [sU (by assumption)]
 refine .as rfl rfl (.ng (.block (.sr (.mv rfl rfl (.as rfl rfl (.ng ?_))))))
 refine AWP.cond (tm rfl) (fun hc93 => ?_) (fun hc93 => ?_)
 ·try simp only [aM] at hc93
  refine .sr (.e rfl (yW G149 Z149 (tm rfl) ((oN _ _ (by assumption)).trans (oS _ _ _)) (lB rfl)) (.p rfl (zQ G149 Z149 (tm rfl) (lB rfl)) (.cl rfl Tryz.call244 (evs2 rfl rfl) (aqC (auP y more) x (by rw [acZ]; omega) (by rw [acZ]; omega) _) ?_)))
  rw [asH (by rw [acZ]; omega) (by omega)]
  refine .mv rfl rfl (.p rfl (zB (tm rfl) rfl) (.p rfl (zB (tm rfl) rfl) (.e0 (zG Z149 (tm rfl) (tm rfl) rfl rfl (.inr ⟨_, rfl⟩) (oS _ _ _) (lB rfl)) ?_)))
  try first | rw [sS] | rw [sU (by assumption)]
  refine .nr (.mv rfl rfl (.e rfl (yW G149 Z149 (tm rfl) (oS _ _ _) (lB rfl)) (.mv rfl rfl (.cl rfl C122 (.cons (tm rfl) (.cons (tm rfl) (.cons (tm rfl) (.cons zM .nil)))) (acP nb (auP y more - x) (by rw [acZ]; omega) e (by omega) false _) (.as rfl rfl (.ng ?_))))))
  refine AWP.dropb (hb18) ?_
  refine AWP.dropb (hb14) ?_
  refine .ret ?_
  refine Block.rt ?_
  refine Ret.go (.cons (.tmp _ _ rfl) .nil) _ (hRa _) ?_
  refine ⟨?_, rfl⟩
  unfold sumQ
  rw [aN (by simpa using hc63), aO (by simpa using hc93)]; rfl
 try simp only [aL] at hc93
 have hxz : ¬ x < auP y more := by simpa using hc93
 refine AWP.seqTo 105 (.bool (decide (x - auP y more = 0) && !more)) [4, 5, 13, 15, 18] ?_ ?_
 ·-- region 18
  refine .region (.e rfl (yW G149 Z149 (tm rfl) (oS _ _ _) (lB rfl)) (.p rfl (yK zr149 pl149 .nil rfl) ?_))
  refine .p rfl (aaC Tryz.eqGuardType149 (tm rfl) (tm rfl) (eq2 _ _ _ _)) ?_
  refine .mv rfl rfl ?_
  refine zL (t := 109) rfl (fun hg109 => ?_) (fun hg109 => ?_)
  ·have hh109 := hg109; try simp only [aM] at hh109
   refine .gp rfl rfl rfl (by assumption) (zJ (tm rfl)) (.gp rfl rfl rfl (by assumption) (aaB (tm rfl)) (.p rfl (zO (tm rfl) (by assumption) (tm rfl)) (.as rfl rfl (.nil ?_))))
   exact ⟨rfl, zY rfl (by (rw [← bbM (by rw [acZ]; omega) hxz, hg109]; rfl)) (zC rfl (zC rfl (zC rfl (zC rfl (zC rfl zU))))), rfl⟩
  have hh109 := hg109; try simp only [aL] at hh109
  refine .gn rfl rfl rfl (by assumption) (.gn rfl rfl rfl (by assumption) (.p rfl (zN (tm rfl) (by assumption) zM) (.as rfl rfl (.nil ?_))))
  exact ⟨rfl, zY rfl (by (rw [← bbM (by rw [acZ]; omega) hxz, hg109]; rfl)) (zC rfl (zC rfl (zC rfl (zC rfl (zC rfl zU))))), rfl⟩
 refine AWP.sub [(105, _), (4, _), (5, _), (13, _), (15, _), (18, _)] (zC rfl (zC rfl (zC rfl (zC rfl (zC rfl (zC rfl zU)))))) ?_
 refine AWP.cond (tm rfl) (fun hc105 => ?_) (fun hc105 => ?_)
 ·try simp only [aK] at hc105
  refine .sr (.p rfl (zA (zI 0)) (.ng ?_))
  refine AWP.dropb (hb18) ?_
  refine AWP.dropb (hb14) ?_
  refine .ret ?_
  refine Block.rt ?_
  refine Ret.go (.cons (.tmp _ _ rfl) .nil) _ (hRa _) ?_
  refine ⟨?_, rfl⟩
  unfold sumQ
  rw [aN (by simpa using hc63), aN hxz, aO (by simpa using hc105)]; rfl
 try simp only [aK] at hc105
 refine .seq ?_
 rw [asH (by rw [acZ]; omega) (by omega)]
 refine .region (.mv rfl rfl (.e rfl (yW G149 Z149 (tm rfl) (oS _ _ _) (lB rfl)) (.mv rfl rfl (.mv rfl rfl (.cl rfl C122 (.cons (tm rfl) (evs3 rfl rfl rfl)) (acP na (x - auP y more) (by rw [acZ]; omega) e (by omega) more _) (.as rfl rfl (.ng ?_)))))))
 refine AWP.dropb (hb18) ?_
 refine AWP.dropb (hb14) ?_
 refine .ret ?_
 refine Block.rt ?_
 refine Ret.go (.cons (.tmp _ _ rfl) .nil) _ (hRa _) ?_
 refine ⟨?_, rfl⟩
 unfold sumQ
 rw [aN (by simpa using hc63), aN hxz, aN (by simpa using hc105)]; rfl

theorem arV (a b : Nat) (ha : a < 18446744073709551616) (hb : b < 18446744073709551616) (H : Heap) : ACall Tryz.prog 131 [.int .u64 (a : Int), .int .u64 (b : Int)] H (fun y H' => y = .int .u64 ((ahQ a b : Nat) : Int) ∧ H' = H) := by
 refine ACall.of_body Tryz.func131 rfl Tryz.ntmps131 Tryz.results131 rfl ?_
 refine .sr (.p rfl (zA (zI 0)) (.ng (.seq (.sr (.mv rfl rfl (.mv rfl rfl (.cl rfl Tryz.call190 (evs2 rfl rfl) (bhN a b ha hb _) (.ng ?_))))))))
 refine .block (.sr (.p rfl (zR (tm rfl) zE) (.as rfl rfl (.ng ?_))))
 refine AWP.cond (tm rfl) (fun hc8 => ?_) (fun hc8 => ?_)
 ·try simp only [aM] at hc8
  refine .sr (.p rfl (zA (zI 9221120237041090560)) (.ng (.ret ?_)))
  refine Block.rt ?_
  refine Next.rt ?_
  refine Ret.go (.cons (.tmp _ _ rfl) .nil) _ (hRa _) ?_
  refine ⟨?_, rfl⟩
  unfold ahQ
  rw [aO (by assumption)]
  rfl
 try simp only [aL] at hc8
 refine .sr (.p rfl (zR (tm rfl) zE) (.as rfl rfl (.ng ?_)))
 refine AWP.cond (tm rfl) (fun hc10 => ?_) (fun hc10 => ?_)
 ·try simp only [aM] at hc10
  refine .sr (.mv rfl rfl (.as rfl rfl (.ng (.ret ?_))))
  refine Block.rt ?_
  refine Next.rt ?_
  refine Ret.go (.cons (.tmp _ _ rfl) .nil) _ (hRa _) ?_
  refine ⟨?_, rfl⟩
  unfold ahQ
  rw [aN (by assumption), aO (by assumption)]
  rfl
 try simp only [aL] at hc10
 refine .sr (.p rfl (zR (tm rfl) zE) (.as rfl rfl (.ng ?_)))
 refine AWP.cond (tm rfl) (fun hc13 => ?_) (fun hc13 => ?_)
 ·try simp only [aM] at hc13
  refine .sr (.mv rfl rfl (.as rfl rfl (.ng (.ret ?_))))
  refine Block.rt ?_
  refine Next.rt ?_
  refine Ret.go (.cons (.tmp _ _ rfl) .nil) _ (hRa _) ?_
  refine ⟨?_, rfl⟩
  unfold ahQ
  rw [aN (by assumption), aN (by assumption), aO (by assumption)]
  rfl
 try simp only [aL] at hc13
 refine .sr (.p rfl (zR (tm rfl) zE) (.as rfl rfl (.ng ?_)))
 refine AWP.cond (tm rfl) (fun hc16 => ?_) (fun hc16 => ?_)
 ·try simp only [aM] at hc16
  refine .seq (.block (.sr (.mv rfl rfl (.mv rfl rfl (.p rfl (zR (tm rfl) (tm rfl)) (.as rfl rfl (.ng ?_)))))))
  refine AWP.cond (tm rfl) (fun hc18 => ?_) (fun hc18 => ?_)
  ·try simp only [aM] at hc18
   refine .sr (.mv rfl rfl (.as rfl rfl (.ng (.ret ?_))))
   refine Block.rt ?_
   refine Next.rt ?_
   refine Block.rt ?_
   refine Next.rt ?_
   refine Ret.go (.cons (.tmp _ _ rfl) .nil) _ (hRa _) ?_
   refine ⟨?_, rfl⟩
   unfold ahQ
   rw [aN (by assumption), aN (by assumption), aN (by assumption), aO (by assumption), aO (by omega)]
   rfl
  try simp only [aL] at hc18
  refine .sr (.mv rfl rfl (.cl rfl C89 (evs1 rfl) (aaE _ (by assumption) _) (.p rfl (zR (tm rfl) zE) (.as rfl rfl (.ng ?_)))))
  refine AWP.cond (tm rfl) (fun hc23 => ?_) (fun hc23 => ?_)
  ·try simp only [aM] at hc23
   refine .sr (.p rfl (zA (zI 9221120237041090560)) (.ng (.ret ?_)))
   refine Block.rt ?_
   refine Next.rt ?_
   refine Block.rt ?_
   refine Next.rt ?_
   refine Ret.go (.cons (.tmp _ _ rfl) .nil) _ (hRa _) ?_
   refine ⟨?_, rfl⟩
   unfold ahQ
   rw [aN (by assumption), aN (by assumption), aN (by assumption), aO (by assumption), aN (by omega), aO (by omega)]
   rfl
  try simp only [aL] at hc23
  refine .skip ?_
  refine Block.go ?_
  refine Next.go ?_
  refine .sr (.p rfl (zA (zI 0)) (.ng (.ret ?_)))
  refine Block.rt ?_
  refine Next.rt ?_
  refine Ret.go (.cons (.tmp _ _ rfl) .nil) _ (hRa _) ?_
  refine ⟨?_, rfl⟩
  unfold ahQ
  rw [aN (by assumption), aN (by assumption), aN (by assumption), aO (by assumption), aN (by omega), aN (by omega)]
  rfl
 try simp only [aL] at hc16
 refine .skip ?_
 refine Block.go ?_
 refine Next.go ?_
 refine .sr (.mv rfl rfl (.mv rfl rfl (.cl rfl Tryz.call191 (evs2 rfl rfl) (biQ a b ha hb _) (.as rfl rfl (.ng (.ret ?_))))))
 refine Ret.go (.cons (.tmp _ _ rfl) .nil) _ (hRa _) ?_
 refine ⟨?_, rfl⟩
 unfold ahQ
 rw [aN (by assumption), aN (by assumption), aN (by assumption), aN (by assumption)]
 rfl

theorem auJ (h : x < 2 ^ 63) : x ^^^ 2 ^ 63 = 2 ^ 63 + x := by
 apply Nat.eq_of_testBit_eq
 intro i
 rw [Nat.testBit_xor, Nat.testBit_two_pow]
 rcases Nat.lt_trichotomy i 63 with hi | rfl | hi
 ·rw [Nat.testBit_two_pow_add_gt hi, bG (by omega), Bool.xor_false]
 ·rw [Nat.testBit_two_pow_add_eq, bH rfl, Bool.xor_true]
 have h2 : 2 ^ 63 + x < 2 ^ i := by
  have : 2 ^ 64 ≤ 2 ^ i := aT (by decide) hi
  have e : (2 : Nat) ^ 64 = 2 ^ 63 + 2 ^ 63 := by decide
  omega
 rw [Nat.testBit_lt_two_pow h2, Nat.testBit_lt_two_pow (show x < 2 ^ i by omega), bG (by omega)]; rfl
theorem xor_sign (h : x < 18446744073709551616) : x ^^^ 9223372036854775808 = if 9223372036854775808 ≤ x then x - 9223372036854775808 else x + 9223372036854775808 := by
 have e : (9223372036854775808 : Nat) = 2 ^ 63 := by decide
 split
 ·rename_i q
  obtain ⟨y, rfl⟩ : ∃ y, x = 9223372036854775808 + y := ⟨x - 9223372036854775808, by omega⟩
  have hy : y < 2 ^ 63 := by rw [← e]; omega
  rw [fI, e, ← auJ hy, Nat.xor_assoc, Nat.xor_self, Nat.xor_zero]
 rename_i q
 rw [e, auJ (by rw [← e]; omega), eL]
theorem and_sign {a : Nat} (h : a < 18446744073709551616) : a - (a &&& 9223372036854775808) = a % 9223372036854775808 := by
 have e : a &&& 9223372036854775808 = if a.testBit 63 then 9223372036854775808 else 0 := by
  apply Nat.eq_of_testBit_eq
  intro i
  rw [Nat.testBit_and, show (9223372036854775808 : Nat) = 2 ^ 63 by decide, Nat.testBit_two_pow]
  by_cases hi : 63 = i
  ·subst hi
   cases a.testBit 63
   ·simp
   simp only [decide_true, Bool.and_self, if_true]; rw [Nat.testBit_two_pow]; simp
  cases a.testBit 63
  ·simp [hi]
  simp only [hi, decide_false, Bool.and_false, if_true]; rw [Nat.testBit_two_pow]; simp [hi]
 rw [e, Nat.testBit_eq_decide_div_mod_eq]
 have h2 : (2 : Nat) ^ 63 = 9223372036854775808 := by decide
 rw [h2]
 split <;> simp_all <;> omega
def absN (x : Nat) : Nat := if yD x = 4 then nanN else x % 9223372036854775808
theorem arT (a : Nat) (ha : a < 18446744073709551616) (H : Heap) : ACall Tryz.prog 56 [.int .u64 (a : Int)] H (fun y H' => y = .int .u64 ((apY a : Nat) : Int) ∧ H' = H) := by
 refine ACall.of_body Tryz.func56 rfl Tryz.ntmps56 Tryz.results56 rfl ?_
 refine .sr (.p rfl (zA (zI 0)) (.ng (.seq (.sr (.mv rfl rfl (.cl rfl C89 (evs1 rfl) (aaE _ (by assumption) _) (.p rfl (zR (tm rfl) zE) (.ng ?_))))))))
 refine AWP.cond (tm rfl) (fun hc5 => ?_) (fun hc5 => ?_)
 ·try simp only [aM] at hc5
  refine .sr (.p rfl (zA (zI 9221120237041090560)) (.ng (.ret ?_)))
  refine Next.rt ?_
  refine Ret.go (.cons (.tmp _ _ rfl) .nil) _ (hRa _) ?_
  refine ⟨?_, rfl⟩
  unfold apY
  rw [aO (by omega)]
  rfl
 try simp only [aL] at hc5
 refine .skip ?_
 refine Next.go ?_
 refine .sr (.mv rfl rfl (.p rfl (beZ (tm rfl) (zI 9223372036854775808) (by assumption) (by omega)) (.as rfl rfl (.ng (.ret ?_)))))
 refine Ret.go (.cons (.tmp _ _ rfl) .nil) _ (hRa _) ?_
 refine ⟨?_, rfl⟩
 unfold apY
 rw [aN (by omega), ← xor_sign ha]
 rfl

theorem bgP (a : Nat) (ha : a < 18446744073709551616) (H : Heap) : ACall Tryz.prog 228 [.int .u64 (a : Int)] H (fun y H' => y = .int .u64 ((absN a : Nat) : Int) ∧ H' = H) := by
 refine ACall.of_body Tryz.func228 rfl Tryz.ntmps228 Tryz.results228 rfl ?_
 refine .sr (.p rfl (zA (zI 0)) (.ng (.seq (.sr (.mv rfl rfl (.cl rfl C89 (evs1 rfl) (aaE _ (by assumption) _) (.p rfl (zR (tm rfl) zE) (.ng ?_))))))))
 refine AWP.cond (tm rfl) (fun hc5 => ?_) (fun hc5 => ?_)
 ·try simp only [aM] at hc5
  refine .sr (.p rfl (zA (zI 9221120237041090560)) (.ng (.ret ?_)))
  refine Next.rt ?_
  refine Ret.go (.cons (.tmp _ _ rfl) .nil) _ (hRa _) ?_
  refine ⟨?_, rfl⟩
  unfold absN
  rw [aO (by omega)]
  rfl
 try simp only [aL] at hc5
 refine .skip ?_
 refine Next.go ?_
 refine .sr (.mv rfl rfl (.p rfl (atB (tm rfl) (zI 9223372036854775808) (by assumption) (by omega)) (.as rfl rfl (.ng (.ret ?_)))))
 refine Ret.go (.cons (.tmp _ _ rfl) .nil) _ (hRa _) ?_
 refine ⟨?_, rfl⟩
 unfold absN
 rw [aN (by omega), ← and_sign ha]
 rfl

end
end Go.Proofs.YtmmgbnolccpjoaaGreatDoor
