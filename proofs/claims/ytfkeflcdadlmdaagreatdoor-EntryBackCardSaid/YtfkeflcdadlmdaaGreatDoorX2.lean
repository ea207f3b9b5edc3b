import Derived.Test.YtfkeflcdadlmdaaGreatDoorSsk
import Derived.Test.YtfkeflcdadlmdaaGreatDoorD1
namespace Go.Proofs.YtfkeflcdadlmdaaGreatDoor
open Go Go.RowKit

def aeD : Nat → Nat → Nat × Nat
 | m, 0 => (m, 0)
 | m, k + 1 => if m % 2 = 0 ∧ 0 < m then aeD (m / 2) k else (m, k + 1)
theorem ajT : ∀ (k m : Nat), (aeD m k).1 ≤ m ∧ (aeD m k).2 ≤ k
 | 0, m => ⟨Nat.le_refl _, Nat.le_refl _⟩
 | k + 1, m => by
  unfold aeD
  split
  ·have := ajT k (m / 2)
   omega
  ·exact ⟨Nat.le_refl _, Nat.le_refl _⟩
theorem awK {m k : Nat} (h : m % 2 = 0) (hm : 0 < m) (hk : 0 < k) : aeD m k = aeD (m / 2) (k - 1) := by
 obtain ⟨k, rfl⟩ : ∃ q, k = q + 1 := ⟨k - 1, by omega⟩
 rw [aeD, if_pos ⟨h, hm⟩]; rfl
theorem arD {m k : Nat} (h : k = 0 ∨ m = 0 ∨ m % 2 ≠ 0) : aeD m k = (m, k) := by
 cases k with
 | zero => rfl
 | succ k => rw [aeD, if_neg (by omega)]
def ofN (neg : Bool) (m : Nat) (e : Int) : Bool × List UInt8 × Int :=
 if 0 ≤ e then (mkN neg (dec (m * 2 ^ e.toNat)) 0).1 else (mkN neg (dec ((aeD m (-e).toNat).1 * 5 ^ (aeD m (-e).toNat).2)) (-((aeD m (-e).toNat).2 : Int))).1
def ofR (m : Nat) (e : Int) : Nat := if 0 ≤ e then m * 2 ^ e.toNat else (aeD m (-e).toNat).1 * 5 ^ (aeD m (-e).toNat).2
def ofX (m : Nat) (e : Int) : Int := if 0 ≤ e then 0 else -((aeD m (-e).toNat).2 : Int)
theorem beE (neg : Bool) (m : Nat) (e : Int) : ofN neg m e = (mkN neg (dec (ofR m e)) (ofX m e)).1 := by
 unfold ofN ofR ofX
 split <;> rfl
def dD (d : Bool × List UInt8 × Int) : AV := dA d.1 d.2.1 d.2.2
theorem arG {k : Nat} (hk : k ≤ 3300) : 18014398509481984 * 2 ^ k < BIG := by
 obtain ⟨K, hK, hB⟩ : ∃ K, K = 8192 ∧ BIG = 2 ^ K := ⟨32 * 256, rfl, amW _ rfl⟩
 rw [hB, show (18014398509481984 : Nat) = 2 ^ 54 by decide, ← Nat.pow_add]
 exact Nat.pow_lt_pow_right (by decide) (by omega)
theorem abH {m k : Nat} (hm : m < 18014398509481984) (hk : k ≤ 1075) : m * 5 ^ k < BIG ∧ 5 ^ k < BIG := by
 have h1 : 5 ^ k ≤ 2 ^ (3 * k) := by rw [Nat.pow_mul]; exact Nat.pow_le_pow_left (by decide) k
 have h0 : 5 ^ k ≤ 18014398509481984 * 5 ^ k := Nat.le_mul_of_pos_left _ (by decide)
 have h2 : 18014398509481984 * 5 ^ k < BIG := Nat.lt_of_le_of_lt (Nat.mul_le_mul_left _ h1) (arG (by omega))
 exact ⟨Nat.lt_of_le_of_lt (Nat.mul_le_mul_right _ (by omega)) h2, Nat.lt_of_le_of_lt h0 h2⟩
theorem ahI {m k : Nat} (hm : m < 18014398509481984) (hk : k ≤ 972) : m * 2 ^ k < BIG := by
 exact Nat.lt_of_le_of_lt (Nat.mul_le_mul_right _ (by omega)) (arG (by omega))
theorem afN {m : Nat} (hm : m < 18014398509481984) : m < BIG := Nat.lt_trans hm (by unfold BIG; decide +kernel)
theorem beT {m : Nat} (h : 0 < m) : (zJ m).getD 0 0 &&& 1 = m % 2 := by
 rw [qQ h, List.getD_cons_zero, show (1 : Nat) = 2 ^ 1 - 1 by decide, Nat.and_two_pow_sub_one_eq_mod]
 omega
theorem anE {m : Nat} : (zJ m).length = 0 ↔ m = 0 := by
 constructor
 ·intro h
  rcases Nat.eq_zero_or_pos m with h0 | h0
  ·exact h0
  ·have := agD h0; omega
 ·rintro rfl; rfl
theorem beD {m : Nat} {e : Int} (hm : m < 18014398509481984) (he : -1075 ≤ e ∧ e ≤ 972) : ofR m e < BIG := by
 unfold ofR
 split
 ·exact ahI hm (by omega)
 ·have h := ajT (-e).toNat m
  exact (abH (by omega) (by omega)).1
theorem asF {m : Nat} {e : Int} (he : -1075 ≤ e ∧ e ≤ 972) : -1075 ≤ ofX m e ∧ ofX m e ≤ 0 := by
 unfold ofX
 have h := ajT (-e).toNat m
 split <;> omega
theorem shlZ (a s : Nat) (q : Int) (hq : q = (s : Int)) (h : a * 2 ^ s < BIG) (hs : s < 1000000000) (H : Heap) : ACall Tryz.prog 161 [aaG a, .int .i64 q] H (fun y H' => y = .tuple [aaG (a * 2 ^ s), .int .i64 0] ∧ H' = H) := by
 subst hq; exact shlB a s h hs H
theorem powZ (b n : Nat) (q : Int) (hq : q = (n : Int)) (hb : 2 ≤ b) (hb2 : b ≤ 1000000) (hn2 : n < 1000000000) (h : b ^ n < BIG) (H : Heap) : ACall Tryz.prog 157 [.int .i64 (b : Int), .int .i64 q] H (fun y H' => y = .tuple [aaG (b ^ n), .int .i64 0] ∧ H' = H) := by
 subst hq; exact amU b n hb hb2 hn2 h H
theorem mk_zero (neg : Bool) (e : Int) : (mkN neg (dec 0) e).1 = (neg, [], 0) := by
 unfold mkN
 rw [if_pos (show abP (dec 0) = [] by rw [ajO (by decide)]; rfl)]

def xof_J (neg : Bool) (m0 k0 b : Nat) (H : Heap) : Nat → Env → Heap → Prop := fun k env H1 => ∃ m k1 : Nat, m < 18014398509481984 ∧ k1 ≤ 1075 ∧ aeD m k1 = aeD m0 k0 ∧ env = [(0, .bool neg), (1, aaG m), (2, .int .i64 (-(k1 : Int))), (6, .ptr (some ⟨b, 0, none⟩))] ∧ H1 = H.set b (.box 48 [.bool false, .str [], .int .i64 0]) ∧ k = k1

set_option maxRecDepth 100000 in
theorem bbS (neg : Bool) (m : Nat) (e : Int) (hm : m < 18014398509481984) (he : -1075 ≤ e ∧ e ≤ 972) (H : Heap) : ACall Tryz.prog 121 [.bool neg, aaG m, .int .i64 e] H (fun y H' => y = dD (ofN neg m e) ∧ H' = H) := by
 have hmB := afN hm
 refine ACall.of_body Tryz.func121 rfl Tryz.ntmps121 Tryz.results121 rfl ?_
 refine .sr (.s rfl (zR Tryz.zeroValue48 (zr48)) ?_)
 rintro _ _ ⟨b6, hb6, rfl, hH⟩
 obtain rfl := hH.symm
 refine .nr (.p rfl (zB zD) (.ng ?_))
 refine AWP.seqToL [(1, aaG (ofR m e)), (7, .int .i64 (ofX m e))] [0, 6] ?_ ?_
 ·refine .sr (.mv rfl rfl (.p rfl (yW (tm rfl) zD) (.ng ?_)))
  refine AWP.cond (tm rfl) (fun hc13 => ?_) (fun hc13 => ?_)
  ·try simp only [decide_eq_true_eq] at hc13
   refine .region (.mv rfl rfl (.mv rfl rfl (.cl rfl Tryz.call161 (evs2 rfl rfl) (shlZ m e.toNat e (by omega) (ahI hm (by omega)) (by omega) _) (.mv rfl rfl (.p rfl (zC (tm rfl) rfl) (.p rfl (zC (tm rfl) rfl) (.as rfl rfl (.nil ?_))))))))
   exact ⟨rfl, (yE rfl (by (unfold ofR; rw [if_pos (by omega)]; done)) (yE rfl (by (unfold ofX; rw [if_pos (by omega)]; done)) (zA rfl (zA rfl zK)))), rfl⟩
  ·try simp only [decide_eq_false_iff_not, Int.not_le] at hc13
   have hen : e = -(((-e).toNat : Nat) : Int) := by omega
   refine .seq (.block ?_)
   refine AWP.loopW (xof_J neg m (-e).toNat b6 H) ((-e).toNat) ⟨m, (-e).toNat, hm, by omega, rfl, rfl, rfl, rfl⟩ (zA rfl (zA rfl (yE rfl (by rw [← hen]) (zA rfl zK)))) (Heap.le.refl _) ?_
   rintro _ _ _ ⟨m1, k1, hm1, hk1, hst, rfl, rfl, hk⟩
   have hg0 := Limbs.getD (zN m1) 0
   refine .seq ?_
   refine AWP.seqTo 33 (.bool (decide (-(k1 : Int) < 0) && decide ((0 : Int) < ((zJ m1).length : Int)) && decide (((((zJ m1).getD 0 0 &&& 1 : Nat)) : Int) = ((0 : Nat) : Int)))) [0, 1, 2, 6] ?_ ?_
   ·-- region 4
    refine .region (.mv rfl rfl (.p rfl (zZ (tm rfl) zD) (.mv rfl rfl ?_)))
    refine zP (t := 22) rfl (fun hg22 => ?_) (fun hg22 => ?_)
    ·have hh22 := hg22; try simp only [decide_eq_true_eq] at hh22
     refine .gp rfl rfl rfl (by assumption) (zE (tm rfl)) (.gp rfl rfl rfl (by assumption) (zV Tryz.underlying170 (tm rfl)) (.gp rfl rfl rfl (by assumption) (yC (tm rfl) zD) (.p rfl (zO (tm rfl) (by assumption) (tm rfl)) (.mv rfl rfl ?_))))
     refine zP (t := 27) rfl (fun hg27 => ?_) (fun hg27 => ?_)
     ·have hh27 := hg27; try simp only [decide_eq_true_eq] at hh27
      refine .gp rfl rfl rfl (by assumption) (zE (tm rfl)) (.gp rfl rfl rfl (by assumption) (yD (0) Tryz.underlying170 Tryz.sizeOf112 (tm rfl) zD (by omega) (by omega)) (.gp rfl rfl rfl (by assumption) (zF Tryz.isAgg112 (tm rfl)) (.gp rfl rfl rfl (by assumption) (aoC (tm rfl) (zI 1) (by assumption) (by omega)) (.gp rfl rfl rfl (by assumption) (zX (tm rfl) (zI 0)) (.p rfl (zO (tm rfl) (by assumption) (tm rfl)) (.nil ?_))))))
      exact ⟨rfl, yP rfl (by (rw [show decide (-(k1 : Int) < 0) = _ from hg22, show decide ((0 : Int) < ((zJ m1).length : Int)) = _ from hg27]; rfl)) (zA rfl (zA rfl (zA rfl (zA rfl zK)))), rfl⟩
     ·have hh27 := hg27; try simp only [decide_eq_false_iff_not, Int.not_lt] at hh27
      refine .gn rfl rfl rfl (by assumption) (.gn rfl rfl rfl (by assumption) (.gn rfl rfl rfl (by assumption) (.gn rfl rfl rfl (by assumption) (.gn rfl rfl rfl (by assumption) (.p rfl (zM (tm rfl) (by assumption) zL) (.nil ?_))))))
      exact ⟨rfl, yP rfl (by (rw [show decide (-(k1 : Int) < 0) = _ from hg22, show decide ((0 : Int) < ((zJ m1).length : Int)) = _ from hg27]; rfl)) (zA rfl (zA rfl (zA rfl (zA rfl zK)))), rfl⟩
    ·have hh22 := hg22; try simp only [decide_eq_false_iff_not, Int.not_lt] at hh22
     refine .gn rfl rfl rfl (by assumption) (.gn rfl rfl rfl (by assumption) (.gn rfl rfl rfl (by assumption) (.p rfl (zM (tm rfl) (by assumption) zL) (.mv rfl rfl (.gn rfl rfl rfl (by rfl) (.gn rfl rfl rfl (by rfl) (.gn rfl rfl rfl (by rfl) (.gn rfl rfl rfl (by rfl) ?_))))))))
     refine .gn rfl rfl rfl (by rfl) (.p rfl (zM (tm rfl) (by rfl) zL) (.nil ?_))
     exact ⟨rfl, yP rfl (by (rw [show decide (-(k1 : Int) < 0) = _ from hg22]; rfl)) (zA rfl (zA rfl (zA rfl (zA rfl zK)))), rfl⟩
   ·refine AWP.sub [(33, _), (0, _), (1, _), (2, _), (6, _)] (zA rfl (zA rfl (zA rfl (zA rfl (zA rfl zK))))) ?_
    refine AWP.cond (tm rfl) (fun hc33 => ?_) (fun hc33 => ?_)
    ·try simp only [decide_eq_true_eq, decide_eq_false_iff_not, Bool.not_eq_true', Bool.not_eq_false', Int.not_lt, Int.not_le, ne_eq, Decidable.not_not] at hc33
     simp only [Bool.and_eq_true, decide_eq_true_eq] at hc33
     obtain ⟨⟨hk0, hl0⟩, hb0⟩ := hc33
     have hm0 : 0 < m1 := by rcases Nat.eq_zero_or_pos m1 with h | h; rw [h] at hl0; exact absurd hl0 (by decide); exact h
     rw [beT hm0] at hb0
     have hst2 := awK (m := m1) (k := k1) (by omega) hm0 (by omega)
     refine .skip ?_
     refine Next.go ?_
     refine .block (.sr (.mv rfl rfl (.cl rfl Tryz.call165 (.cons (tm rfl) (.cons zD .nil)) (shrB m1 1 (afN hm1) (by decide) _) (.mv rfl rfl (.p rfl (zC (tm rfl) rfl) (.p rfl (zC (tm rfl) rfl) (.p rfl (zC (tm rfl) rfl) (.as rfl rfl ?_))))))))
     refine .ng (.region (.mv rfl rfl (.p rfl (zS (tm rfl) zD (by omega)) (.as rfl rfl (.nil ?_)))))
     refine Block.go ?_
     refine Next.go ?_
     refine Round.mk (J := xof_J neg m (-e).toNat b6 H) ⟨m1 / 2, k1 - 1, by omega, by omega, by rw [← hst2]; exact hst, rfl, rfl, rfl⟩ (zA rfl (yE rfl (by rw [Nat.pow_one]) (yE rfl (by congr 1; omega) (zA rfl zK)))) (Heap.le.refl _) (by omega)
    ·try simp only [decide_eq_true_eq, decide_eq_false_iff_not, Bool.not_eq_true', Bool.not_eq_false', Int.not_lt, Int.not_le, ne_eq, Decidable.not_not] at hc33
     simp only [Bool.and_eq_false_iff, decide_eq_false_iff_not] at hc33
     have hse : aeD m1 k1 = (m1, k1) := arD (by
       rcases Nat.eq_zero_or_pos m1 with h | h
       ·exact .inr (.inl h)
       ·have hnl := agD h
        rw [beT h] at hc33
        omega)
     rw [hst] at hse
     refine .exit ?_
     refine Next.ex ?_
     refine Next.ex ?_
     refine Block.hit ?_
     refine Next.go ?_
     refine .sr (.mv rfl rfl (.p rfl (aaU (tm rfl) (by omega)) (.cl rfl Tryz.call157 (.cons zD (evs1 rfl)) (powZ 5 k1 _ (by omega) (by decide) (by decide) (by omega) (abH hm1 hk1).2 _) (.mv rfl rfl (.p rfl (zC (tm rfl) rfl) (.p rfl (zC (tm rfl) rfl) (.as rfl rfl (.as rfl rfl ?_))))))))
     refine .nr (.mv rfl rfl (.mv rfl rfl (.cl rfl Tryz.call158 (evs2 rfl rfl) (mulB m1 (5 ^ k1) (afN hm1) (abH hm1 hk1).2 (abH hm1 hk1).1 _) (.mv rfl rfl (.p rfl (zC (tm rfl) rfl) (.p rfl (zC (tm rfl) rfl) (.as rfl rfl (.ng ?_))))))))
     refine .region (.mv rfl rfl (.as rfl rfl (.nil ?_)))
     exact ⟨rfl, (yE rfl (by (unfold ofR; rw [if_neg (by omega), hse]; done)) (yE rfl (by (unfold ofX; rw [if_neg (by omega), hse]; done)) (zA rfl (zA rfl zK)))), rfl⟩
 ·refine AWP.sub [(1, _), (7, _), (0, _), (6, _)] (zA rfl (zA rfl (zA rfl (zA rfl zK)))) ?_
  have hRB := beD hm he
  have hX := asF (m := m) he
  refine .sr (.mv rfl rfl (.mv rfl rfl (.cl rfl Tryz.call166 (evs1 rfl) (atG (ofR m e) hRB _) (.mv rfl rfl (.cl rfl Tryz.call34 (evs3 rfl rfl rfl) (aiV neg (dec (ofR m e)) (ofX m e) (aiC _) (Nat.le_trans (amM hRB) (by decide)) (by omega) _) (.mv rfl rfl (.p rfl (zC (tm rfl) rfl) (.p rfl (zC (tm rfl) rfl) ?_))))))))
  refine .s rfl (zR Tryz.zeroValue48 (zr48)) ?_
  rintro _ _ ⟨b10, hb10, rfl, hH⟩
  obtain rfl := hH.symm
  have hn6_10 := Heap.ne_of (Heap.objs_set_same _ _ _) hb10
  refine .e0 (zH Tryz.sizeOf48 (tm rfl) (tm rfl) rfl rfl (.inr ⟨_, rfl⟩) (Heap.objs_set_same _ _ _) (Nat.le_of_ble_eq_true rfl)) ?_
  try first | rw [Heap.set_set] | rw [Heap.set_under (by assumption)]
  refine .as rfl rfl (.ng ?_)
  refine AWP.frz (t := 10) rfl (hb10) ?_
  refine .sr (.p rfl (zY Tryz.isAgg48 Tryz.sizeOf48 (tm rfl) (Nat.le_of_ble_eq_true rfl)) (.e0 (zH Tryz.sizeOf48 (tm rfl) (tm rfl) rfl rfl (.inr ⟨_, rfl⟩) (Heap.objs_set_same _ _ _) (Nat.le_of_ble_eq_true rfl)) ?_))
  try first | rw [Heap.set_set] | rw [Heap.set_under (by assumption)]
  refine .ng ?_
  refine AWP.frz (t := 6) rfl (hb6) ?_
  refine .ret ?_
  refine Ret.go (.cons (.cellI _ _ _ _ rfl Tryz.isAgg48 Tryz.sizeOf48 rfl) .nil) _ (Heap.le.refl _) ?_
  refine ⟨?_, rfl⟩
  rw [beE]; rfl

def amN (x : Nat) : (Bool × List UInt8 × Int) × Int := if 3 ≤ qA x then ((false, [], 0), 11) else (ofN (negB x) (acD x) (aeF x), 0)
def abC (x n : Nat) : (Bool × List UInt8 × Int) × Int := if 3 ≤ qA x then ((false, [], 0), 11) else sigD (amN x).1.1 (amN x).1.2.1 (amN x).1.2.2 n
theorem asG (neg : Bool) (m : Nat) (e : Int) : qE (ofN neg m e).2.1 (ofN neg m e).2.2 = true := by
 rw [beE]
 exact apX (aiC _)
theorem axZ (x : Nat) : (amN x).2 = if 3 ≤ qA x then 11 else 0 := by unfold amN; split <;> rfl
theorem agJ (x : Nat) : qE (amN x).1.2.1 (amN x).1.2.2 = true := by
 unfold amN
 split
 ·rfl
 ·exact asG _ _ _

set_option maxRecDepth 100000 in
theorem ayH (x : Nat) (hx : x < 18446744073709551616) (H : Heap) : ACall Tryz.prog 75 [.int .u64 (x : Int)] H (fun y H' => y = dT (amN x) ∧ H' = H) := by
 have hpm := aeY x
 have hpe := adO x
 refine ACall.of_body Tryz.func75 rfl Tryz.ntmps75 Tryz.results75 rfl ?_
 refine .sr (.s rfl (zR Tryz.zeroValue48 (zr48)) ?_)
 rintro _ _ ⟨b2, hb2, rfl, hH⟩
 obtain rfl := hH.symm
 refine .p rfl (zB zD) (.ng (.seq (.sr (.mv rfl rfl (.cl rfl Tryz.call36 (evs1 rfl) (agL x hx _) (.p rfl (yW (tm rfl) zD) (.ng ?_)))))))
 refine AWP.cond (tm rfl) (fun hc9 => ?_) (fun hc9 => ?_)
 ·try simp only [decide_eq_true_eq] at hc9
  refine .sr (.p rfl (yH [(0, 1), (1, 1), (2, 1)] Tryz.underlying48 Tryz.zeroValue48 (zr48) rfl (pl48 _ Tryz.underlying48) .nil rfl) (.e0 (zH Tryz.sizeOf48 (tm rfl) (tm rfl) rfl rfl (.inr ⟨_, rfl⟩) (Heap.objs_set_same _ _ _) (Nat.le_of_ble_eq_true rfl)) ?_))
  try first | rw [Heap.set_set] | rw [Heap.set_under (by assumption)]
  refine .p rfl (zB zD) (.ng ?_)
  refine AWP.frz (t := 2) rfl (hb2) ?_
  refine .ret ?_
  refine Next.rt ?_
  refine Ret.go (.cons (.cellI _ _ _ _ rfl Tryz.isAgg48 Tryz.sizeOf48 rfl) (.cons (.tmp _ _ rfl) .nil)) _ (Heap.le.refl _) ?_
  refine ⟨?_, rfl⟩
  unfold amN
  rw [if_pos (by omega)]; rfl
 ·try simp only [decide_eq_false_iff_not, Int.not_le] at hc9
  refine .skip ?_
  refine Next.go ?_
  refine .sr (.mv rfl rfl (.cl rfl Tryz.call120 (evs1 rfl) (ahF x hx _) (.mv rfl rfl (.p rfl (zC (tm rfl) rfl) (.p rfl (zC (tm rfl) rfl) (.p rfl (zC (tm rfl) rfl) (.as rfl rfl (.as rfl rfl ?_))))))))
  refine .as rfl rfl (.nr (.mv rfl rfl (.mv rfl rfl (.cl rfl Tryz.call122 (evs1 rfl) (akE (acD x) (by omega) _) (.mv rfl rfl (.cl rfl Tryz.call121 (evs3 rfl rfl rfl) (bbS (negB x) (acD x) (aeF x) (by omega) hpe _) (.e0 (zH Tryz.sizeOf48 (tm rfl) (tm rfl) rfl rfl (.inr ⟨_, rfl⟩) (Heap.objs_set_same _ _ _) (Nat.le_of_ble_eq_true rfl)) ?_)))))))
  try first | rw [Heap.set_set] | rw [Heap.set_under (by assumption)]
  refine .p rfl (zB zD) (.ng ?_)
  refine AWP.frz (t := 2) rfl (hb2) ?_
  refine .ret ?_
  refine Ret.go (.cons (.cellI _ _ _ _ rfl Tryz.isAgg48 Tryz.sizeOf48 rfl) (.cons (.tmp _ _ rfl) .nil)) _ (Heap.le.refl _) ?_
  refine ⟨?_, rfl⟩
  unfold amN
  rw [if_neg (by omega)]; rfl

set_option maxRecDepth 100000 in
theorem ayG (x : Nat) (hx : x < 18446744073709551616) (n : Nat) (hn : 0 < n) (hn2 : n ≤ 100000) (H : Heap) : ACall Tryz.prog 42 [.int .u64 (x : Int), .int .i64 (n : Int), .int .i64 1] H (fun y H' => y = dT (abC x n) ∧ H' = H) := by
 refine ACall.of_body Tryz.func42 rfl Tryz.ntmps42 Tryz.results42 rfl ?_
 refine .sr (.s rfl (zR Tryz.zeroValue48 (zr48)) ?_)
 rintro _ _ ⟨b6, hb6, rfl, hH⟩
 obtain rfl := hH.symm
 refine .p rfl (zB zD) (.nr (.mv rfl rfl (.cl rfl Tryz.call75 (evs1 rfl) (ayH x hx _) (.mv rfl rfl (.p rfl (zC (tm rfl) rfl) (.p rfl (zC (tm rfl) rfl) (.s rfl (zR Tryz.zeroValue48 (zr48)) ?_)))))))
 rintro _ _ ⟨b8, hb8, rfl, hH⟩
 obtain rfl := hH.symm
 have hn6_8 := Heap.ne_of (Heap.objs_set_same _ _ _) hb8
 refine .e0 (zH Tryz.sizeOf48 (tm rfl) (tm rfl) rfl rfl (.inr ⟨_, rfl⟩) (Heap.objs_set_same _ _ _) (Nat.le_of_ble_eq_true rfl)) ?_
 try first | rw [Heap.set_set] | rw [Heap.set_under (by assumption)]
 refine .as rfl rfl (.ng ?_)
 refine AWP.frz (t := 8) rfl (hb8) ?_
 refine .seq (.sr (.mv rfl rfl (.p rfl (aaO (tm rfl) zD) (.ng ?_))))
 refine AWP.cond (tm rfl) (fun hc16 => ?_) (fun hc16 => ?_)
 ·try simp only [decide_eq_true_eq, ne_eq] at hc16
  have hk3 : 3 ≤ qA x := by rcases Nat.lt_or_ge (qA x) 3 with h | h; exact absurd (show (amN x).2 = 0 by unfold amN; rw [if_neg (by omega)]) (by assumption); exact h
  refine .sr (.p rfl (zY Tryz.isAgg48 Tryz.sizeOf48 (tm rfl) (Nat.le_of_ble_eq_true rfl)) (.mv rfl rfl (.e0 (zH Tryz.sizeOf48 (tm rfl) (tm rfl) rfl rfl (.inr ⟨_, rfl⟩) (Heap.objs_set_same _ _ _) (Nat.le_of_ble_eq_true rfl)) ?_)))
  try first | rw [Heap.set_set] | rw [Heap.set_under (by assumption)]
  refine .as rfl rfl (.ng ?_)
  refine AWP.frz (t := 6) rfl (hb6) ?_
  refine .ret ?_
  refine Next.rt ?_
  refine Ret.go (.cons (.cellI _ _ _ _ rfl Tryz.isAgg48 Tryz.sizeOf48 rfl) (.cons (.tmp _ _ rfl) .nil)) _ (Heap.le.refl _) ?_
  refine ⟨?_, rfl⟩
  unfold abC
  rw [if_pos hk3]
  rw [show amN x = ((false, [], 0), 11) by unfold amN; rw [if_pos hk3]]; rfl
 ·try simp only [decide_eq_false_iff_not, ne_eq, Decidable.not_not] at hc16
  have hk3 : ¬ 3 ≤ qA x := fun h => by rw [axZ, if_pos h] at hc16; exact absurd hc16 (by decide)
  refine .skip ?_
  refine Next.go ?_
  refine .sr (.p rfl (zY Tryz.isAgg48 Tryz.sizeOf48 (tm rfl) (Nat.le_of_ble_eq_true rfl)) (.mv rfl rfl (.mv rfl rfl (.cl rfl Tryz.call76 (evs3 rfl rfl rfl) (bgJ _ _ _ n (agJ x) hn hn2 _) (.p rfl (zC (tm rfl) rfl) (.p rfl (zC (tm rfl) rfl) (.e0 (zH Tryz.sizeOf48 (tm rfl) (tm rfl) rfl rfl (.inr ⟨_, rfl⟩) (Heap.objs_set_same _ _ _) (Nat.le_of_ble_eq_true rfl)) ?_)))))))
  try first | rw [Heap.set_set] | rw [Heap.set_under (by assumption)]
  refine .as rfl rfl (.ng ?_)
  refine AWP.frz (t := 6) rfl (hb6) ?_
  refine .ret ?_
  refine Ret.go (.cons (.cellI _ _ _ _ rfl Tryz.isAgg48 Tryz.sizeOf48 rfl) (.cons (.tmp _ _ rfl) .nil)) _ (Heap.le.refl _) ?_
  refine ⟨?_, rfl⟩
  unfold abC
  rw [if_neg hk3]; rfl

def rxof_J (neg : Bool) (m0 k0 b : Nat) (H : Heap) : Nat → Env → Heap → Prop := fun k env H1 => ∃ m k1 : Nat, m < 18014398509481984 ∧ k1 ≤ 1075 ∧ aeD m k1 = aeD m0 k0 ∧ env = [(0, .bool neg), (1, aaG m), (2, .int .i64 (-(k1 : Int))), (6, .ptr (some ⟨b, 0, none⟩))] ∧ H1 = H.set b (.box 48 [.bool false, .str [], .int .i64 0]) ∧ k = k1

set_option maxRecDepth 100000 in
theorem azA (neg : Bool) (m : Nat) (e : Int) (hm : m < 18014398509481984) (he : -1075 ≤ e ∧ e ≤ 972) (H : Heap) : ACall Tryz.prog 82 [.bool neg, aaG m, .int .i64 e] H (fun y H' => y = dD (ofN neg m e) ∧ H' = H) := by
 have hmB := afN hm
 have hRB := beD hm he
 have hX := asF (m := m) he
 have hml := yS hmB
 have hrl := yS hRB
 refine ACall.of_body Tryz.func82 rfl Tryz.ntmps82 Tryz.results82 rfl ?_
 refine .sr (.s rfl (zR Tryz.zeroValue48 (zr48)) ?_)
 rintro _ _ ⟨b6, hb6, rfl, hH⟩
 obtain rfl := hH.symm
 refine .ng (.seq (.sr (.mv rfl rfl (.p rfl (yW (tm rfl) zD) (.ng ?_)))))
 refine AWP.cond (tm rfl) (fun hc12 => ?_) (fun hc12 => ?_)
 ·try simp only [decide_eq_true_eq] at hc12
  have hR2 : m * 2 ^ e.toNat < BIG := ahI hm (by omega)
  refine .sr (.mv rfl rfl (.mv rfl rfl (.mv rfl rfl (.cl rfl Tryz.call57 (evs2 rfl rfl) (alG (zJ m) .shared (zN m) (by omega) e.toNat (by omega) e (by omega) (by rw [zT]; exact ahI hm (by omega)) _) ?_))))
  simp only [zT]
  refine .cl rfl Tryz.call126 (evs1 rfl) (ahL (zJ (m * 2 ^ e.toNat)) .shared (zN _) (by have := yS hR2; omega) (by rw [zT]; exact hR2) _) ?_
  simp only [zT]
  refine .cl rfl Tryz.call41 (.cons (tm rfl) (.cons (tm rfl) (.cons zD .nil))) (agY neg (dec (m * 2 ^ e.toNat)) 0 (aiC _) (Nat.le_trans (amM hR2) (by decide)) (by decide) _) (.mv rfl rfl (.p rfl (zC (tm rfl) rfl) (.p rfl (zC (tm rfl) rfl) (.s rfl (zR Tryz.zeroValue48 (zr48)) ?_))))
  rintro _ _ ⟨b7, hb7, rfl, hH⟩
  obtain rfl := hH.symm
  have hn6_7 := Heap.ne_of (Heap.objs_set_same _ _ _) hb7
  refine .e0 (zH Tryz.sizeOf48 (tm rfl) (tm rfl) rfl rfl (.inr ⟨_, rfl⟩) (Heap.objs_set_same _ _ _) (Nat.le_of_ble_eq_true rfl)) ?_
  try first | rw [Heap.set_set] | rw [Heap.set_under (by assumption)]
  refine .as rfl rfl (.ng ?_)
  refine AWP.frz (t := 7) rfl (hb7) ?_
  refine .sr (.p rfl (zY Tryz.isAgg48 Tryz.sizeOf48 (tm rfl) (Nat.le_of_ble_eq_true rfl)) (.e0 (zH Tryz.sizeOf48 (tm rfl) (tm rfl) rfl rfl (.inr ⟨_, rfl⟩) (Heap.objs_set_same _ _ _) (Nat.le_of_ble_eq_true rfl)) ?_))
  try first | rw [Heap.set_set] | rw [Heap.set_under (by assumption)]
  refine .ng ?_
  refine AWP.frz (t := 6) rfl (hb6) ?_
  refine .ret ?_
  refine Next.rt ?_
  refine Ret.go (.cons (.cellI _ _ _ _ rfl Tryz.isAgg48 Tryz.sizeOf48 rfl) .nil) _ (Heap.le.refl _) ?_
  refine ⟨?_, rfl⟩
  unfold ofN
  rw [if_pos (by omega)]; rfl
 ·try simp only [decide_eq_false_iff_not, Int.not_le] at hc12
  have hen : e = -(((-e).toNat : Nat) : Int) := by omega
  refine .skip ?_
  refine Next.go ?_
  refine .seq (.block ?_)
  refine AWP.loopW (rxof_J neg m (-e).toNat b6 H) ((-e).toNat) ⟨m, (-e).toNat, hm, by omega, rfl, rfl, rfl, rfl⟩ (zA rfl (zA rfl (yE rfl (by rw [← hen]) (zA rfl zK)))) (Heap.le.refl _) ?_
  rintro _ _ _ ⟨m1, k1, hm1, hk1, hst, rfl, rfl, hk⟩
  have hm1l := yS (afN hm1)
  refine .seq ?_
  refine AWP.seqTo 34 (.bool (decide (-(k1 : Int) < 0) && !decide (((m1 % 2 : Nat) : Int) = 1) && decide ((0 : Int) < ((zJ m1).length : Int)))) [0, 1, 2, 6] ?_ ?_
  ·-- region 4
   refine .region (.mv rfl rfl (.p rfl (zZ (tm rfl) zD) (.mv rfl rfl ?_)))
   refine zP (t := 25) rfl (fun hg25 => ?_) (fun hg25 => ?_)
   ·have hh25 := hg25; try simp only [decide_eq_true_eq] at hh25
    refine .gp rfl rfl rfl (by assumption) (zE (tm rfl)) (.gs rfl rfl rfl (by assumption) (zQ Tryz.call87 (.cons (tm rfl) (.cons zD .nil)) (aeJ (zJ m1) .shared (zN m1) (by omega) 0 (by decide) 0 rfl _)) ?_)
    rintro _ _ ⟨rfl, hH⟩
    obtain rfl := hH.symm
    rw [zT, Nat.pow_zero, Nat.div_one]
    refine .gp rfl rfl rfl (by assumption) (qO (tm rfl)) (.p rfl (zO (tm rfl) (by assumption) (tm rfl)) (.mv rfl rfl ?_))
    refine zP (t := 30) rfl (fun hg30 => ?_) (fun hg30 => ?_)
    ·have hh30 := hg30; try simp only [decide_eq_false_iff_not, Bool.not_eq_true'] at hh30
     refine .gp rfl rfl rfl (by assumption) (zE (tm rfl)) (.gp rfl rfl rfl (by assumption) (zV Tryz.underlying94 (tm rfl)) (.gp rfl rfl rfl (by assumption) (yC (tm rfl) zD) (.p rfl (zO (tm rfl) (by assumption) (tm rfl)) (.nil ?_))))
     exact ⟨rfl, yP rfl (by (rw [show decide (-(k1 : Int) < 0) = _ from hg25, show (!decide (((m1 % 2 : Nat) : Int) = 1)) = _ from hg30]; rfl)) (zA rfl (zA rfl (zA rfl (zA rfl zK)))), rfl⟩
    ·have hh30 := hg30; try simp only [decide_eq_true_eq, Bool.not_eq_false'] at hh30
     refine .gn rfl rfl rfl (by assumption) (.gn rfl rfl rfl (by assumption) (.gn rfl rfl rfl (by assumption) (.p rfl (zM (tm rfl) (by assumption) zL) (.nil ?_))))
     exact ⟨rfl, yP rfl (by (rw [show decide (-(k1 : Int) < 0) = _ from hg25, show (!decide (((m1 % 2 : Nat) : Int) = 1)) = _ from hg30]; rfl)) (zA rfl (zA rfl (zA rfl (zA rfl zK)))), rfl⟩
   ·have hh25 := hg25; try simp only [decide_eq_false_iff_not, Int.not_lt] at hh25
    refine .gn rfl rfl rfl (by assumption) (.gn rfl rfl rfl (by assumption) (.gn rfl rfl rfl (by assumption) (.p rfl (zM (tm rfl) (by assumption) zL) (.mv rfl rfl (.gn rfl rfl rfl (by rfl) (.gn rfl rfl rfl (by rfl) (.gn rfl rfl rfl (by rfl) (.p rfl (zM (tm rfl) (by rfl) zL) ?_))))))))
    refine .nil ?_
    exact ⟨rfl, yP rfl (by (rw [show decide (-(k1 : Int) < 0) = _ from hg25]; rfl)) (zA rfl (zA rfl (zA rfl (zA rfl zK)))), rfl⟩
  ·refine AWP.sub [(34, _), (0, _), (1, _), (2, _), (6, _)] (zA rfl (zA rfl (zA rfl (zA rfl (zA rfl zK))))) ?_
   refine AWP.cond (tm rfl) (fun hc34 => ?_) (fun hc34 => ?_)
   ·try simp only [decide_eq_true_eq, decide_eq_false_iff_not, Bool.not_eq_true', Bool.not_eq_false', Int.not_lt, Int.not_le, ne_eq, Decidable.not_not] at hc34
    simp only [Bool.and_eq_true, Bool.not_eq_true', decide_eq_true_eq, decide_eq_false_iff_not] at hc34
    obtain ⟨⟨hk0, hb0⟩, hl0⟩ := hc34
    have hm0 : 0 < m1 := by rcases Nat.eq_zero_or_pos m1 with h | h; rw [h] at hl0; exact absurd hl0 (by decide); exact h
    have hst2 := awK (m := m1) (k := k1) (by omega) hm0 (by omega)
    refine .skip ?_
    refine Next.go ?_
    refine .block (.sr (.mv rfl rfl (.e rfl (qV Tryz.underlying94 Tryz.sizeOf112 Tryz.zeroValue112 rfl (zI 2) (.inl rfl) ⟨rfl, rfl⟩) (.cl rfl Tryz.call56 (evs2 rfl rfl) (ajL (zJ m1) .shared (zN m1) (by omega) [2] .full (Limbs.mk (by decide) Limbs.nil) (by decide) (by decide) _) ?_))))
    rw [zT, show val [2] = 2 from rfl]
    refine .mv rfl rfl (.p rfl (zC (tm rfl) rfl) (.p rfl (zC (tm rfl) rfl) (.as rfl rfl (.ng (.region (.mv rfl rfl (.p rfl (zS (tm rfl) zD (by omega)) (.as rfl rfl ?_))))))))
    refine .nil ?_
    refine Block.go ?_
    refine Next.go ?_
    refine Round.mk (J := rxof_J neg m (-e).toNat b6 H) ⟨m1 / 2, k1 - 1, by omega, by omega, by rw [← hst2]; exact hst, rfl, rfl, rfl⟩ (zA rfl (zA rfl (yE rfl (by congr 1; omega) (zA rfl zK)))) (Heap.le.refl _) (by omega)
   ·try simp only [decide_eq_true_eq, decide_eq_false_iff_not, Bool.not_eq_true', Bool.not_eq_false', Int.not_lt, Int.not_le, ne_eq, Decidable.not_not] at hc34
    simp only [Bool.and_eq_false_iff, Bool.not_eq_false', decide_eq_true_eq, decide_eq_false_iff_not] at hc34
    have hse : aeD m1 k1 = (m1, k1) := arD (by
      rcases Nat.eq_zero_or_pos m1 with h | h
      ·exact .inr (.inl h)
      ·have hnl := agD h
       omega)
    rw [hst] at hse
    refine .exit ?_
    refine Next.ex ?_
    refine Next.ex ?_
    refine Block.hit ?_
    refine Next.go ?_
    refine .seq (.sr (.mv rfl rfl (.p rfl (zV Tryz.underlying94 (tm rfl)) (.p rfl (zX (tm rfl) zD) (.ng ?_)))))
    refine AWP.cond (tm rfl) (fun hc45 => ?_) (fun hc45 => ?_)
    ·try simp only [decide_eq_true_eq] at hc45
     refine .sr (.mv rfl rfl (.p rfl (yH [(0, 1), (1, 1), (2, 1)] Tryz.underlying48 Tryz.zeroValue48 (zr48) rfl (pl48 _ Tryz.underlying48) (.cons (tm rfl) (.inl rfl) .nil) rfl) (.e0 (zH Tryz.sizeOf48 (tm rfl) (tm rfl) rfl rfl (.inr ⟨_, rfl⟩) (Heap.objs_set_same _ _ _) (Nat.le_of_ble_eq_true rfl)) ?_)))
     try first | rw [Heap.set_set] | rw [Heap.set_under (by assumption)]
     refine .ng ?_
     refine AWP.frz (t := 6) rfl (hb6) ?_
     refine .ret ?_
     refine Next.rt ?_
     refine Ret.go (.cons (.cellI _ _ _ _ rfl Tryz.isAgg48 Tryz.sizeOf48 rfl) .nil) _ (Heap.le.refl _) ?_
     refine ⟨?_, rfl⟩
     have hm10 : m1 = 0 := anE.1 (by omega)
     unfold ofN
     rw [if_neg (by omega), hse, hm10, Nat.zero_mul, mk_zero]; rfl
    ·try simp only [decide_eq_false_iff_not] at hc45
     refine .skip ?_
     refine Next.go ?_
     refine .sr (.mv rfl rfl (.mv rfl rfl (.mv rfl rfl (.p rfl (aaU (tm rfl) (by omega)) (.cl rfl Tryz.call127 (evs1 rfl) (arO k1 (by omega) _ (by omega) (abH hm1 hk1).2 _) ?_)))))
     refine .cl rfl Tryz.call53 (evs2 rfl rfl) (acR (zJ m1) .shared (zN m1) (by omega) (zJ (5 ^ k1)) .shared (zN _) (by have := yS (abH hm1 hk1).2; omega) _) ?_
     simp only [zT]
     refine .cl rfl Tryz.call126 (evs1 rfl) (ahL (zJ (m1 * 5 ^ k1)) .shared (zN _) (by have := yS (abH hm1 hk1).1; omega) (by rw [zT]; exact (abH hm1 hk1).1) _) ?_
     simp only [zT]
     refine .mv rfl rfl (.cl rfl Tryz.call41 (evs3 rfl rfl rfl) (agY neg (dec (m1 * 5 ^ k1)) (-(k1 : Int)) (aiC _) (Nat.le_trans (amM (abH hm1 hk1).1) (by decide)) (by omega) _) (.mv rfl rfl (.p rfl (zC (tm rfl) rfl) (.p rfl (zC (tm rfl) rfl) (.s rfl (zR Tryz.zeroValue48 (zr48)) ?_)))))
     rintro _ _ ⟨b9, hb9, rfl, hH⟩
     obtain rfl := hH.symm
     have hn6_9 := Heap.ne_of (Heap.objs_set_same _ _ _) hb9
     refine .e0 (zH Tryz.sizeOf48 (tm rfl) (tm rfl) rfl rfl (.inr ⟨_, rfl⟩) (Heap.objs_set_same _ _ _) (Nat.le_of_ble_eq_true rfl)) ?_
     try first | rw [Heap.set_set] | rw [Heap.set_under (by assumption)]
     refine .as rfl rfl (.ng ?_)
     refine AWP.frz (t := 9) rfl (hb9) ?_
     refine .sr (.p rfl (zY Tryz.isAgg48 Tryz.sizeOf48 (tm rfl) (Nat.le_of_ble_eq_true rfl)) (.e0 (zH Tryz.sizeOf48 (tm rfl) (tm rfl) rfl rfl (.inr ⟨_, rfl⟩) (Heap.objs_set_same _ _ _) (Nat.le_of_ble_eq_true rfl)) ?_))
     try first | rw [Heap.set_set] | rw [Heap.set_under (by assumption)]
     refine .ng ?_
     refine AWP.frz (t := 6) rfl (hb6) ?_
     refine .ret ?_
     refine Ret.go (.cons (.cellI _ _ _ _ rfl Tryz.isAgg48 Tryz.sizeOf48 rfl) .nil) _ (Heap.le.refl _) ?_
     refine ⟨?_, rfl⟩
     unfold ofN
     rw [if_neg (by omega), hse]; rfl

set_option maxRecDepth 100000 in
theorem apJ (x : Nat) (hx : x < 18446744073709551616) (H : Heap) : ACall Tryz.prog 80 [.int .u64 (x : Int)] H (fun y H' => y = .bool (decide ((qA x : Int) < 3)) ∧ H' = H) := by
 refine ACall.of_body Tryz.func80 rfl Tryz.ntmps80 Tryz.results80 rfl ?_
 refine .sr (.p rfl (zB zL) (.nr (.mv rfl rfl (.cl rfl Tryz.call16 (evs1 rfl) (acH x hx _) (.p rfl (zZ (tm rfl) zD) (.as rfl rfl (.ng (.ret ?_))))))))
 refine Ret.go (.cons (.tmp _ _ rfl) .nil) _ (Heap.le.refl _) ?_
 exact ⟨rfl, rfl⟩

set_option maxRecDepth 100000 in
theorem atZ (x : Nat) (hx : x < 18446744073709551616) (H : Heap) : ACall Tryz.prog 48 [.int .u64 (x : Int)] H (fun y H' => y = dT (amN x) ∧ H' = H) := by
 have hpm := aeY x
 have hpe := adO x
 refine ACall.of_body Tryz.func48 rfl Tryz.ntmps48 Tryz.results48 rfl ?_
 refine .sr (.s rfl (zR Tryz.zeroValue48 (zr48)) ?_)
 rintro _ _ ⟨b2, hb2, rfl, hH⟩
 obtain rfl := hH.symm
 refine .p rfl (zB zD) (.nr (.mv rfl rfl (.cl rfl Tryz.call80 (evs1 rfl) (apJ x hx _) (.as rfl rfl (.ng (.seq (.sr (.mv rfl rfl ?_))))))))
 refine .p rfl (qO (tm rfl)) (.ng ?_)
 refine AWP.cond (tm rfl) (fun hc11 => ?_) (fun hc11 => ?_)
 ·try simp only [decide_eq_false_iff_not, Bool.not_eq_true', Int.not_lt] at hc11
  refine .sr (.p rfl (yH [(0, 1), (1, 1), (2, 1)] Tryz.underlying48 Tryz.zeroValue48 (zr48) rfl (pl48 _ Tryz.underlying48) .nil rfl) (.e0 (zH Tryz.sizeOf48 (tm rfl) (tm rfl) rfl rfl (.inr ⟨_, rfl⟩) (Heap.objs_set_same _ _ _) (Nat.le_of_ble_eq_true rfl)) ?_))
  try first | rw [Heap.set_set] | rw [Heap.set_under (by assumption)]
  refine .p rfl (zB zD) (.ng ?_)
  refine AWP.frz (t := 2) rfl (hb2) ?_
  refine .ret ?_
  refine Next.rt ?_
  refine Ret.go (.cons (.cellI _ _ _ _ rfl Tryz.isAgg48 Tryz.sizeOf48 rfl) (.cons (.tmp _ _ rfl) .nil)) _ (Heap.le.refl _) ?_
  refine ⟨?_, rfl⟩
  unfold amN
  rw [if_pos (by omega)]; rfl
 ·try simp only [decide_eq_true_eq, Bool.not_eq_false'] at hc11
  refine .skip ?_
  refine Next.go ?_
  refine .sr (.mv rfl rfl (.cl rfl Tryz.call81 (evs1 rfl) (arW x hx _) (.mv rfl rfl (.p rfl (zC (tm rfl) rfl) (.p rfl (zC (tm rfl) rfl) (.p rfl (zC (tm rfl) rfl) (.as rfl rfl (.as rfl rfl ?_))))))))
  refine .as rfl rfl (.nr (.mv rfl rfl (.mv rfl rfl (.cl rfl Tryz.call83 (evs1 rfl) (azM (acD x) (by omega) _) (.mv rfl rfl (.cl rfl Tryz.call82 (evs3 rfl rfl rfl) (azA (negB x) (acD x) (aeF x) (by omega) hpe _) (.e0 (zH Tryz.sizeOf48 (tm rfl) (tm rfl) rfl rfl (.inr ⟨_, rfl⟩) (Heap.objs_set_same _ _ _) (Nat.le_of_ble_eq_true rfl)) ?_)))))))
  try first | rw [Heap.set_set] | rw [Heap.set_under (by assumption)]
  refine .p rfl (zB zD) (.ng ?_)
  refine AWP.frz (t := 2) rfl (hb2) ?_
  refine .ret ?_
  refine Ret.go (.cons (.cellI _ _ _ _ rfl Tryz.isAgg48 Tryz.sizeOf48 rfl) (.cons (.tmp _ _ rfl) .nil)) _ (Heap.le.refl _) ?_
  refine ⟨?_, rfl⟩
  unfold amN
  rw [if_neg (by omega)]; rfl

set_option maxRecDepth 100000 in
theorem agW (x : Nat) (hx : x < 18446744073709551616) (n : Nat) (hn : 0 < n) (hn2 : n ≤ 100000) (H : Heap) : ACall Tryz.prog 17 [.int .u64 (x : Int), .int .i64 (n : Int), .int .i64 1] H (fun y H' => y = dT (abC x n) ∧ H' = H) := by
 refine ACall.of_body Tryz.func17 rfl Tryz.ntmps17 Tryz.results17 rfl ?_
 refine .sr (.s rfl (zR Tryz.zeroValue48 (zr48)) ?_)
 rintro _ _ ⟨b6, hb6, rfl, hH⟩
 obtain rfl := hH.symm
 refine .p rfl (zB zD) (.nr (.mv rfl rfl (.cl rfl Tryz.call48 (evs1 rfl) (atZ x hx _) (.mv rfl rfl (.p rfl (zC (tm rfl) rfl) (.p rfl (zC (tm rfl) rfl) (.s rfl (zR Tryz.zeroValue48 (zr48)) ?_)))))))
 rintro _ _ ⟨b8, hb8, rfl, hH⟩
 obtain rfl := hH.symm
 have hn6_8 := Heap.ne_of (Heap.objs_set_same _ _ _) hb8
 refine .e0 (zH Tryz.sizeOf48 (tm rfl) (tm rfl) rfl rfl (.inr ⟨_, rfl⟩) (Heap.objs_set_same _ _ _) (Nat.le_of_ble_eq_true rfl)) ?_
 try first | rw [Heap.set_set] | rw [Heap.set_under (by assumption)]
 refine .as rfl rfl (.ng ?_)
 refine AWP.frz (t := 8) rfl (hb8) ?_
 refine .seq (.sr (.mv rfl rfl (.p rfl (aaO (tm rfl) zD) (.ng ?_))))
 refine AWP.cond (tm rfl) (fun hc16 => ?_) (fun hc16 => ?_)
 ·try simp only [decide_eq_true_eq, ne_eq] at hc16
  have hk3 : 3 ≤ qA x := by rcases Nat.lt_or_ge (qA x) 3 with h | h; exact absurd (show (amN x).2 = 0 by unfold amN; rw [if_neg (by omega)]) (by assumption); exact h
  refine .sr (.p rfl (zY Tryz.isAgg48 Tryz.sizeOf48 (tm rfl) (Nat.le_of_ble_eq_true rfl)) (.mv rfl rfl (.e0 (zH Tryz.sizeOf48 (tm rfl) (tm rfl) rfl rfl (.inr ⟨_, rfl⟩) (Heap.objs_set_same _ _ _) (Nat.le_of_ble_eq_true rfl)) ?_)))
  try first | rw [Heap.set_set] | rw [Heap.set_under (by assumption)]
  refine .as rfl rfl (.ng ?_)
  refine AWP.frz (t := 6) rfl (hb6) ?_
  refine .ret ?_
  refine Next.rt ?_
  refine Ret.go (.cons (.cellI _ _ _ _ rfl Tryz.isAgg48 Tryz.sizeOf48 rfl) (.cons (.tmp _ _ rfl) .nil)) _ (Heap.le.refl _) ?_
  refine ⟨?_, rfl⟩
  unfold abC
  rw [if_pos hk3]
  rw [show amN x = ((false, [], 0), 11) by unfold amN; rw [if_pos hk3]]; rfl
 ·try simp only [decide_eq_false_iff_not, ne_eq, Decidable.not_not] at hc16
  have hk3 : ¬ 3 ≤ qA x := fun h => by rw [axZ, if_pos h] at hc16; exact absurd hc16 (by decide)
  refine .skip ?_
  refine Next.go ?_
  refine .sr (.p rfl (zY Tryz.isAgg48 Tryz.sizeOf48 (tm rfl) (Nat.le_of_ble_eq_true rfl)) (.mv rfl rfl (.mv rfl rfl (.cl rfl Tryz.call49 (evs3 rfl rfl rfl) (azK _ _ _ n (agJ x) hn hn2 _) (.p rfl (zC (tm rfl) rfl) (.p rfl (zC (tm rfl) rfl) (.e0 (zH Tryz.sizeOf48 (tm rfl) (tm rfl) rfl rfl (.inr ⟨_, rfl⟩) (Heap.objs_set_same _ _ _) (Nat.le_of_ble_eq_true rfl)) ?_)))))))
  try first | rw [Heap.set_set] | rw [Heap.set_under (by assumption)]
  refine .as rfl rfl (.ng ?_)
  refine AWP.frz (t := 6) rfl (hb6) ?_
  refine .ret ?_
  refine Ret.go (.cons (.cellI _ _ _ _ rfl Tryz.isAgg48 Tryz.sizeOf48 rfl) (.cons (.tmp _ _ rfl) .nil)) _ (Heap.le.refl _) ?_
  refine ⟨?_, rfl⟩
  unfold abC
  rw [if_neg hk3]; rfl
structure Loc where
 name : List UInt8
 dc : List UInt8
 grp : List UInt8
 lst : List UInt8
 minus : List UInt8
 pct : List UInt8
 cur : List UInt8
 first : Bool
 space : Bool
 second : Nat
def pL (l : Loc) (sz : AV) : AV := .agg [.str l.name, .str l.dc, .str l.grp, .str l.lst, .str l.minus, .str l.pct, .str l.cur, .bool l.first, .bool l.space, sz]
def rL (l : Loc) : AV := .agg [.str l.name, .str l.dc, .str l.grp, .str l.lst, .str l.minus, .str l.pct, .str l.cur, .bool l.first, .bool l.space, .int .i64 (l.second : Int)]
def Loc.ok (l : Loc) : Prop := l.dc.length ≤ 10 ∧ l.grp.length ≤ 10 ∧ l.minus.length ≤ 10 ∧ l.cur.length ≤ 10 ∧ l.pct.length ≤ 10
def qM (ds : List UInt8) (p : Int) : (List UInt8 × List UInt8) × Bool :=
 if 400 < p ∨ 400 < (ds.length : Int) - p then (([], []), false)
 else if p ≤ 0 then (([48], List.replicate (-p).toNat 48 ++ ds), true)
 else if (ds.length : Int) ≤ p then ((ds ++ List.replicate (p - ds.length).toNat 48, []), true)
 else ((ds.take p.toNat, ds.drop p.toNat), true)
def afE (l : Loc) (neg : Bool) (ds : List UInt8) (p : Int) : List UInt8 :=
 if (qM ds p).2 = true then (if neg = true then l.minus else []) ++ ((qM ds p).1.1 ++ (if (qM ds p).1.2 = [] then [] else l.dc ++ (qM ds p).1.2)) else []
theorem arJ {ds : List UInt8} {p : Int} (hl : ds.length ≤ 1100) : (qM ds p).1.1.length ≤ 2000 ∧ (qM ds p).1.2.length ≤ 2000 := by
 unfold qM
 split
 ·simp
 ·split
  ·simp only [List.length_append, List.length_replicate, List.length_cons, List.length_nil]; omega
  ·split
   ·simp only [List.length_append, List.length_replicate, List.length_nil]; omega
   ·simp only [List.length_take, List.length_drop]; omega
theorem bbU {l : Loc} {neg : Bool} {ds : List UInt8} {p : Int} (hl : ds.length ≤ 1100) (hk : l.ok) : (afE l neg ds p).length ≤ 5000 := by
 have h := arJ (p := p) hl
 obtain ⟨h1, h2, h3, h4, h5⟩ := hk
 unfold afE
 split
 ·simp only [List.length_append]
  have a1 : (if neg = true then l.minus else []).length ≤ 10 := by split <;> first | omega | (simp; done) | (simp; omega)
  have a2 : (if (qM ds p).1.2 = [] then [] else l.dc ++ (qM ds p).1.2).length ≤ 2010 := by split <;> first | omega | (simp; done) | (simp; omega)
  omega
 ·simp
theorem axA {ds : List UInt8} {e : Int} (h : qE ds e = true) : afF ds e = (ds.length : Int) + e := by unfold afF; rw [if_pos h]

set_option maxRecDepth 100000 in
theorem atS (neg : Bool) (ds : List UInt8) (e : Int) (hr : qE ds e = true) (H : Heap) : ACall Tryz.prog 59 [dA neg ds e] H (fun y H' => y = .tuple [.str (qM ds ((ds.length : Int) + e)).1.1, .str (qM ds ((ds.length : Int) + e)).1.2, .bool (qM ds ((ds.length : Int) + e)).2] ∧ H' = H) := by
 have hpd := axA hr
 have hrl := aaL hr
 have hdd := qS hr
 have hml := yB
 generalize hpp : (ds.length : Int) + e = p at *
 refine ACall.of_body Tryz.func59 rfl Tryz.ntmps59 Tryz.results59 rfl ?_
 refine .sr (.e rfl (yU (tm rfl) (.inr ⟨_, rfl⟩)) (.p rfl (zB (zU rfl)) (.p rfl (zB (zU rfl)) (.p rfl (zB zL) (.ng (.seq ?_))))))
 refine AWP.draw [(0, true), (2, true), (3, true), (4, true), (1, false), (5, true), (6, true)] rfl (by decide +kernel) ?_
 refine .p rfl rfl (zY Tryz.isAgg48 Tryz.sizeOf48 (tm rfl) (Nat.le_of_ble_eq_true rfl)) (.p rfl rfl (zG Tryz.underlying48 rfl Tryz.sizeOf9 (tm rfl)) (.p rfl rfl (zF Tryz.isAgg9 (tm rfl)) (.p rfl rfl (yF Tryz.underlying9 (tm rfl)) (.s rfl rfl (zQ Tryz.call43 (evs1 rfl) (ahG neg ds e hdd _)) ?_))))
 rintro _ _ ⟨rfl, hH⟩
 obtain rfl := hH.symm
 rw [hpd]
 refine .p rfl rfl (zB (tm rfl)) (.p rfl rfl (zB (tm rfl)) (.nil ?_))
 refine Next.go ?_
 refine .seq (.block (.sr (.mv rfl rfl (.p rfl (zX (tm rfl) zD) (.as rfl rfl (.ng ?_))))))
 refine AWP.cond (tm rfl) (fun hc12 => ?_) (fun hc12 => ?_)
 ·try simp only [decide_eq_true_eq] at hc12
  refine .sr (.p rfl (zB (zU rfl)) (.p rfl (zB (zU rfl)) (.p rfl (zB zL) (.ng (.ret ?_)))))
  refine Block.rt ?_
  refine Next.rt ?_
  refine Ret.go (.cons (.tmp _ _ rfl) (.cons (.tmp _ _ rfl) (.cons (.tmp _ _ rfl) .nil))) _ (Heap.le.refl _) ?_
  refine ⟨?_, rfl⟩
  unfold qM
  have hn0 : ds = [] := List.length_eq_zero_iff.1 (by omega)
  have he0 : p = 0 := by rw [hn0] at hpp; have he := hr; rw [hn0] at he; unfold qE at he; rw [if_pos rfl] at he; have := of_decide_eq_true he; simp only [List.length_nil] at hpp; omega
  rw [hn0, he0]; rfl
 ·try simp only [decide_eq_false_iff_not] at hc12
  refine AWP.seqTo 15 (.bool (decide ((400 : Int) < p) || decide ((400 : Int) < (ds.length : Int) - p))) [1, 2, 3, 4, 5, 6] ?_ ?_
  ·-- region 4
   refine .region (.mv rfl rfl (.p rfl (yC (tm rfl) zD) (.mv rfl rfl ?_)))
   refine zP (t := 18) rfl (fun hg18 => ?_) (fun hg18 => ?_)
   ·have hh18 := hg18; try simp only [decide_eq_true_eq] at hh18
    refine .gn rfl rfl rfl (by assumption) (.gn rfl rfl rfl (by assumption) (.gn rfl rfl rfl (by assumption) (.gn rfl rfl rfl (by assumption) (.p rfl (zO (tm rfl) (by assumption) zL) (.as rfl rfl (.nil ?_))))))
    exact ⟨rfl, yP rfl (by (rw [show decide ((400 : Int) < p) = _ from hg18]; rfl)) (zA rfl (zA rfl (zA rfl (zA rfl (zA rfl (zA rfl zK)))))), rfl⟩
   ·have hh18 := hg18; try simp only [decide_eq_false_iff_not, Int.not_lt] at hh18
    refine .gp rfl rfl rfl (by assumption) (zE (tm rfl)) (.gp rfl rfl rfl (by assumption) (zE (tm rfl)) (.gp rfl rfl rfl (by assumption) (zW (tm rfl) (tm rfl) (by omega)) (.gp rfl rfl rfl (by assumption) (yC (tm rfl) zD) (.p rfl (zM (tm rfl) (by assumption) (tm rfl)) (.as rfl rfl (.nil ?_))))))
    exact ⟨rfl, yP rfl (by (rw [show decide ((400 : Int) < p) = _ from hg18]; rfl)) (zA rfl (zA rfl (zA rfl (zA rfl (zA rfl (zA rfl zK)))))), rfl⟩
  ·refine AWP.sub [(15, _), (1, _), (2, _), (3, _), (4, _), (5, _), (6, _)] (zA rfl (zA rfl (zA rfl (zA rfl (zA rfl (zA rfl (zA rfl zK))))))) ?_
   refine AWP.cond (tm rfl) (fun hc15 => ?_) (fun hc15 => ?_)
   ·try simp only [decide_eq_true_eq, decide_eq_false_iff_not, Bool.not_eq_true', Bool.not_eq_false', Int.not_lt, Int.not_le, ne_eq, Decidable.not_not] at hc15
    simp only [Bool.or_eq_true, decide_eq_true_eq] at hc15
    refine .sr (.p rfl (zB (zU rfl)) (.p rfl (zB (zU rfl)) (.p rfl (zB zL) (.ng (.ret ?_)))))
    refine Block.rt ?_
    refine Next.rt ?_
    refine Ret.go (.cons (.tmp _ _ rfl) (.cons (.tmp _ _ rfl) (.cons (.tmp _ _ rfl) .nil))) _ (Heap.le.refl _) ?_
    refine ⟨?_, rfl⟩
    unfold qM
    rw [if_pos hc15]; rfl
   ·try simp only [decide_eq_true_eq, decide_eq_false_iff_not, Bool.not_eq_true', Bool.not_eq_false', Int.not_lt, Int.not_le, ne_eq, Decidable.not_not] at hc15
    simp only [Bool.or_eq_false_iff, decide_eq_false_iff_not] at hc15
    refine .sr (.mv rfl rfl (.p rfl (abJ (tm rfl) zD) (.as rfl rfl (.ng ?_))))
    refine AWP.cond (tm rfl) (fun hc24 => ?_) (fun hc24 => ?_)
    ·try simp only [decide_eq_true_eq] at hc24
     refine .seq ?_
     refine AWP.draw [(0, true), (1, true), (3, true), (4, true), (2, false), (5, true), (6, true), (7, true), (8, true)] rfl (by decide +kernel) ?_
     refine .p rfl rfl (zE (tm rfl)) (.p rfl rfl (aaU (tm rfl) (by omega)) (.p rfl rfl (zG Tryz.underlying48 rfl Tryz.sizeOf9 (tm rfl)) (.p rfl rfl (zF Tryz.isAgg9 (tm rfl)) (.s rfl rfl (zQ Tryz.call93 (.cons (zU rfl) (evs1 rfl)) (repeatZ 48 _ (-p).toNat (by omega) (by omega) _)) ?_))))
     rintro _ _ ⟨rfl, hH⟩
     obtain rfl := hH.symm
     refine .p rfl rfl (yY (tm rfl) (tm rfl) (by rw [yB, List.length_replicate]; omega)) (.p rfl rfl (zB (zU rfl)) (.p rfl rfl (zB (tm rfl)) (.p rfl rfl (zB zL) (.nil ?_))))
     refine Next.go ?_
     refine .ret ?_
     refine Block.rt ?_
     refine Next.rt ?_
     refine Ret.go (.cons (.tmp _ _ rfl) (.cons (.tmp _ _ rfl) (.cons (.tmp _ _ rfl) .nil))) _ (Heap.le.refl _) ?_
     refine ⟨?_, rfl⟩
     unfold qM
     rw [if_neg (by omega), if_pos (by omega)]; rfl
    ·try simp only [decide_eq_false_iff_not, Int.not_le] at hc24
     refine .sr (.mv rfl rfl (.mv rfl rfl (.p rfl (yW (tm rfl) (tm rfl)) (.as rfl rfl (.ng ?_)))))
     refine AWP.cond (tm rfl) (fun hc33 => ?_) (fun hc33 => ?_)
     ·try simp only [decide_eq_true_eq] at hc33
      refine .seq ?_
      refine AWP.draw [(0, true), (1, true), (2, true), (3, true), (4, true), (5, false), (6, true), (7, true), (8, true), (9, true)] rfl (by decide +kernel) ?_
      refine .p rfl rfl (zG Tryz.underlying48 rfl Tryz.sizeOf9 (tm rfl)) (.p rfl rfl (zF Tryz.isAgg9 (tm rfl)) (.p rfl rfl (zE (tm rfl)) (.p rfl rfl (zE (tm rfl)) (.p rfl rfl (zW (tm rfl) (tm rfl) (by omega)) (.s rfl rfl (zQ Tryz.call93 (.cons (zU rfl) (evs1 rfl)) (repeatZ 48 _ (p - ds.length).toNat (by omega) (by omega) _)) ?_)))))
      rintro _ _ ⟨rfl, hH⟩
      obtain rfl := hH.symm
      refine .p rfl rfl (yY (tm rfl) (tm rfl) (by rw [yB, List.length_replicate]; omega)) (.p rfl rfl (zB (tm rfl)) (.p rfl rfl (zB (zU rfl)) (.p rfl rfl (zB zL) (.nil ?_))))
      refine Next.go ?_
      refine .ret ?_
      refine Block.rt ?_
      refine Next.rt ?_
      refine Ret.go (.cons (.tmp _ _ rfl) (.cons (.tmp _ _ rfl) (.cons (.tmp _ _ rfl) .nil))) _ (Heap.le.refl _) ?_
      refine ⟨?_, rfl⟩
      unfold qM
      rw [if_neg (by omega), if_neg (by omega), if_pos (by omega)]; rfl
     ·try simp only [decide_eq_false_iff_not, Int.not_le] at hc33
      refine .skip ?_
      refine Block.go ?_
      refine Next.go ?_
      refine .seq ?_
      refine AWP.draw [(0, true), (1, true), (2, true), (3, true), (4, true), (5, true), (6, true), (7, true), (8, true), (9, true), (10, true)] rfl (by decide +kernel) ?_
      refine .p rfl rfl (zG Tryz.underlying48 rfl Tryz.sizeOf9 (tm rfl)) (.p rfl rfl (zF Tryz.isAgg9 (tm rfl)) (.p rfl rfl (zE (tm rfl)) (.p rfl rfl (aaP Tryz.underlying9 (tm rfl) (tm rfl) (by omega) (by omega)) (.p rfl rfl (zG Tryz.underlying48 rfl Tryz.sizeOf9 (tm rfl)) (.p rfl rfl (zF Tryz.isAgg9 (tm rfl)) (.p rfl rfl (zE (tm rfl)) (.p rfl rfl (aaX Tryz.underlying9 (tm rfl) (tm rfl) (by omega) (by omega)) (.p rfl rfl (zB (tm rfl)) ?_))))))))
      refine .p rfl rfl (zB (tm rfl)) (.p rfl rfl (zB zL) (.nil ?_))
      refine Next.go ?_
      refine .ret ?_
      refine Ret.go (.cons (.tmp _ _ rfl) (.cons (.tmp _ _ rfl) (.cons (.tmp _ _ rfl) .nil))) _ (Heap.le.refl _) ?_
      refine ⟨?_, rfl⟩
      unfold qM
      rw [if_neg (by omega), if_neg (by omega), if_neg (by omega)]; rfl

set_option maxRecDepth 100000 in
theorem amS (l : Loc) (hk : l.ok) (sz : AV) (neg : Bool) (ds : List UInt8) (e : Int) (hr : qE ds e = true) (H : Heap) : ACall Tryz.prog 20 [pL l sz, dA neg ds e, .bool false] H (fun y H' => y = .str (afE l neg ds ((ds.length : Int) + e)) ∧ H' = H) := by
 have hsl := arJ (ds := ds) (p := (ds.length : Int) + e) (aaL hr).1
 have hml := yB
 have hdd := qS hr
 obtain ⟨hk1, hk2, hk3, hk4, hk5⟩ := hk
 generalize hsv : qM ds ((ds.length : Int) + e) = sv at *
 obtain ⟨⟨w, r⟩, ok⟩ := sv
 obtain ⟨hsl1, hsl2⟩ := hsl
 simp only [] at hsl1 hsl2
 refine ACall.of_body Tryz.func20 rfl Tryz.ntmps20 Tryz.results20 rfl ?_
 refine .sr (.e rfl (yU (tm rfl) (.inr ⟨_, rfl⟩)) (.e rfl (yU (tm rfl) (.inr ⟨_, rfl⟩)) (.p rfl (zB (zU rfl)) (.nr (.p rfl (zY Tryz.isAgg48 Tryz.sizeOf48 (tm rfl) (Nat.le_of_ble_eq_true rfl)) (.cl rfl Tryz.call59 (evs1 rfl) (atS neg ds e hr _) ?_))))))
 rw [hsv]
 dsimp only
 refine .mv rfl rfl (.p rfl (zC (tm rfl) rfl) (.p rfl (zC (tm rfl) rfl) (.p rfl (zC (tm rfl) rfl) (.as rfl rfl (.as rfl rfl (.as rfl rfl (.ng (.seq ?_))))))))
 refine AWP.seqTo 22 (.bool (!ok)) [2, 3, 4, 6, 7, 8] ?_ ?_
 ·-- region 2
  refine .region (.mv rfl rfl (.p rfl (qO (tm rfl)) (.mv rfl rfl ?_)))
  refine zP (t := 18) rfl (fun hg18 => ?_) (fun hg18 => ?_)
  ·have hh18 := hg18; try simp only [Bool.not_eq_true'] at hh18
   refine .gn rfl rfl rfl (by assumption) (.gn rfl rfl rfl (by assumption) (.gn rfl rfl rfl (by assumption) (.p rfl (zO (tm rfl) (by assumption) zL) (.nil ?_))))
   exact ⟨rfl, yP rfl (by (cases ok <;> first | rfl | (simp at hg18))) (zA rfl (zA rfl (zA rfl (zA rfl (zA rfl (zA rfl zK)))))), rfl⟩
  ·have hh18 := hg18; try simp only [Bool.not_eq_false'] at hh18
   refine .gp rfl rfl rfl (by assumption) (zY Tryz.isAgg48 Tryz.sizeOf48 (tm rfl) (Nat.le_of_ble_eq_true rfl)) (.gs rfl rfl rfl (by assumption) (zQ Tryz.call60 (evs1 rfl) (adR neg ds e hdd _)) ?_)
   rintro _ _ ⟨rfl, hH⟩
   obtain rfl := hH.symm
   rw [hr]
   refine .gp rfl rfl rfl (by assumption) (qO (tm rfl)) (.p rfl (zM (tm rfl) (by assumption) (tm rfl)) (.nil ?_))
   exact ⟨rfl, yP rfl (by (cases ok <;> first | rfl | (simp at hg18))) (zA rfl (zA rfl (zA rfl (zA rfl (zA rfl (zA rfl zK)))))), rfl⟩
 ·refine AWP.sub [(22, _), (2, _), (3, _), (4, _), (6, _), (7, _), (8, _)] (zA rfl (zA rfl (zA rfl (zA rfl (zA rfl (zA rfl (zA rfl zK))))))) ?_
  refine AWP.cond (tm rfl) (fun hc22 => ?_) (fun hc22 => ?_)
  ·try simp only [Bool.not_eq_true'] at hc22
   refine .sr (.p rfl (zB (zU rfl)) (.ng (.ret ?_)))
   refine Next.rt ?_
   refine Ret.go (.cons (.tmp _ _ rfl) .nil) _ (Heap.le.refl _) ?_
   refine ⟨?_, rfl⟩
   unfold afE
   rw [hsv]
   simp only []
   rw [if_neg (show ¬ ok = true by simpa using hc22)]; rfl
  ·try simp only [Bool.not_eq_false'] at hc22
   refine .skip ?_
   refine Next.go ?_
   refine .seq (.sr (.mv rfl rfl (.ng ?_)))
   refine AWP.cond_false (tm rfl) (by rfl) ?_
   refine .skip ?_
   refine Next.go ?_
   refine AWP.seqToL [(7, .str ((if neg = true then l.minus else []) ++ w))] [3, 6, 8] ?_ ?_
   ·refine .sr (.p rfl (zG Tryz.underlying48 rfl Tryz.sizeOf4 (tm rfl)) (.p rfl (zF Tryz.isAgg4 (tm rfl)) (.ng ?_)))
    refine AWP.cond (tm rfl) (fun hc28 => ?_) (fun hc28 => ?_)
    ·try simp only [decide_eq_true_eq, decide_eq_false_iff_not, Bool.not_eq_true', Bool.not_eq_false', Int.not_lt, Int.not_le, ne_eq, Decidable.not_not] at hc28
     refine .region (.p rfl (zG Tryz.underlying25 rfl Tryz.sizeOf9 (tm rfl)) (.p rfl (zF Tryz.isAgg9 (tm rfl)) (.mv rfl rfl (.p rfl (yY (tm rfl) (tm rfl) (by rw [yB]; omega)) (.as rfl rfl (.nil ?_))))))
     exact ⟨rfl, (yE rfl (by (rw [if_pos (by assumption)]; done)) (zA rfl (zA rfl (zA rfl zK)))), rfl⟩
    ·try simp only [decide_eq_true_eq, decide_eq_false_iff_not, Bool.not_eq_true', Bool.not_eq_false', Int.not_lt, Int.not_le, ne_eq, Decidable.not_not] at hc28
     refine .skip ?_
     exact ⟨rfl, (yE rfl (by (rw [if_neg (by (rw [hc28]; decide))]; rfl)) (zA rfl (zA rfl (zA rfl zK)))), rfl⟩
   ·refine AWP.sub [(7, _), (3, _), (6, _), (8, _)] (zA rfl (zA rfl (zA rfl (zA rfl zK)))) ?_
    have hmw : (if neg = true then l.minus else []).length ≤ 10 := by split <;> first | omega | (simp; done) | (simp; omega)
    refine .seq (.sr (.mv rfl rfl (.p rfl (qP (tm rfl) (zU rfl)) (.ng ?_))))
    refine AWP.cond (tm rfl) (fun hc34 => ?_) (fun hc34 => ?_)
    ·try simp only [decide_eq_false_iff_not, Bool.not_eq_true'] at hc34
     refine .region (.mv rfl rfl (.p rfl (zG Tryz.underlying25 rfl Tryz.sizeOf9 (tm rfl)) (.p rfl (zF Tryz.isAgg9 (tm rfl)) (.mv rfl rfl (.p rfl (yY (tm rfl) (tm rfl) (by rw [yB]; omega)) (.p rfl (yY (tm rfl) (tm rfl) (by simp only [yB, List.length_append]; first | omega | (split <;> first | omega | (simp; done) | (simp; omega)))) (.as rfl rfl (.nr ?_))))))))
     refine .mv rfl rfl (.as rfl rfl (.ng (.ret ?_)))
     refine Ret.go (.cons (.tmp _ _ rfl) .nil) _ (Heap.le.refl _) ?_
     refine ⟨?_, rfl⟩
     unfold afE
     rw [hsv]
     simp only []
     rw [if_pos (show ok = true by simpa using hc22), if_neg (show ¬ r = [] by simpa using hc34), List.append_assoc]; rfl
    ·try simp only [decide_eq_true_eq, Bool.not_eq_false'] at hc34
     refine .skip ?_
     refine Next.go ?_
     refine .sr (.mv rfl rfl (.as rfl rfl (.ng (.ret ?_))))
     refine Ret.go (.cons (.tmp _ _ rfl) .nil) _ (Heap.le.refl _) ?_
     refine ⟨?_, rfl⟩
     unfold afE
     rw [hsv]
     simp only []
     rw [if_pos (show ok = true by simpa using hc22), if_pos (show r = [] by simpa using hc34), List.append_nil]; rfl

theorem itoaZ (q : Int) (n : Nat) (hq : q = (n : Int)) (hn : n ≤ 9223372036854775807) (H : Heap) : ACall Tryz.prog 44 [.int .i64 q] H (fun y H' => y = .str (dec n) ∧ H' = H) := by
 subst hq; exact itoaA n hn H
def anC (l : Loc) (neg : Bool) (ds : List UInt8) : List UInt8 := (if neg = true then l.minus else []) ++ ds.take 1 ++ (if (1 : Int) < (ds.length : Int) then l.dc ++ ds.drop 1 else [])
def acX (p : Int) : Nat := (if p < 1 then 1 - p else p - 1).toNat
def aqH (l : Loc) (s : (Bool × List UInt8 × Int) × Int) : List UInt8 :=
 if s.2 ≠ 0 then []
 else if s.1.2.1 = [] ∨ (-4 ≤ (s.1.2.1.length : Int) + s.1.2.2 ∧ (s.1.2.1.length : Int) + s.1.2.2 ≤ 15) then afE l s.1.1 s.1.2.1 ((s.1.2.1.length : Int) + s.1.2.2)
 else anC l s.1.1 s.1.2.1 ++ [69] ++ [if (s.1.2.1.length : Int) + s.1.2.2 < 1 then 45 else 43] ++ (if (dec (acX ((s.1.2.1.length : Int) + s.1.2.2))).length < 2 then [48] else []) ++ dec (acX ((s.1.2.1.length : Int) + s.1.2.2))
theorem bbT {l : Loc} {neg : Bool} {ds : List UInt8} (h : ds ≠ []) (hl : ds.length ≤ 300) : afE l neg ds 1 = anC l neg ds := by
 have hp := List.length_pos_iff.2 h
 unfold afE anC qM
 rw [if_neg (show ¬ ((400 : Int) < 1 ∨ 400 < (ds.length : Int) - 1) by omega), if_neg (show ¬ (1 : Int) ≤ 0 by decide)]
 by_cases h1 : (ds.length : Int) ≤ 1
 ·rw [if_pos h1, if_neg (show ¬ (1 : Int) < (ds.length : Int) by omega), List.take_of_length_le (show ds.length ≤ 1 by omega)]
  rw [show ((1 : Int) - (ds.length : Int)).toNat = 0 by omega]
  simp
 ·rw [if_neg h1, if_pos (show (1 : Int) < (ds.length : Int) by omega)]
  have hd : ds.drop 1 ≠ [] := fun q => by have := congrArg List.length q; rw [List.length_drop] at this; simp only [List.length_nil] at this; omega
  show (if true = true then _ ++ (ds.take 1 ++ (if ds.drop 1 = [] then [] else l.dc ++ ds.drop 1)) else []) = _
  rw [if_pos rfl, if_neg hd, List.append_assoc]
theorem aaK (x n : Nat) : qE (abC x n).1.2.1 (abC x n).1.2.2 = true := by
 unfold abC
 split
 ·rfl
 ·unfold sigD
  split
  ·exact agJ x
  ·unfold cutD
   have hd := qS (agJ x)
   exact apX (by split; exact amD (hd.take _); exact hd.take _)
theorem mk_len (neg : Bool) (ds : List UInt8) (e : Int) : (mkN neg ds e).1.2.1.length ≤ ds.length := by
 have h : (abP ds).length ≤ ds.length := Nat.le_trans (afL _ _) (amJ _ _)
 unfold mkN
 split
 ·simp
 ·split
  ·exact h
  ·simp
theorem afY (x n : Nat) : (abC x n).1.2.1.length ≤ n + 1 := by
 unfold abC
 split
 ·simp
 ·unfold sigD
  split
  ·rename_i h; exact Nat.le_succ_of_le h
  ·unfold cutD
   refine Nat.le_trans (mk_len _ _ _) ?_
   split
   ·refine Nat.le_trans (akB _) ?_
    rw [List.length_take]; omega
   ·rw [List.length_take]; omega

set_option maxRecDepth 100000 in
theorem adC (l : Loc) (hk : l.ok) (sz : AV) (x : Nat) (hx : x < 18446744073709551616) (H : Heap) : ACall Tryz.prog 14 [.int .u64 (x : Int), pL l sz] H (fun y H' => y = .str (aqH l (abC x 15)) ∧ H' = H) := by
 have hsr := aaK x 15
 have hsl := afY x 15
 generalize hs : abC x 15 = s at *
 obtain ⟨⟨neg, ds, e⟩, er⟩ := s
 dsimp only at hsr hsl
 have hml := yB
 have hrl := aaL hsr
 have hdd := qS hsr
 have hpd := axA hsr
 have hwl := bbU (l := l) (neg := neg) (ds := ds) (p := (ds.length : Int) + e) (by omega) hk
 have hkk := hk
 obtain ⟨hk1, hk2, hk3, hk4, hk5⟩ := hkk
 have hel : (dec (acX ((ds.length : Int) + e))).length ≤ 10 := (afV (by decide)).2 (by unfold acX; split <;> omega)
 have hmn : (anC l neg ds).length ≤ 200 := by
  unfold anC
  have a1 : (if neg = true then l.minus else []).length ≤ 10 := by split <;> first | omega | (simp; done)
  have a2 : (if (1 : Int) < (ds.length : Int) then l.dc ++ ds.drop 1 else []).length ≤ 110 := by split <;> simp only [List.length_append, List.length_drop, List.length_nil] <;> omega
  simp only [List.length_append, List.length_take]; omega
 have hzl : (if (dec (acX ((ds.length : Int) + e))).length < 2 then ([48] : List UInt8) else []).length ≤ 1 := by split <;> simp
 refine ACall.of_body Tryz.func14 rfl Tryz.ntmps14 Tryz.results14 rfl ?_
 refine .sr (.e rfl (yU (tm rfl) (.inr ⟨_, rfl⟩)) (.p rfl (zB (zU rfl)) (.nr (.mv rfl rfl (.cl rfl Tryz.call42 (.cons (tm rfl) (.cons zD (.cons zD .nil))) (ayG x hx 15 (by decide) (by decide) _) ?_)))))
 rw [hs]
 unfold dT
 dsimp only
 refine .mv rfl rfl (.p rfl (zC (tm rfl) rfl) (.p rfl (zC (tm rfl) rfl) (.s rfl (zR Tryz.zeroValue48 (zr48)) ?_)))
 rintro _ _ ⟨b5, hb5, rfl, hH⟩
 obtain rfl := hH.symm
 refine .e0 (zH Tryz.sizeOf48 (tm rfl) (tm rfl) rfl rfl (.inr ⟨_, rfl⟩) (Heap.objs_set_same _ _ _) (Nat.le_of_ble_eq_true rfl)) ?_
 try first | rw [Heap.set_set] | rw [Heap.set_under (by assumption)]
 refine .as rfl rfl (.ng ?_)
 refine AWP.frz (t := 5) rfl (hb5) ?_
 refine .seq (.sr (.mv rfl rfl (.p rfl (aaO (tm rfl) zD) (.ng ?_))))
 refine AWP.cond (tm rfl) (fun hc16 => ?_) (fun hc16 => ?_)
 ·try simp only [decide_eq_true_eq, ne_eq] at hc16
  refine .sr (.p rfl (zB (zU rfl)) (.ng (.ret ?_)))
  refine Next.rt ?_
  refine Ret.go (.cons (.tmp _ _ rfl) .nil) _ (Heap.le.refl _) ?_
  refine ⟨?_, rfl⟩
  unfold aqH
  dsimp only
  rw [if_pos (show er ≠ 0 by simpa using hc16)]; rfl
 ·try simp only [decide_eq_false_iff_not, ne_eq, Decidable.not_not] at hc16
  have her : er = 0 := by simpa using hc16
  subst her
  refine .skip ?_
  refine Next.go ?_
  refine .sr (.p rfl (zY Tryz.isAgg48 Tryz.sizeOf48 (tm rfl) (Nat.le_of_ble_eq_true rfl)) (.cl rfl Tryz.call43 (evs1 rfl) (ahG neg ds e hdd _) ?_))
  rw [hpd]
  refine .as rfl rfl (.ng (.seq ?_))
  refine AWP.seqTo 29 (.bool (decide (ds = []) || (decide (-4 ≤ ((ds.length : Int) + e)) && decide (((ds.length : Int) + e) ≤ 15)))) [3, 4, 5, 7] ?_ ?_
  ·-- region 5
   refine .region (.p rfl (zG Tryz.underlying48 rfl Tryz.sizeOf9 (tm rfl)) (.p rfl (zF Tryz.isAgg9 (tm rfl)) (.p rfl (qN (tm rfl) (zU rfl)) (.mv rfl rfl ?_))))
   refine zP (t := 22) rfl (fun hg22 => ?_) (fun hg22 => ?_)
   ·have hh22 := hg22; try simp only [decide_eq_true_eq] at hh22
    refine .gn rfl rfl rfl (by assumption) (.gn rfl rfl rfl (by assumption) (.gn rfl rfl rfl (by assumption) ?_))
    refine AList.gdead rfl rfl rfl ?_
    refine AList.gdead rfl rfl rfl ?_
    refine .gn rfl rfl rfl (by assumption) (.p rfl (zO (tm rfl) (by assumption) zL) (.nil ?_))
    exact ⟨rfl, yP rfl (by (rw [show decide (ds = []) = _ from hg22]; rfl)) (zA rfl (zA rfl (zA rfl (zA rfl zK)))), rfl⟩
   ·have hh22 := hg22; try simp only [decide_eq_false_iff_not] at hh22
    refine .gp rfl rfl rfl (by assumption) (zE (tm rfl)) (.gp rfl rfl rfl (by assumption) (yW (tm rfl) zD) (.gp rfl rfl rfl (by assumption) (zE (tm rfl)) ?_))
    refine zP (t := 25) rfl (fun hg25 => ?_) (fun hg25 => ?_)
    ·have hh25 := hg25; try simp only [decide_eq_true_eq] at hh25
     refine .gp rfl rfl rfl (by assumption) (zE (tm rfl)) (.gp rfl rfl rfl (by assumption) (abJ (tm rfl) zD) (.gp rfl rfl rfl (by assumption) (zO (tm rfl) (by assumption) (tm rfl)) (.p rfl (zM (tm rfl) (by assumption) (tm rfl)) (.nil ?_))))
     exact ⟨rfl, yP rfl (by (rw [show decide (ds = []) = _ from hg22, show decide (-4 ≤ ((ds.length : Int) + e)) = _ from hg25]; rfl)) (zA rfl (zA rfl (zA rfl (zA rfl zK)))), rfl⟩
    ·have hh25 := hg25; try simp only [decide_eq_false_iff_not, Int.not_le] at hh25
     refine .gn rfl rfl rfl (by assumption) (.gn rfl rfl rfl (by assumption) (.gp rfl rfl rfl (by assumption) (zM (tm rfl) (by assumption) zL) (.p rfl (zM (tm rfl) (by assumption) (tm rfl)) (.nil ?_))))
     exact ⟨rfl, yP rfl (by (rw [show decide (ds = []) = _ from hg22, show decide (-4 ≤ ((ds.length : Int) + e)) = _ from hg25]; rfl)) (zA rfl (zA rfl (zA rfl (zA rfl zK)))), rfl⟩
  ·refine AWP.sub [(29, _), (3, _), (4, _), (5, _), (7, _)] (zA rfl (zA rfl (zA rfl (zA rfl (zA rfl zK))))) ?_
   refine AWP.cond (tm rfl) (fun hc29 => ?_) (fun hc29 => ?_)
   ·try simp only [decide_eq_true_eq, decide_eq_false_iff_not, Bool.not_eq_true', Bool.not_eq_false', Int.not_lt, Int.not_le, ne_eq, Decidable.not_not] at hc29
    simp only [Bool.or_eq_true, Bool.and_eq_true, decide_eq_true_eq] at hc29
    refine .sr (.p rfl (zY Tryz.isAgg25 Tryz.sizeOf25 (tm rfl) (Nat.le_of_ble_eq_true rfl)) (.p rfl (zY Tryz.isAgg48 Tryz.sizeOf48 (tm rfl) (Nat.le_of_ble_eq_true rfl)) (.cl rfl Tryz.call20 (.cons (tm rfl) (.cons (tm rfl) (.cons zL .nil))) (amS l hk sz neg ds e hsr _) (.as rfl rfl (.ng (.ret ?_))))))
    refine Next.rt ?_
    refine Ret.go (.cons (.tmp _ _ rfl) .nil) _ (Heap.le.refl _) ?_
    refine ⟨?_, rfl⟩
    unfold aqH
    dsimp only
    rw [if_neg (show ¬ ((0 : Int) ≠ 0) by simp), if_pos hc29]; rfl
   ·try simp only [decide_eq_true_eq, decide_eq_false_iff_not, Bool.not_eq_true', Bool.not_eq_false', Int.not_lt, Int.not_le, ne_eq, Decidable.not_not] at hc29
    simp only [Bool.or_eq_false_iff, Bool.and_eq_false_iff, decide_eq_false_iff_not] at hc29
    have hdn : ds ≠ [] := hc29.1
    have hdp := List.length_pos_iff.2 hdn
    have hr1 : qE ds (1 - (ds.length : Int)) = true := by
     have h := hsr
     rw [alB hdn] at h ⊢
     unfold alC at h ⊢
     simp only [Bool.and_eq_true, decide_eq_true_eq] at h ⊢
     refine ⟨⟨⟨⟨⟨h.1.1.1.1.1, by omega⟩, by omega⟩, h.1.1.2⟩, h.1.2⟩, h.2⟩
    refine .skip ?_
    refine Next.go ?_
    refine .sr (.p rfl (zY Tryz.isAgg25 Tryz.sizeOf25 (tm rfl) (Nat.le_of_ble_eq_true rfl)) (.p rfl (zG Tryz.underlying48 rfl Tryz.sizeOf4 (tm rfl)) (.p rfl (zF Tryz.isAgg4 (tm rfl)) (.p rfl (zG Tryz.underlying48 rfl Tryz.sizeOf9 (tm rfl)) (.p rfl (zF Tryz.isAgg9 (tm rfl)) (.p rfl (zG Tryz.underlying48 rfl Tryz.sizeOf9 (tm rfl)) (.p rfl (zF Tryz.isAgg9 (tm rfl)) (.p rfl (yF Tryz.underlying9 (tm rfl)) ?_))))))))
    refine .p rfl (zW zD (tm rfl) (by omega)) ?_
    refine .p rfl (yH [(0, 1), (1, 1), (2, 1)] Tryz.underlying48 Tryz.zeroValue48 (zr48) rfl (pl48 _ Tryz.underlying48) (.cons (tm rfl) (.inl rfl) (.cons (tm rfl) (.inl rfl) (.cons (tm rfl) (.inl rfl) .nil))) rfl) ?_
    refine .cl rfl Tryz.call20 (.cons (tm rfl) (.cons (tm rfl) (.cons zL .nil))) (amS l hk sz neg ds (1 - (ds.length : Int)) hr1 _) ?_
    rw [show (ds.length : Int) + (1 - (ds.length : Int)) = 1 by omega, bbT hdn (by omega)]
    refine .p rfl (yY (tm rfl) (zU rfl) (by rw [yB]; simp only [List.length_cons, List.length_nil]; omega)) (.as rfl rfl (.nr (.mv rfl rfl (.p rfl (zW (tm rfl) zD (by omega)) (.mv rfl rfl (.p rfl (zW zD (tm rfl) (by omega)) (.p rfl (acA (tm rfl) (tm rfl)) (.cl rfl Tryz.call44 (evs1 rfl) (itoaZ _ (acX ((ds.length : Int) + e)) (by unfold acX; simp only [avK]; split <;> split <;> omega) (by unfold acX; split <;> omega) _) ?_))))))))
    refine .as rfl rfl (.ng ?_)
    refine AWP.seqToL [(8, .str (anC l neg ds ++ [69] ++ [if ((ds.length : Int) + e) < 1 then 45 else 43]))] [4, 9] ?_ ?_
    ·refine .sr (.mv rfl rfl (.p rfl (zZ (tm rfl) zD) (.ng ?_)))
     refine AWP.cond (tm rfl) (fun hc52 => ?_) (fun hc52 => ?_)
     ·try simp only [decide_eq_true_eq] at hc52
      refine .region (.mv rfl rfl (.p rfl (yY (tm rfl) (zU rfl) (by rw [yB]; simp only [List.length_append, List.length_cons, List.length_nil]; omega)) (.as rfl rfl (.nil ?_))))
      exact ⟨rfl, (yE rfl (by (rw [if_pos (by assumption)]; done)) (zA rfl (zA rfl zK))), rfl⟩
     ·try simp only [decide_eq_false_iff_not, Int.not_lt] at hc52
      refine .region (.mv rfl rfl (.p rfl (yY (tm rfl) (zU rfl) (by rw [yB]; simp only [List.length_append, List.length_cons, List.length_nil]; omega)) (.as rfl rfl (.nil ?_))))
      exact ⟨rfl, (yE rfl (by (rw [if_neg (by omega)]; done)) (zA rfl (zA rfl zK))), rfl⟩
    ·refine AWP.sub [(8, _), (4, _), (9, _)] (zA rfl (zA rfl (zA rfl zK))) ?_
     refine AWP.seqToL [(8, .str (anC l neg ds ++ [69] ++ [if ((ds.length : Int) + e) < 1 then 45 else 43] ++ (if (dec (acX ((ds.length : Int) + e))).length < 2 then ([48] : List UInt8) else [])))] [4, 9] ?_ ?_
     ·refine .sr (.mv rfl rfl (.p rfl (yF Tryz.underlying9 (tm rfl)) (.p rfl (zZ (tm rfl) zD) (.ng ?_))))
      refine AWP.cond (tm rfl) (fun hc59 => ?_) (fun hc59 => ?_)
      ·try simp only [decide_eq_true_eq] at hc59
       refine .region (.mv rfl rfl (.p rfl (yY (tm rfl) (zU rfl) (by rw [yB]; simp only [List.length_append, List.length_cons, List.length_nil]; omega)) (.as rfl rfl (.nil ?_))))
       exact ⟨rfl, (yE rfl (by (rw [if_pos (show (dec (acX ((ds.length : Int) + e))).length < 2 by omega)]; done)) (zA rfl (zA rfl zK))), rfl⟩
      ·try simp only [decide_eq_false_iff_not, Int.not_lt] at hc59
       refine .skip ?_
       exact ⟨rfl, (yE rfl (by (rw [if_neg (show ¬ (dec (acX ((ds.length : Int) + e))).length < 2 by omega), List.append_nil]; done)) (zA rfl (zA rfl zK))), rfl⟩
     ·refine AWP.sub [(8, _), (4, _), (9, _)] (zA rfl (zA rfl (zA rfl zK))) ?_
      refine .sr (.mv rfl rfl (.mv rfl rfl (.p rfl (yY (tm rfl) (tm rfl) (by rw [yB]; simp only [List.length_append, List.length_cons, List.length_nil]; omega)) (.as rfl rfl (.ng (.ret ?_))))))
      refine Ret.go (.cons (.tmp _ _ rfl) .nil) _ (Heap.le.refl _) ?_
      refine ⟨?_, rfl⟩
      unfold aqH
      dsimp only
      rw [if_neg (show ¬ ((0 : Int) ≠ 0) by simp), if_neg (show ¬ (ds = [] ∨ (-4 ≤ ((ds.length : Int) + e) ∧ ((ds.length : Int) + e) ≤ 15)) by rintro (q | q); exact hdn q; omega)]; rfl
end Go.Proofs.YtfkeflcdadlmdaaGreatDoor
