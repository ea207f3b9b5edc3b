import Derived.Test.YtfkeflcdadlmdaaGreatDoorSsk
import Derived.Test.YtfkeflcdadlmdaaGreatDoorD1
namespace Go.Proofs.YtfkeflcdadlmdaaGreatDoor
open Go Go.RowKit

def aeW : Nat → Nat → Nat × Nat
 | m, 0 => (m, 0)
 | m, k + 1 => if m % 2 = 0 ∧ 0 < m then aeW (m / 2) k else (m, k + 1)
theorem aoD : ∀ (k m : Nat), (aeW m k).1 ≤ m ∧ (aeW m k).2 ≤ k
 | 0, m => ⟨Nat.le_refl _, Nat.le_refl _⟩
 | k + 1, m => by
  unfold aeW
  split
  ·have := aoD k (m / 2)
   omega
  ·exact ⟨Nat.le_refl _, Nat.le_refl _⟩
theorem strip_go {m k : Nat} (h : m % 2 = 0) (hm : 0 < m) (hk : 0 < k) : aeW m k = aeW (m / 2) (k - 1) := by
 obtain ⟨k, rfl⟩ : ∃ q, k = q + 1 := ⟨k - 1, by omega⟩
 rw [aeW, if_pos ⟨h, hm⟩]; rfl
theorem bbU {m k : Nat} (h : k = 0 ∨ m = 0 ∨ m % 2 ≠ 0) : aeW m k = (m, k) := by
 cases k with
 | zero => rfl
 | succ k => rw [aeW, if_neg (by omega)]
def ofN (neg : Bool) (m : Nat) (e : Int) : Bool × List UInt8 × Int :=
 if 0 ≤ e then (mkN neg (dec (m * 2 ^ e.toNat)) 0).1 else (mkN neg (dec ((aeW m (-e).toNat).1 * 5 ^ (aeW m (-e).toNat).2)) (-((aeW m (-e).toNat).2 : Int))).1
def ofR (m : Nat) (e : Int) : Nat := if 0 ≤ e then m * 2 ^ e.toNat else (aeW m (-e).toNat).1 * 5 ^ (aeW m (-e).toNat).2
def ofX (m : Nat) (e : Int) : Int := if 0 ≤ e then 0 else -((aeW m (-e).toNat).2 : Int)
theorem ofN_eq (neg : Bool) (m : Nat) (e : Int) : ofN neg m e = (mkN neg (dec (ofR m e)) (ofX m e)).1 := by
 unfold ofN ofR ofX
 split <;> rfl
def dD (d : Bool × List UInt8 × Int) : AV := dA d.1 d.2.1 d.2.2
theorem aqB {k : Nat} (hk : k ≤ 3300) : 18014398509481984 * 2 ^ k < BIG := by
 obtain ⟨K, hK, hB⟩ : ∃ K, K = 8192 ∧ BIG = 2 ^ K := ⟨32 * 256, rfl, amG _ rfl⟩
 rw [hB, show (18014398509481984 : Nat) = 2 ^ 54 by decide, ← Nat.pow_add]
 exact Nat.pow_lt_pow_right (by decide) (by omega)
theorem afN {m k : Nat} (hm : m < 18014398509481984) (hk : k ≤ 1075) : m * 5 ^ k < BIG ∧ 5 ^ k < BIG := by
 have h1 : 5 ^ k ≤ 2 ^ (3 * k) := by rw [Nat.pow_mul]; exact Nat.pow_le_pow_left (by decide) k
 have h0 : 5 ^ k ≤ 18014398509481984 * 5 ^ k := Nat.le_mul_of_pos_left _ (by decide)
 have h2 : 18014398509481984 * 5 ^ k < BIG := Nat.lt_of_le_of_lt (Nat.mul_le_mul_left _ h1) (aqB (by omega))
 exact ⟨Nat.lt_of_le_of_lt (Nat.mul_le_mul_right _ (by omega)) h2, Nat.lt_of_le_of_lt h0 h2⟩
theorem aqA {m k : Nat} (hm : m < 18014398509481984) (hk : k ≤ 972) : m * 2 ^ k < BIG := by
 exact Nat.lt_of_le_of_lt (Nat.mul_le_mul_right _ (by omega)) (aqB (by omega))
theorem akB {m : Nat} (hm : m < 18014398509481984) : m < BIG := Nat.lt_trans hm (by unfold BIG; decide +kernel)
theorem bdV {m : Nat} (h : 0 < m) : (zI m).getD 0 0 &&& 1 = m % 2 := by
 rw [qN h, List.getD_cons_zero, show (1 : Nat) = 2 ^ 1 - 1 by decide, Nat.and_two_pow_sub_one_eq_mod]
 omega
theorem ofR_lt {m : Nat} {e : Int} (hm : m < 18014398509481984) (he : -1075 ≤ e ∧ e ≤ 972) : ofR m e < BIG := by
 unfold ofR
 split
 ·exact aqA hm (by omega)
 ·have h := aoD (-e).toNat m
  exact (afN (by omega) (by omega)).1
theorem bdH {m : Nat} {e : Int} (he : -1075 ≤ e ∧ e ≤ 972) : -1075 ≤ ofX m e ∧ ofX m e ≤ 0 := by
 unfold ofX
 have h := aoD (-e).toNat m
 split <;> omega
theorem shlZ (a s : Nat) (q : Int) (hq : q = (s : Int)) (h : a * 2 ^ s < BIG) (hs : s < 1000000000) (H : Heap) : ACall Tryz.prog 161 [aaM a, .int .i64 q] H (fun y H' => y = .tuple [aaM (a * 2 ^ s), .int .i64 0] ∧ H' = H) := by
 subst hq; exact shlB a s h hs H
theorem powZ (b n : Nat) (q : Int) (hq : q = (n : Int)) (hb : 2 ≤ b) (hb2 : b ≤ 1000000) (hn2 : n < 1000000000) (h : b ^ n < BIG) (H : Heap) : ACall Tryz.prog 157 [.int .i64 (b : Int), .int .i64 q] H (fun y H' => y = .tuple [aaM (b ^ n), .int .i64 0] ∧ H' = H) := by
 subst hq; exact amE b n hb hb2 hn2 h H
def xof_J (neg : Bool) (m0 k0 b : Nat) (H : Heap) : Nat → Env → Heap → Prop := fun k env H1 => ∃ m k1 : Nat, m < 18014398509481984 ∧ k1 ≤ 1075 ∧ aeW m k1 = aeW m0 k0 ∧ env = [(0, .bool neg), (1, aaM m), (2, .int .i64 (-(k1 : Int))), (6, .ptr (some ⟨b, 0, none⟩))] ∧ H1 = H.set b (.box 48 [.bool false, .str [], .int .i64 0]) ∧ k = k1

set_option maxRecDepth 100000 in
theorem baZ (neg : Bool) (m : Nat) (e : Int) (hm : m < 18014398509481984) (he : -1075 ≤ e ∧ e ≤ 972) (H : Heap) : ACall Tryz.prog 121 [.bool neg, aaM m, .int .i64 e] H (fun y H' => y = dD (ofN neg m e) ∧ H' = H) := by
 have hmB := akB hm
 refine ACall.of_body Tryz.func121 rfl Tryz.ntmps121 Tryz.results121 rfl ?_
 refine .sr (.s rfl (zT Tryz.zeroValue48 (zr48)) ?_)
 rintro _ _ ⟨b6, hb6, rfl, hH⟩
 obtain rfl := hH.symm
 refine .nr (.p rfl (zB zE) (.ng ?_))
 refine AWP.seqToL [(1, aaM (ofR m e)), (7, .int .i64 (ofX m e))] [0, 6] ?_ ?_
 ·refine .sr (.mv rfl rfl (.p rfl (qH (tm rfl) zE) (.ng ?_)))
  refine AWP.cond (tm rfl) (fun hc13 => ?_) (fun hc13 => ?_)
  ·try simp only [decide_eq_true_eq] at hc13
   refine .region (.mv rfl rfl (.mv rfl rfl (.cl rfl Tryz.call161 (evs2 rfl rfl) (shlZ m e.toNat e (by omega) (aqA hm (by omega)) (by omega) _) (.mv rfl rfl (.p rfl (zD (tm rfl) rfl) (.p rfl (zD (tm rfl) rfl) (.as rfl rfl (.nil ?_))))))))
   exact ⟨rfl, (yH rfl (by (unfold ofR; rw [if_pos (by omega)]; done)) (yH rfl (by (unfold ofX; rw [if_pos (by omega)]; done)) (zA rfl (zA rfl zL)))), rfl⟩
  ·try simp only [decide_eq_false_iff_not, Int.not_le] at hc13
   have hen : e = -(((-e).toNat : Nat) : Int) := by omega
   refine .seq (.block ?_)
   refine AWP.loopW (xof_J neg m (-e).toNat b6 H) ((-e).toNat) ⟨m, (-e).toNat, hm, by omega, rfl, rfl, rfl, rfl⟩ (zA rfl (zA rfl (yH rfl (by rw [← hen]) (zA rfl zL)))) (Heap.le.refl _) ?_
   rintro _ _ _ ⟨m1, k1, hm1, hk1, hst, rfl, rfl, hk⟩
   have hg0 := Limbs.getD (zO m1) 0
   refine .seq ?_
   refine AWP.seqTo 33 (.bool (decide (-(k1 : Int) < 0) && decide ((0 : Int) < ((zI m1).length : Int)) && decide (((((zI m1).getD 0 0 &&& 1 : Nat)) : Int) = ((0 : Nat) : Int)))) [0, 1, 2, 6] ?_ ?_
   ·-- region 4
    refine .region (.mv rfl rfl (.p rfl (zY (tm rfl) zE) (.mv rfl rfl ?_)))
    refine zQ (t := 22) rfl (fun hg22 => ?_) (fun hg22 => ?_)
    ·have hh22 := hg22; try simp only [decide_eq_true_eq] at hh22
     refine .gp rfl rfl rfl (by assumption) (zC (tm rfl)) (.gp rfl rfl rfl (by assumption) (zW Tryz.underlying170 (tm rfl)) (.gp rfl rfl rfl (by assumption) (yF (tm rfl) zE) (.p rfl (zN (tm rfl) (by assumption) (tm rfl)) (.mv rfl rfl ?_))))
     refine zQ (t := 27) rfl (fun hg27 => ?_) (fun hg27 => ?_)
     ·have hh27 := hg27; try simp only [decide_eq_true_eq] at hh27
      refine .gp rfl rfl rfl (by assumption) (zC (tm rfl)) (.gp rfl rfl rfl (by assumption) (yE (0) Tryz.underlying170 Tryz.sizeOf112 (tm rfl) zE (by omega) (by omega)) (.gp rfl rfl rfl (by assumption) (zF Tryz.isAgg112 (tm rfl)) (.gp rfl rfl rfl (by assumption) (anG (tm rfl) (zJ 1) (by assumption) (by omega)) (.gp rfl rfl rfl (by assumption) (yA (tm rfl) (zJ 0)) (.p rfl (zN (tm rfl) (by assumption) (tm rfl)) (.nil ?_))))))
      exact ⟨rfl, yV rfl (by (rw [show decide (-(k1 : Int) < 0) = _ from hg22, show decide ((0 : Int) < ((zI m1).length : Int)) = _ from hg27]; rfl)) (zA rfl (zA rfl (zA rfl (zA rfl zL)))), rfl⟩
     ·have hh27 := hg27; try simp only [decide_eq_false_iff_not, Int.not_lt] at hh27
      refine .gn rfl rfl rfl (by assumption) (.gn rfl rfl rfl (by assumption) (.gn rfl rfl rfl (by assumption) (.gn rfl rfl rfl (by assumption) (.gn rfl rfl rfl (by assumption) (.p rfl (zM (tm rfl) (by assumption) zK) (.nil ?_))))))
      exact ⟨rfl, yV rfl (by (rw [show decide (-(k1 : Int) < 0) = _ from hg22, show decide ((0 : Int) < ((zI m1).length : Int)) = _ from hg27]; rfl)) (zA rfl (zA rfl (zA rfl (zA rfl zL)))), rfl⟩
    ·have hh22 := hg22; try simp only [decide_eq_false_iff_not, Int.not_lt] at hh22
     refine .gn rfl rfl rfl (by assumption) (.gn rfl rfl rfl (by assumption) (.gn rfl rfl rfl (by assumption) (.p rfl (zM (tm rfl) (by assumption) zK) (.mv rfl rfl (.gn rfl rfl rfl (by rfl) (.gn rfl rfl rfl (by rfl) (.gn rfl rfl rfl (by rfl) (.gn rfl rfl rfl (by rfl) ?_))))))))
     refine .gn rfl rfl rfl (by rfl) (.p rfl (zM (tm rfl) (by rfl) zK) (.nil ?_))
     exact ⟨rfl, yV rfl (by (rw [show decide (-(k1 : Int) < 0) = _ from hg22]; rfl)) (zA rfl (zA rfl (zA rfl (zA rfl zL)))), rfl⟩
   ·refine AWP.sub [(33, _), (0, _), (1, _), (2, _), (6, _)] (zA rfl (zA rfl (zA rfl (zA rfl (zA rfl zL))))) ?_
    refine AWP.cond (tm rfl) (fun hc33 => ?_) (fun hc33 => ?_)
    ·try simp only [decide_eq_true_eq, decide_eq_false_iff_not, Bool.not_eq_true', Bool.not_eq_false', Int.not_lt, Int.not_le, ne_eq, Decidable.not_not] at hc33
     simp only [Bool.and_eq_true, decide_eq_true_eq] at hc33
     obtain ⟨⟨hk0, hl0⟩, hb0⟩ := hc33
     have hm0 : 0 < m1 := by rcases Nat.eq_zero_or_pos m1 with h | h; rw [h] at hl0; exact absurd hl0 (by decide); exact h
     rw [bdV hm0] at hb0
     have hst2 := strip_go (m := m1) (k := k1) (by omega) hm0 (by omega)
     refine .skip ?_
     refine Next.go ?_
     refine .block (.sr (.mv rfl rfl (.cl rfl Tryz.call165 (.cons (tm rfl) (.cons zE .nil)) (shrB m1 1 (akB hm1) (by decide) _) (.mv rfl rfl (.p rfl (zD (tm rfl) rfl) (.p rfl (zD (tm rfl) rfl) (.p rfl (zD (tm rfl) rfl) (.as rfl rfl ?_))))))))
     refine .ng (.region (.mv rfl rfl (.p rfl (zR (tm rfl) zE (by omega)) (.as rfl rfl (.nil ?_)))))
     refine Block.go ?_
     refine Next.go ?_
     refine Round.mk (J := xof_J neg m (-e).toNat b6 H) ⟨m1 / 2, k1 - 1, by omega, by omega, by rw [← hst2]; exact hst, rfl, rfl, rfl⟩ (zA rfl (yH rfl (by rw [Nat.pow_one]) (yH rfl (by congr 1; omega) (zA rfl zL)))) (Heap.le.refl _) (by omega)
    ·try simp only [decide_eq_true_eq, decide_eq_false_iff_not, Bool.not_eq_true', Bool.not_eq_false', Int.not_lt, Int.not_le, ne_eq, Decidable.not_not] at hc33
     simp only [Bool.and_eq_false_iff, decide_eq_false_iff_not] at hc33
     have hse : aeW m1 k1 = (m1, k1) := bbU (by
       rcases Nat.eq_zero_or_pos m1 with h | h
       ·exact .inr (.inl h)
       ·have hnl := limbs_nz h
        rw [bdV h] at hc33
        omega)
     rw [hst] at hse
     refine .exit ?_
     refine Next.ex ?_
     refine Next.ex ?_
     refine Block.hit ?_
     refine Next.go ?_
     refine .sr (.mv rfl rfl (.p rfl (abB (tm rfl) (by omega)) (.cl rfl Tryz.call157 (.cons zE (evs1 rfl)) (powZ 5 k1 _ (by omega) (by decide) (by decide) (by omega) (afN hm1 hk1).2 _) (.mv rfl rfl (.p rfl (zD (tm rfl) rfl) (.p rfl (zD (tm rfl) rfl) (.as rfl rfl (.as rfl rfl ?_))))))))
     refine .nr (.mv rfl rfl (.mv rfl rfl (.cl rfl Tryz.call158 (evs2 rfl rfl) (mulB m1 (5 ^ k1) (akB hm1) (afN hm1 hk1).2 (afN hm1 hk1).1 _) (.mv rfl rfl (.p rfl (zD (tm rfl) rfl) (.p rfl (zD (tm rfl) rfl) (.as rfl rfl (.ng ?_))))))))
     refine .region (.mv rfl rfl (.as rfl rfl (.nil ?_)))
     exact ⟨rfl, (yH rfl (by (unfold ofR; rw [if_neg (by omega), hse]; done)) (yH rfl (by (unfold ofX; rw [if_neg (by omega), hse]; done)) (zA rfl (zA rfl zL)))), rfl⟩
 ·refine AWP.sub [(1, _), (7, _), (0, _), (6, _)] (zA rfl (zA rfl (zA rfl (zA rfl zL)))) ?_
  have hRB := ofR_lt hm he
  have hX := bdH (m := m) he
  refine .sr (.mv rfl rfl (.mv rfl rfl (.cl rfl Tryz.call166 (evs1 rfl) (asH (ofR m e) hRB _) (.mv rfl rfl (.cl rfl Tryz.call34 (evs3 rfl rfl rfl) (aiR neg (dec (ofR m e)) (ofX m e) (awX _) (Nat.le_trans (bfD hRB) (by decide)) (by omega) _) (.mv rfl rfl (.p rfl (zD (tm rfl) rfl) (.p rfl (zD (tm rfl) rfl) ?_))))))))
  refine .s rfl (zT Tryz.zeroValue48 (zr48)) ?_
  rintro _ _ ⟨b10, hb10, rfl, hH⟩
  obtain rfl := hH.symm
  have hn6_10 := Heap.ne_of (Heap.objs_set_same _ _ _) hb10
  refine .e0 (zH Tryz.sizeOf48 (tm rfl) (tm rfl) rfl rfl (.inr ⟨_, rfl⟩) (Heap.objs_set_same _ _ _) (Nat.le_of_ble_eq_true rfl)) ?_
  try first | rw [Heap.set_set] | rw [Heap.set_under (by assumption)]
  refine .as rfl rfl (.ng ?_)
  refine AWP.frz (t := 10) rfl (hb10) ?_
  refine .sr (.p rfl (zU Tryz.isAgg48 Tryz.sizeOf48 (tm rfl) (Nat.le_of_ble_eq_true rfl)) (.e0 (zH Tryz.sizeOf48 (tm rfl) (tm rfl) rfl rfl (.inr ⟨_, rfl⟩) (Heap.objs_set_same _ _ _) (Nat.le_of_ble_eq_true rfl)) ?_))
  try first | rw [Heap.set_set] | rw [Heap.set_under (by assumption)]
  refine .ng ?_
  refine AWP.frz (t := 6) rfl (hb6) ?_
  refine .ret ?_
  refine Ret.go (.cons (.cellI _ _ _ _ rfl Tryz.isAgg48 Tryz.sizeOf48 rfl) .nil) _ (Heap.le.refl _) ?_
  refine ⟨?_, rfl⟩
  rw [ofN_eq]; rfl

def auQ (x : Nat) : (Bool × List UInt8 × Int) × Int := if 3 ≤ yY x then ((false, [], 0), 11) else (ofN (negB x) (aeP x) (aiF x), 0)
def axX (x n : Nat) : (Bool × List UInt8 × Int) × Int := if 3 ≤ yY x then ((false, [], 0), 11) else sigD (auQ x).1.1 (auQ x).1.2.1 (auQ x).1.2.2 n
theorem bdI (neg : Bool) (m : Nat) (e : Int) : qG (ofN neg m e).2.1 (ofN neg m e).2.2 = true := by
 rw [ofN_eq]
 exact aoZ (awX _)
theorem decX_two (x : Nat) : (auQ x).2 = if 3 ≤ yY x then 11 else 0 := by unfold auQ; split <;> rfl
theorem aiM (x : Nat) : qG (auQ x).1.2.1 (auQ x).1.2.2 = true := by
 unfold auQ
 split
 ·rfl
 ·exact bdI _ _ _

set_option maxRecDepth 100000 in
theorem axH (x : Nat) (hx : x < 18446744073709551616) (H : Heap) : ACall Tryz.prog 75 [.int .u64 (x : Int)] H (fun y H' => y = dT (auQ x) ∧ H' = H) := by
 have hpm := ahH x
 have hpe := agN x
 refine ACall.of_body Tryz.func75 rfl Tryz.ntmps75 Tryz.results75 rfl ?_
 refine .sr (.s rfl (zT Tryz.zeroValue48 (zr48)) ?_)
 rintro _ _ ⟨b2, hb2, rfl, hH⟩
 obtain rfl := hH.symm
 refine .p rfl (zB zE) (.ng (.seq (.sr (.mv rfl rfl (.cl rfl Tryz.call36 (evs1 rfl) (afY x hx _) (.p rfl (qH (tm rfl) zE) (.ng ?_)))))))
 refine AWP.cond (tm rfl) (fun hc9 => ?_) (fun hc9 => ?_)
 ·try simp only [decide_eq_true_eq] at hc9
  refine .sr (.p rfl (yN [(0, 1), (1, 1), (2, 1)] Tryz.underlying48 Tryz.zeroValue48 (zr48) rfl (pl48 _ Tryz.underlying48) .nil rfl) (.e0 (zH Tryz.sizeOf48 (tm rfl) (tm rfl) rfl rfl (.inr ⟨_, rfl⟩) (Heap.objs_set_same _ _ _) (Nat.le_of_ble_eq_true rfl)) ?_))
  try first | rw [Heap.set_set] | rw [Heap.set_under (by assumption)]
  refine .p rfl (zB zE) (.ng ?_)
  refine AWP.frz (t := 2) rfl (hb2) ?_
  refine .ret ?_
  refine Next.rt ?_
  refine Ret.go (.cons (.cellI _ _ _ _ rfl Tryz.isAgg48 Tryz.sizeOf48 rfl) (.cons (.tmp _ _ rfl) .nil)) _ (Heap.le.refl _) ?_
  refine ⟨?_, rfl⟩
  unfold auQ
  rw [if_pos (by omega)]; rfl
 ·try simp only [decide_eq_false_iff_not, Int.not_le] at hc9
  refine .skip ?_
  refine Next.go ?_
  refine .sr (.mv rfl rfl (.cl rfl Tryz.call120 (evs1 rfl) (agT x hx _) (.mv rfl rfl (.p rfl (zD (tm rfl) rfl) (.p rfl (zD (tm rfl) rfl) (.p rfl (zD (tm rfl) rfl) (.as rfl rfl (.as rfl rfl ?_))))))))
  refine .as rfl rfl (.nr (.mv rfl rfl (.mv rfl rfl (.cl rfl Tryz.call122 (evs1 rfl) (ajR (aeP x) (by omega) _) (.mv rfl rfl (.cl rfl Tryz.call121 (evs3 rfl rfl rfl) (baZ (negB x) (aeP x) (aiF x) (by omega) hpe _) (.e0 (zH Tryz.sizeOf48 (tm rfl) (tm rfl) rfl rfl (.inr ⟨_, rfl⟩) (Heap.objs_set_same _ _ _) (Nat.le_of_ble_eq_true rfl)) ?_)))))))
  try first | rw [Heap.set_set] | rw [Heap.set_under (by assumption)]
  refine .p rfl (zB zE) (.ng ?_)
  refine AWP.frz (t := 2) rfl (hb2) ?_
  refine .ret ?_
  refine Ret.go (.cons (.cellI _ _ _ _ rfl Tryz.isAgg48 Tryz.sizeOf48 rfl) (.cons (.tmp _ _ rfl) .nil)) _ (Heap.le.refl _) ?_
  refine ⟨?_, rfl⟩
  unfold auQ
  rw [if_neg (by omega)]; rfl

set_option maxRecDepth 100000 in
theorem axG (x : Nat) (hx : x < 18446744073709551616) (n : Nat) (hn : 0 < n) (hn2 : n ≤ 100000) (H : Heap) : ACall Tryz.prog 42 [.int .u64 (x : Int), .int .i64 (n : Int), .int .i64 1] H (fun y H' => y = dT (axX x n) ∧ H' = H) := by
 refine ACall.of_body Tryz.func42 rfl Tryz.ntmps42 Tryz.results42 rfl ?_
 refine .sr (.s rfl (zT Tryz.zeroValue48 (zr48)) ?_)
 rintro _ _ ⟨b6, hb6, rfl, hH⟩
 obtain rfl := hH.symm
 refine .p rfl (zB zE) (.nr (.mv rfl rfl (.cl rfl Tryz.call75 (evs1 rfl) (axH x hx _) (.mv rfl rfl (.p rfl (zD (tm rfl) rfl) (.p rfl (zD (tm rfl) rfl) (.s rfl (zT Tryz.zeroValue48 (zr48)) ?_)))))))
 rintro _ _ ⟨b8, hb8, rfl, hH⟩
 obtain rfl := hH.symm
 have hn6_8 := Heap.ne_of (Heap.objs_set_same _ _ _) hb8
 refine .e0 (zH Tryz.sizeOf48 (tm rfl) (tm rfl) rfl rfl (.inr ⟨_, rfl⟩) (Heap.objs_set_same _ _ _) (Nat.le_of_ble_eq_true rfl)) ?_
 try first | rw [Heap.set_set] | rw [Heap.set_under (by assumption)]
 refine .as rfl rfl (.ng ?_)
 refine AWP.frz (t := 8) rfl (hb8) ?_
 refine .seq (.sr (.mv rfl rfl (.p rfl (aaO (tm rfl) zE) (.ng ?_))))
 refine AWP.cond (tm rfl) (fun hc16 => ?_) (fun hc16 => ?_)
 ·try simp only [decide_eq_true_eq, ne_eq] at hc16
  have hk3 : 3 ≤ yY x := by rcases Nat.lt_or_ge (yY x) 3 with h | h; exact absurd (show (auQ x).2 = 0 by unfold auQ; rw [if_neg (by omega)]) (by assumption); exact h
  refine .sr (.p rfl (zU Tryz.isAgg48 Tryz.sizeOf48 (tm rfl) (Nat.le_of_ble_eq_true rfl)) (.mv rfl rfl (.e0 (zH Tryz.sizeOf48 (tm rfl) (tm rfl) rfl rfl (.inr ⟨_, rfl⟩) (Heap.objs_set_same _ _ _) (Nat.le_of_ble_eq_true rfl)) ?_)))
  try first | rw [Heap.set_set] | rw [Heap.set_under (by assumption)]
  refine .as rfl rfl (.ng ?_)
  refine AWP.frz (t := 6) rfl (hb6) ?_
  refine .ret ?_
  refine Next.rt ?_
  refine Ret.go (.cons (.cellI _ _ _ _ rfl Tryz.isAgg48 Tryz.sizeOf48 rfl) (.cons (.tmp _ _ rfl) .nil)) _ (Heap.le.refl _) ?_
  refine ⟨?_, rfl⟩
  unfold axX
  rw [if_pos hk3]
  rw [show auQ x = ((false, [], 0), 11) by unfold auQ; rw [if_pos hk3]]; rfl
 ·try simp only [decide_eq_false_iff_not, ne_eq, Decidable.not_not] at hc16
  have hk3 : ¬ 3 ≤ yY x := fun h => by rw [decX_two, if_pos h] at hc16; exact absurd hc16 (by decide)
  refine .skip ?_
  refine Next.go ?_
  refine .sr (.p rfl (zU Tryz.isAgg48 Tryz.sizeOf48 (tm rfl) (Nat.le_of_ble_eq_true rfl)) (.mv rfl rfl (.mv rfl rfl (.cl rfl Tryz.call76 (evs3 rfl rfl rfl) (bfN _ _ _ n (aiM x) hn hn2 _) (.p rfl (zD (tm rfl) rfl) (.p rfl (zD (tm rfl) rfl) (.e0 (zH Tryz.sizeOf48 (tm rfl) (tm rfl) rfl rfl (.inr ⟨_, rfl⟩) (Heap.objs_set_same _ _ _) (Nat.le_of_ble_eq_true rfl)) ?_)))))))
  try first | rw [Heap.set_set] | rw [Heap.set_under (by assumption)]
  refine .as rfl rfl (.ng ?_)
  refine AWP.frz (t := 6) rfl (hb6) ?_
  refine .ret ?_
  refine Ret.go (.cons (.cellI _ _ _ _ rfl Tryz.isAgg48 Tryz.sizeOf48 rfl) (.cons (.tmp _ _ rfl) .nil)) _ (Heap.le.refl _) ?_
  refine ⟨?_, rfl⟩
  unfold axX
  rw [if_neg hk3]; rfl
structure Loc where
 name : List UInt8
 dc : List UInt8
 grp : List UInt8
 lst : List UInt8
 minus : List UInt8
 pct : List UInt8
 cur : List UInt8
 first : Bool
 space : Bool
 second : Nat
def pL (l : Loc) (sz : AV) : AV := .agg [.str l.name, .str l.dc, .str l.grp, .str l.lst, .str l.minus, .str l.pct, .str l.cur, .bool l.first, .bool l.space, sz]
def rL (l : Loc) : AV := .agg [.str l.name, .str l.dc, .str l.grp, .str l.lst, .str l.minus, .str l.pct, .str l.cur, .bool l.first, .bool l.space, .int .i64 (l.second : Int)]
def Loc.ok (l : Loc) : Prop := l.dc.length ≤ 10 ∧ l.grp.length ≤ 10 ∧ l.minus.length ≤ 10 ∧ l.cur.length ≤ 10 ∧ l.pct.length ≤ 10
def qM (ds : List UInt8) (p : Int) : (List UInt8 × List UInt8) × Bool :=
 if 400 < p ∨ 400 < (ds.length : Int) - p then (([], []), false)
 else if p ≤ 0 then (([48], List.replicate (-p).toNat 48 ++ ds), true)
 else if (ds.length : Int) ≤ p then ((ds ++ List.replicate (p - ds.length).toNat 48, []), true)
 else ((ds.take p.toNat, ds.drop p.toNat), true)
def agV (l : Loc) (neg : Bool) (ds : List UInt8) (p : Int) : List UInt8 :=
 if (qM ds p).2 = true then (if neg = true then l.minus else []) ++ ((qM ds p).1.1 ++ (if (qM ds p).1.2 = [] then [] else l.dc ++ (qM ds p).1.2)) else []
theorem akE {ds : List UInt8} {p : Int} (hl : ds.length ≤ 1100) : (qM ds p).1.1.length ≤ 2000 ∧ (qM ds p).1.2.length ≤ 2000 := by
 unfold qM
 split
 ·simp
 ·split
  ·simp only [List.length_append, List.length_replicate, List.length_cons, List.length_nil]; omega
  ·split
   ·simp only [List.length_append, List.length_replicate, List.length_nil]; omega
   ·simp only [List.length_take, List.length_drop]; omega
theorem bbB {l : Loc} {neg : Bool} {ds : List UInt8} {p : Int} (hl : ds.length ≤ 1100) (hk : l.ok) : (agV l neg ds p).length ≤ 5000 := by
 have h := akE (p := p) hl
 obtain ⟨h1, h2, h3, h4, h5⟩ := hk
 unfold agV
 split
 ·simp only [List.length_append]
  have a1 : (if neg = true then l.minus else []).length ≤ 10 := by split <;> first | omega | (simp; done) | (simp; omega)
  have a2 : (if (qM ds p).1.2 = [] then [] else l.dc ++ (qM ds p).1.2).length ≤ 2010 := by split <;> first | omega | (simp; done) | (simp; omega)
  omega
 ·simp
theorem avY {ds : List UInt8} {e : Int} (h : qG ds e = true) : aeU ds e = (ds.length : Int) + e := by unfold aeU; rw [if_pos h]

set_option maxRecDepth 100000 in
theorem akF (neg : Bool) (ds : List UInt8) (e : Int) (hr : qG ds e = true) (H : Heap) : ACall Tryz.prog 59 [dA neg ds e] H (fun y H' => y = .tuple [.str (qM ds ((ds.length : Int) + e)).1.1, .str (qM ds ((ds.length : Int) + e)).1.2, .bool (qM ds ((ds.length : Int) + e)).2] ∧ H' = H) := by
 have hpd := avY hr
 have hrl := aaQ hr
 have hdd := qP hr
 have hml := zX
 generalize hpp : (ds.length : Int) + e = p at *
 refine ACall.of_body Tryz.func59 rfl Tryz.ntmps59 Tryz.results59 rfl ?_
 refine .sr (.e rfl (yR (tm rfl) (.inr ⟨_, rfl⟩)) (.p rfl (zB (zS rfl)) (.p rfl (zB (zS rfl)) (.p rfl (zB zK) (.ng (.seq ?_))))))
 refine AWP.draw [(0, true), (2, true), (3, true), (4, true), (1, false), (5, true), (6, true)] rfl (by decide +kernel) ?_
 refine .p rfl rfl (zU Tryz.isAgg48 Tryz.sizeOf48 (tm rfl) (Nat.le_of_ble_eq_true rfl)) (.p rfl rfl (zG Tryz.underlying48 rfl Tryz.sizeOf9 (tm rfl)) (.p rfl rfl (zF Tryz.isAgg9 (tm rfl)) (.p rfl rfl (yJ Tryz.underlying9 (tm rfl)) (.s rfl rfl (zP Tryz.call43 (evs1 rfl) (agU neg ds e hdd _)) ?_))))
 rintro _ _ ⟨rfl, hH⟩
 obtain rfl := hH.symm
 rw [hpd]
 refine .p rfl rfl (zB (tm rfl)) (.p rfl rfl (zB (tm rfl)) (.nil ?_))
 refine Next.go ?_
 refine .seq (.block (.sr (.mv rfl rfl (.p rfl (yA (tm rfl) zE) (.as rfl rfl (.ng ?_))))))
 refine AWP.cond (tm rfl) (fun hc12 => ?_) (fun hc12 => ?_)
 ·try simp only [decide_eq_true_eq] at hc12
  refine .sr (.p rfl (zB (zS rfl)) (.p rfl (zB (zS rfl)) (.p rfl (zB zK) (.ng (.ret ?_)))))
  refine Block.rt ?_
  refine Next.rt ?_
  refine Ret.go (.cons (.tmp _ _ rfl) (.cons (.tmp _ _ rfl) (.cons (.tmp _ _ rfl) .nil))) _ (Heap.le.refl _) ?_
  refine ⟨?_, rfl⟩
  unfold qM
  have hn0 : ds = [] := List.length_eq_zero_iff.1 (by omega)
  have he0 : p = 0 := by rw [hn0] at hpp; have he := hr; rw [hn0] at he; unfold qG at he; rw [if_pos rfl] at he; have := of_decide_eq_true he; simp only [List.length_nil] at hpp; omega
  rw [hn0, he0]; rfl
 ·try simp only [decide_eq_false_iff_not] at hc12
  refine AWP.seqTo 15 (.bool (decide ((400 : Int) < p) || decide ((400 : Int) < (ds.length : Int) - p))) [1, 2, 3, 4, 5, 6] ?_ ?_
  ·-- region 4
   refine .region (.mv rfl rfl (.p rfl (yF (tm rfl) zE) (.mv rfl rfl ?_)))
   refine zQ (t := 18) rfl (fun hg18 => ?_) (fun hg18 => ?_)
   ·have hh18 := hg18; try simp only [decide_eq_true_eq] at hh18
    refine .gn rfl rfl rfl (by assumption) (.gn rfl rfl rfl (by assumption) (.gn rfl rfl rfl (by assumption) (.gn rfl rfl rfl (by assumption) (.p rfl (zN (tm rfl) (by assumption) zK) (.as rfl rfl (.nil ?_))))))
    exact ⟨rfl, yV rfl (by (rw [show decide ((400 : Int) < p) = _ from hg18]; rfl)) (zA rfl (zA rfl (zA rfl (zA rfl (zA rfl (zA rfl zL)))))), rfl⟩
   ·have hh18 := hg18; try simp only [decide_eq_false_iff_not, Int.not_lt] at hh18
    refine .gp rfl rfl rfl (by assumption) (zC (tm rfl)) (.gp rfl rfl rfl (by assumption) (zC (tm rfl)) (.gp rfl rfl rfl (by assumption) (zZ (tm rfl) (tm rfl) (by omega)) (.gp rfl rfl rfl (by assumption) (yF (tm rfl) zE) (.p rfl (zM (tm rfl) (by assumption) (tm rfl)) (.as rfl rfl (.nil ?_))))))
    exact ⟨rfl, yV rfl (by (rw [show decide ((400 : Int) < p) = _ from hg18]; rfl)) (zA rfl (zA rfl (zA rfl (zA rfl (zA rfl (zA rfl zL)))))), rfl⟩
  ·refine AWP.sub [(15, _), (1, _), (2, _), (3, _), (4, _), (5, _), (6, _)] (zA rfl (zA rfl (zA rfl (zA rfl (zA rfl (zA rfl (zA rfl zL))))))) ?_
   refine AWP.cond (tm rfl) (fun hc15 => ?_) (fun hc15 => ?_)
   ·try simp only [decide_eq_true_eq, decide_eq_false_iff_not, Bool.not_eq_true', Bool.not_eq_false', Int.not_lt, Int.not_le, ne_eq, Decidable.not_not] at hc15
    simp only [Bool.or_eq_true, decide_eq_true_eq] at hc15
    refine .sr (.p rfl (zB (zS rfl)) (.p rfl (zB (zS rfl)) (.p rfl (zB zK) (.ng (.ret ?_)))))
    refine Block.rt ?_
    refine Next.rt ?_
    refine Ret.go (.cons (.tmp _ _ rfl) (.cons (.tmp _ _ rfl) (.cons (.tmp _ _ rfl) .nil))) _ (Heap.le.refl _) ?_
    refine ⟨?_, rfl⟩
    unfold qM
    rw [if_pos hc15]; rfl
   ·try simp only [decide_eq_true_eq, decide_eq_false_iff_not, Bool.not_eq_true', Bool.not_eq_false', Int.not_lt, Int.not_le, ne_eq, Decidable.not_not] at hc15
    simp only [Bool.or_eq_false_iff, decide_eq_false_iff_not] at hc15
    refine .sr (.mv rfl rfl (.p rfl (abM (tm rfl) zE) (.as rfl rfl (.ng ?_))))
    refine AWP.cond (tm rfl) (fun hc24 => ?_) (fun hc24 => ?_)
    ·try simp only [decide_eq_true_eq] at hc24
     refine .seq ?_
     refine AWP.draw [(0, true), (1, true), (3, true), (4, true), (2, false), (5, true), (6, true), (7, true), (8, true)] rfl (by decide +kernel) ?_
     refine .p rfl rfl (zC (tm rfl)) (.p rfl rfl (abB (tm rfl) (by omega)) (.p rfl rfl (zG Tryz.underlying48 rfl Tryz.sizeOf9 (tm rfl)) (.p rfl rfl (zF Tryz.isAgg9 (tm rfl)) (.s rfl rfl (zP Tryz.call93 (.cons (zS rfl) (evs1 rfl)) (repeatZ 48 _ (-p).toNat (by omega) (by omega) _)) ?_))))
     rintro _ _ ⟨rfl, hH⟩
     obtain rfl := hH.symm
     refine .p rfl rfl (yK (tm rfl) (tm rfl) (by rw [zX, List.length_replicate]; omega)) (.p rfl rfl (zB (zS rfl)) (.p rfl rfl (zB (tm rfl)) (.p rfl rfl (zB zK) (.nil ?_))))
     refine Next.go ?_
     refine .ret ?_
     refine Block.rt ?_
     refine Next.rt ?_
     refine Ret.go (.cons (.tmp _ _ rfl) (.cons (.tmp _ _ rfl) (.cons (.tmp _ _ rfl) .nil))) _ (Heap.le.refl _) ?_
     refine ⟨?_, rfl⟩
     unfold qM
     rw [if_neg (by omega), if_pos (by omega)]; rfl
    ·try simp only [decide_eq_false_iff_not, Int.not_le] at hc24
     refine .sr (.mv rfl rfl (.mv rfl rfl (.p rfl (qH (tm rfl) (tm rfl)) (.as rfl rfl (.ng ?_)))))
     refine AWP.cond (tm rfl) (fun hc33 => ?_) (fun hc33 => ?_)
     ·try simp only [decide_eq_true_eq] at hc33
      refine .seq ?_
      refine AWP.draw [(0, true), (1, true), (2, true), (3, true), (4, true), (5, false), (6, true), (7, true), (8, true), (9, true)] rfl (by decide +kernel) ?_
      refine .p rfl rfl (zG Tryz.underlying48 rfl Tryz.sizeOf9 (tm rfl)) (.p rfl rfl (zF Tryz.isAgg9 (tm rfl)) (.p rfl rfl (zC (tm rfl)) (.p rfl rfl (zC (tm rfl)) (.p rfl rfl (zZ (tm rfl) (tm rfl) (by omega)) (.s rfl rfl (zP Tryz.call93 (.cons (zS rfl) (evs1 rfl)) (repeatZ 48 _ (p - ds.length).toNat (by omega) (by omega) _)) ?_)))))
      rintro _ _ ⟨rfl, hH⟩
      obtain rfl := hH.symm
      refine .p rfl rfl (yK (tm rfl) (tm rfl) (by rw [zX, List.length_replicate]; omega)) (.p rfl rfl (zB (tm rfl)) (.p rfl rfl (zB (zS rfl)) (.p rfl rfl (zB zK) (.nil ?_))))
      refine Next.go ?_
      refine .ret ?_
      refine Block.rt ?_
      refine Next.rt ?_
      refine Ret.go (.cons (.tmp _ _ rfl) (.cons (.tmp _ _ rfl) (.cons (.tmp _ _ rfl) .nil))) _ (Heap.le.refl _) ?_
      refine ⟨?_, rfl⟩
      unfold qM
      rw [if_neg (by omega), if_neg (by omega), if_pos (by omega)]; rfl
     ·try simp only [decide_eq_false_iff_not, Int.not_le] at hc33
      refine .skip ?_
      refine Block.go ?_
      refine Next.go ?_
      refine .seq ?_
      refine AWP.draw [(0, true), (1, true), (2, true), (3, true), (4, true), (5, true), (6, true), (7, true), (8, true), (9, true), (10, true)] rfl (by decide +kernel) ?_
      refine .p rfl rfl (zG Tryz.underlying48 rfl Tryz.sizeOf9 (tm rfl)) (.p rfl rfl (zF Tryz.isAgg9 (tm rfl)) (.p rfl rfl (zC (tm rfl)) (.p rfl rfl (aaV Tryz.underlying9 (tm rfl) (tm rfl) (by omega) (by omega)) (.p rfl rfl (zG Tryz.underlying48 rfl Tryz.sizeOf9 (tm rfl)) (.p rfl rfl (zF Tryz.isAgg9 (tm rfl)) (.p rfl rfl (zC (tm rfl)) (.p rfl rfl (abK Tryz.underlying9 (tm rfl) (tm rfl) (by omega) (by omega)) (.p rfl rfl (zB (tm rfl)) ?_))))))))
      refine .p rfl rfl (zB (tm rfl)) (.p rfl rfl (zB zK) (.nil ?_))
      refine Next.go ?_
      refine .ret ?_
      refine Ret.go (.cons (.tmp _ _ rfl) (.cons (.tmp _ _ rfl) (.cons (.tmp _ _ rfl) .nil))) _ (Heap.le.refl _) ?_
      refine ⟨?_, rfl⟩
      unfold qM
      rw [if_neg (by omega), if_neg (by omega), if_neg (by omega)]; rfl

set_option maxRecDepth 100000 in
theorem amC (l : Loc) (hk : l.ok) (sz : AV) (neg : Bool) (ds : List UInt8) (e : Int) (hr : qG ds e = true) (H : Heap) : ACall Tryz.prog 20 [pL l sz, dA neg ds e, .bool false] H (fun y H' => y = .str (agV l neg ds ((ds.length : Int) + e)) ∧ H' = H) := by
 have hsl := akE (ds := ds) (p := (ds.length : Int) + e) (aaQ hr).1
 have hml := zX
 have hdd := qP hr
 obtain ⟨hk1, hk2, hk3, hk4, hk5⟩ := hk
 generalize hsv : qM ds ((ds.length : Int) + e) = sv at *
 obtain ⟨⟨w, r⟩, ok⟩ := sv
 obtain ⟨hsl1, hsl2⟩ := hsl
 simp only [] at hsl1 hsl2
 refine ACall.of_body Tryz.func20 rfl Tryz.ntmps20 Tryz.results20 rfl ?_
 refine .sr (.e rfl (yR (tm rfl) (.inr ⟨_, rfl⟩)) (.e rfl (yR (tm rfl) (.inr ⟨_, rfl⟩)) (.p rfl (zB (zS rfl)) (.nr (.p rfl (zU Tryz.isAgg48 Tryz.sizeOf48 (tm rfl) (Nat.le_of_ble_eq_true rfl)) (.cl rfl Tryz.call59 (evs1 rfl) (akF neg ds e hr _) ?_))))))
 rw [hsv]
 dsimp only
 refine .mv rfl rfl (.p rfl (zD (tm rfl) rfl) (.p rfl (zD (tm rfl) rfl) (.p rfl (zD (tm rfl) rfl) (.as rfl rfl (.as rfl rfl (.as rfl rfl (.ng (.seq ?_))))))))
 refine AWP.seqTo 22 (.bool (!ok)) [2, 3, 4, 6, 7, 8] ?_ ?_
 ·-- region 2
  refine .region (.mv rfl rfl (.p rfl (qY (tm rfl)) (.mv rfl rfl ?_)))
  refine zQ (t := 18) rfl (fun hg18 => ?_) (fun hg18 => ?_)
  ·have hh18 := hg18; try simp only [Bool.not_eq_true'] at hh18
   refine .gn rfl rfl rfl (by assumption) (.gn rfl rfl rfl (by assumption) (.gn rfl rfl rfl (by assumption) (.p rfl (zN (tm rfl) (by assumption) zK) (.nil ?_))))
   exact ⟨rfl, yV rfl (by (cases ok <;> first | rfl | (simp at hg18))) (zA rfl (zA rfl (zA rfl (zA rfl (zA rfl (zA rfl zL)))))), rfl⟩
  ·have hh18 := hg18; try simp only [Bool.not_eq_false'] at hh18
   refine .gp rfl rfl rfl (by assumption) (zU Tryz.isAgg48 Tryz.sizeOf48 (tm rfl) (Nat.le_of_ble_eq_true rfl)) (.gs rfl rfl rfl (by assumption) (zP Tryz.call60 (evs1 rfl) (acL neg ds e hdd _)) ?_)
   rintro _ _ ⟨rfl, hH⟩
   obtain rfl := hH.symm
   rw [hr]
   refine .gp rfl rfl rfl (by assumption) (qY (tm rfl)) (.p rfl (zM (tm rfl) (by assumption) (tm rfl)) (.nil ?_))
   exact ⟨rfl, yV rfl (by (cases ok <;> first | rfl | (simp at hg18))) (zA rfl (zA rfl (zA rfl (zA rfl (zA rfl (zA rfl zL)))))), rfl⟩
 ·refine AWP.sub [(22, _), (2, _), (3, _), (4, _), (6, _), (7, _), (8, _)] (zA rfl (zA rfl (zA rfl (zA rfl (zA rfl (zA rfl (zA rfl zL))))))) ?_
  refine AWP.cond (tm rfl) (fun hc22 => ?_) (fun hc22 => ?_)
  ·try simp only [Bool.not_eq_true'] at hc22
   refine .sr (.p rfl (zB (zS rfl)) (.ng (.ret ?_)))
   refine Next.rt ?_
   refine Ret.go (.cons (.tmp _ _ rfl) .nil) _ (Heap.le.refl _) ?_
   refine ⟨?_, rfl⟩
   unfold agV
   rw [hsv]
   simp only []
   rw [if_neg (show ¬ ok = true by simpa using hc22)]; rfl
  ·try simp only [Bool.not_eq_false'] at hc22
   refine .skip ?_
   refine Next.go ?_
   refine .seq (.sr (.mv rfl rfl (.ng ?_)))
   refine AWP.cond_false (tm rfl) (by rfl) ?_
   refine .skip ?_
   refine Next.go ?_
   refine AWP.seqToL [(7, .str ((if neg = true then l.minus else []) ++ w))] [3, 6, 8] ?_ ?_
   ·refine .sr (.p rfl (zG Tryz.underlying48 rfl Tryz.sizeOf4 (tm rfl)) (.p rfl (zF Tryz.isAgg4 (tm rfl)) (.ng ?_)))
    refine AWP.cond (tm rfl) (fun hc28 => ?_) (fun hc28 => ?_)
    ·try simp only [decide_eq_true_eq, decide_eq_false_iff_not, Bool.not_eq_true', Bool.not_eq_false', Int.not_lt, Int.not_le, ne_eq, Decidable.not_not] at hc28
     refine .region (.p rfl (zG Tryz.underlying25 rfl Tryz.sizeOf9 (tm rfl)) (.p rfl (zF Tryz.isAgg9 (tm rfl)) (.mv rfl rfl (.p rfl (yK (tm rfl) (tm rfl) (by rw [zX]; omega)) (.as rfl rfl (.nil ?_))))))
     exact ⟨rfl, (yH rfl (by (rw [if_pos (by assumption)]; done)) (zA rfl (zA rfl (zA rfl zL)))), rfl⟩
    ·try simp only [decide_eq_true_eq, decide_eq_false_iff_not, Bool.not_eq_true', Bool.not_eq_false', Int.not_lt, Int.not_le, ne_eq, Decidable.not_not] at hc28
     refine .skip ?_
     exact ⟨rfl, (yH rfl (by (rw [if_neg (by (rw [hc28]; decide))]; rfl)) (zA rfl (zA rfl (zA rfl zL)))), rfl⟩
   ·refine AWP.sub [(7, _), (3, _), (6, _), (8, _)] (zA rfl (zA rfl (zA rfl (zA rfl zL)))) ?_
    have hmw : (if neg = true then l.minus else []).length ≤ 10 := by split <;> first | omega | (simp; done) | (simp; omega)
    refine .seq (.sr (.mv rfl rfl (.p rfl (qS (tm rfl) (zS rfl)) (.ng ?_))))
    refine AWP.cond (tm rfl) (fun hc34 => ?_) (fun hc34 => ?_)
    ·try simp only [decide_eq_false_iff_not, Bool.not_eq_true'] at hc34
     refine .region (.mv rfl rfl (.p rfl (zG Tryz.underlying25 rfl Tryz.sizeOf9 (tm rfl)) (.p rfl (zF Tryz.isAgg9 (tm rfl)) (.mv rfl rfl (.p rfl (yK (tm rfl) (tm rfl) (by rw [zX]; omega)) (.p rfl (yK (tm rfl) (tm rfl) (by simp only [zX, List.length_append]; first | omega | (split <;> first | omega | (simp; done) | (simp; omega)))) (.as rfl rfl (.nr ?_))))))))
     refine .mv rfl rfl (.as rfl rfl (.ng (.ret ?_)))
     refine Ret.go (.cons (.tmp _ _ rfl) .nil) _ (Heap.le.refl _) ?_
     refine ⟨?_, rfl⟩
     unfold agV
     rw [hsv]
     simp only []
     rw [if_pos (show ok = true by simpa using hc22), if_neg (show ¬ r = [] by simpa using hc34), List.append_assoc]; rfl
    ·try simp only [decide_eq_true_eq, Bool.not_eq_false'] at hc34
     refine .skip ?_
     refine Next.go ?_
     refine .sr (.mv rfl rfl (.as rfl rfl (.ng (.ret ?_))))
     refine Ret.go (.cons (.tmp _ _ rfl) .nil) _ (Heap.le.refl _) ?_
     refine ⟨?_, rfl⟩
     unfold agV
     rw [hsv]
     simp only []
     rw [if_pos (show ok = true by simpa using hc22), if_pos (show r = [] by simpa using hc34), List.append_nil]; rfl

theorem itoaZ (q : Int) (n : Nat) (hq : q = (n : Int)) (hn : n ≤ 9223372036854775807) (H : Heap) : ACall Tryz.prog 44 [.int .i64 q] H (fun y H' => y = .str (dec n) ∧ H' = H) := by
 subst hq; exact itoaA n hn H
def auE (l : Loc) (neg : Bool) (ds : List UInt8) : List UInt8 := (if neg = true then l.minus else []) ++ ds.take 1 ++ (if (1 : Int) < (ds.length : Int) then l.dc ++ ds.drop 1 else [])
def beU (p : Int) : Nat := (if p < 1 then 1 - p else p - 1).toNat
def genD (l : Loc) (s : (Bool × List UInt8 × Int) × Int) : List UInt8 :=
 if s.2 ≠ 0 then []
 else if s.1.2.1 = [] ∨ (-4 ≤ (s.1.2.1.length : Int) + s.1.2.2 ∧ (s.1.2.1.length : Int) + s.1.2.2 ≤ 15) then agV l s.1.1 s.1.2.1 ((s.1.2.1.length : Int) + s.1.2.2)
 else auE l s.1.1 s.1.2.1 ++ [69] ++ [if (s.1.2.1.length : Int) + s.1.2.2 < 1 then 45 else 43] ++ (if (dec (beU ((s.1.2.1.length : Int) + s.1.2.2))).length < 2 then [48] else []) ++ dec (beU ((s.1.2.1.length : Int) + s.1.2.2))
theorem bbA {l : Loc} {neg : Bool} {ds : List UInt8} (h : ds ≠ []) (hl : ds.length ≤ 300) : agV l neg ds 1 = auE l neg ds := by
 have hp := List.length_pos_iff.2 h
 unfold agV auE qM
 rw [if_neg (show ¬ ((400 : Int) < 1 ∨ 400 < (ds.length : Int) - 1) by omega), if_neg (show ¬ (1 : Int) ≤ 0 by decide)]
 by_cases h1 : (ds.length : Int) ≤ 1
 ·rw [if_pos h1, if_neg (show ¬ (1 : Int) < (ds.length : Int) by omega), List.take_of_length_le (show ds.length ≤ 1 by omega)]
  rw [show ((1 : Int) - (ds.length : Int)).toNat = 0 by omega]
  simp
 ·rw [if_neg h1, if_pos (show (1 : Int) < (ds.length : Int) by omega)]
  have hd : ds.drop 1 ≠ [] := fun q => by have := congrArg List.length q; rw [List.length_drop] at this; simp only [List.length_nil] at this; omega
  show (if true = true then _ ++ (ds.take 1 ++ (if ds.drop 1 = [] then [] else l.dc ++ ds.drop 1)) else []) = _
  rw [if_pos rfl, if_neg hd, List.append_assoc]
theorem axW (x n : Nat) : qG (axX x n).1.2.1 (axX x n).1.2.2 = true := by
 unfold axX
 split
 ·rfl
 ·unfold sigD
  split
  ·exact aiM x
  ·unfold cutD
   have hd := qP (aiM x)
   exact aoZ (by split; exact arN (hd.take _); exact hd.take _)
theorem mk_len (neg : Bool) (ds : List UInt8) (e : Int) : (mkN neg ds e).1.2.1.length ≤ ds.length := by
 have h : (acV ds).length ≤ ds.length := Nat.le_trans (agX _ _) (arX _ _)
 unfold mkN
 split
 ·simp
 ·split
  ·exact h
  ·simp
theorem sigX_len (x n : Nat) : (axX x n).1.2.1.length ≤ n + 1 := by
 unfold axX
 split
 ·simp
 ·unfold sigD
  split
  ·rename_i h; exact Nat.le_succ_of_le h
  ·unfold cutD
   refine Nat.le_trans (mk_len _ _ _) ?_
   split
   ·refine Nat.le_trans (awP _) ?_
    rw [List.length_take]; omega
   ·rw [List.length_take]; omega

set_option maxRecDepth 100000 in
theorem ahW (l : Loc) (hk : l.ok) (sz : AV) (x : Nat) (hx : x < 18446744073709551616) (H : Heap) : ACall Tryz.prog 14 [.int .u64 (x : Int), pL l sz] H (fun y H' => y = .str (genD l (axX x 15)) ∧ H' = H) := by
 have hsr := axW x 15
 have hsl := sigX_len x 15
 generalize hs : axX x 15 = s at *
 obtain ⟨⟨neg, ds, e⟩, er⟩ := s
 dsimp only at hsr hsl
 have hml := zX
 have hrl := aaQ hsr
 have hdd := qP hsr
 have hpd := avY hsr
 have hwl := bbB (l := l) (neg := neg) (ds := ds) (p := (ds.length : Int) + e) (by omega) hk
 have hkk := hk
 obtain ⟨hk1, hk2, hk3, hk4, hk5⟩ := hkk
 have hel : (dec (beU ((ds.length : Int) + e))).length ≤ 10 := (apN (by decide)).2 (by unfold beU; split <;> omega)
 have hmn : (auE l neg ds).length ≤ 200 := by
  unfold auE
  have a1 : (if neg = true then l.minus else []).length ≤ 10 := by split <;> first | omega | (simp; done)
  have a2 : (if (1 : Int) < (ds.length : Int) then l.dc ++ ds.drop 1 else []).length ≤ 110 := by split <;> simp only [List.length_append, List.length_drop, List.length_nil] <;> omega
  simp only [List.length_append, List.length_take]; omega
 have hzl : (if (dec (beU ((ds.length : Int) + e))).length < 2 then ([48] : List UInt8) else []).length ≤ 1 := by split <;> simp
 refine ACall.of_body Tryz.func14 rfl Tryz.ntmps14 Tryz.results14 rfl ?_
 refine .sr (.e rfl (yR (tm rfl) (.inr ⟨_, rfl⟩)) (.p rfl (zB (zS rfl)) (.nr (.mv rfl rfl (.cl rfl Tryz.call42 (.cons (tm rfl) (.cons zE (.cons zE .nil))) (axG x hx 15 (by decide) (by decide) _) ?_)))))
 rw [hs]
 unfold dT
 dsimp only
 refine .mv rfl rfl (.p rfl (zD (tm rfl) rfl) (.p rfl (zD (tm rfl) rfl) (.s rfl (zT Tryz.zeroValue48 (zr48)) ?_)))
 rintro _ _ ⟨b5, hb5, rfl, hH⟩
 obtain rfl := hH.symm
 refine .e0 (zH Tryz.sizeOf48 (tm rfl) (tm rfl) rfl rfl (.inr ⟨_, rfl⟩) (Heap.objs_set_same _ _ _) (Nat.le_of_ble_eq_true rfl)) ?_
 try first | rw [Heap.set_set] | rw [Heap.set_under (by assumption)]
 refine .as rfl rfl (.ng ?_)
 refine AWP.frz (t := 5) rfl (hb5) ?_
 refine .seq (.sr (.mv rfl rfl (.p rfl (aaO (tm rfl) zE) (.ng ?_))))
 refine AWP.cond (tm rfl) (fun hc16 => ?_) (fun hc16 => ?_)
 ·try simp only [decide_eq_true_eq, ne_eq] at hc16
  refine .sr (.p rfl (zB (zS rfl)) (.ng (.ret ?_)))
  refine Next.rt ?_
  refine Ret.go (.cons (.tmp _ _ rfl) .nil) _ (Heap.le.refl _) ?_
  refine ⟨?_, rfl⟩
  unfold genD
  dsimp only
  rw [if_pos (show er ≠ 0 by simpa using hc16)]; rfl
 ·try simp only [decide_eq_false_iff_not, ne_eq, Decidable.not_not] at hc16
  have her : er = 0 := by simpa using hc16
  subst her
  refine .skip ?_
  refine Next.go ?_
  refine .sr (.p rfl (zU Tryz.isAgg48 Tryz.sizeOf48 (tm rfl) (Nat.le_of_ble_eq_true rfl)) (.cl rfl Tryz.call43 (evs1 rfl) (agU neg ds e hdd _) ?_))
  rw [hpd]
  refine .as rfl rfl (.ng (.seq ?_))
  refine AWP.seqTo 29 (.bool (decide (ds = []) || (decide (-4 ≤ ((ds.length : Int) + e)) && decide (((ds.length : Int) + e) ≤ 15)))) [3, 4, 5, 7] ?_ ?_
  ·-- region 5
   refine .region (.p rfl (zG Tryz.underlying48 rfl Tryz.sizeOf9 (tm rfl)) (.p rfl (zF Tryz.isAgg9 (tm rfl)) (.p rfl (qK (tm rfl) (zS rfl)) (.mv rfl rfl ?_))))
   refine zQ (t := 22) rfl (fun hg22 => ?_) (fun hg22 => ?_)
   ·have hh22 := hg22; try simp only [decide_eq_true_eq] at hh22
    refine .gn rfl rfl rfl (by assumption) (.gn rfl rfl rfl (by assumption) (.gn rfl rfl rfl (by assumption) ?_))
    refine AList.gdead rfl rfl rfl ?_
    refine AList.gdead rfl rfl rfl ?_
    refine .gn rfl rfl rfl (by assumption) (.p rfl (zN (tm rfl) (by assumption) zK) (.nil ?_))
    exact ⟨rfl, yV rfl (by (rw [show decide (ds = []) = _ from hg22]; rfl)) (zA rfl (zA rfl (zA rfl (zA rfl zL)))), rfl⟩
   ·have hh22 := hg22; try simp only [decide_eq_false_iff_not] at hh22
    refine .gp rfl rfl rfl (by assumption) (zC (tm rfl)) (.gp rfl rfl rfl (by assumption) (qH (tm rfl) zE) (.gp rfl rfl rfl (by assumption) (zC (tm rfl)) ?_))
    refine zQ (t := 25) rfl (fun hg25 => ?_) (fun hg25 => ?_)
    ·have hh25 := hg25; try simp only [decide_eq_true_eq] at hh25
     refine .gp rfl rfl rfl (by assumption) (zC (tm rfl)) (.gp rfl rfl rfl (by assumption) (abM (tm rfl) zE) (.gp rfl rfl rfl (by assumption) (zN (tm rfl) (by assumption) (tm rfl)) (.p rfl (zM (tm rfl) (by assumption) (tm rfl)) (.nil ?_))))
     exact ⟨rfl, yV rfl (by (rw [show decide (ds = []) = _ from hg22, show decide (-4 ≤ ((ds.length : Int) + e)) = _ from hg25]; rfl)) (zA rfl (zA rfl (zA rfl (zA rfl zL)))), rfl⟩
    ·have hh25 := hg25; try simp only [decide_eq_false_iff_not, Int.not_le] at hh25
     refine .gn rfl rfl rfl (by assumption) (.gn rfl rfl rfl (by assumption) (.gp rfl rfl rfl (by assumption) (zM (tm rfl) (by assumption) zK) (.p rfl (zM (tm rfl) (by assumption) (tm rfl)) (.nil ?_))))
     exact ⟨rfl, yV rfl (by (rw [show decide (ds = []) = _ from hg22, show decide (-4 ≤ ((ds.length : Int) + e)) = _ from hg25]; rfl)) (zA rfl (zA rfl (zA rfl (zA rfl zL)))), rfl⟩
  ·refine AWP.sub [(29, _), (3, _), (4, _), (5, _), (7, _)] (zA rfl (zA rfl (zA rfl (zA rfl (zA rfl zL))))) ?_
   refine AWP.cond (tm rfl) (fun hc29 => ?_) (fun hc29 => ?_)
   ·try simp only [decide_eq_true_eq, decide_eq_false_iff_not, Bool.not_eq_true', Bool.not_eq_false', Int.not_lt, Int.not_le, ne_eq, Decidable.not_not] at hc29
    simp only [Bool.or_eq_true, Bool.and_eq_true, decide_eq_true_eq] at hc29
    refine .sr (.p rfl (zU Tryz.isAgg25 Tryz.sizeOf25 (tm rfl) (Nat.le_of_ble_eq_true rfl)) (.p rfl (zU Tryz.isAgg48 Tryz.sizeOf48 (tm rfl) (Nat.le_of_ble_eq_true rfl)) (.cl rfl Tryz.call20 (.cons (tm rfl) (.cons (tm rfl) (.cons zK .nil))) (amC l hk sz neg ds e hsr _) (.as rfl rfl (.ng (.ret ?_))))))
    refine Next.rt ?_
    refine Ret.go (.cons (.tmp _ _ rfl) .nil) _ (Heap.le.refl _) ?_
    refine ⟨?_, rfl⟩
    unfold genD
    dsimp only
    rw [if_neg (show ¬ ((0 : Int) ≠ 0) by simp), if_pos hc29]; rfl
   ·try simp only [decide_eq_true_eq, decide_eq_false_iff_not, Bool.not_eq_true', Bool.not_eq_false', Int.not_lt, Int.not_le, ne_eq, Decidable.not_not] at hc29
    simp only [Bool.or_eq_false_iff, Bool.and_eq_false_iff, decide_eq_false_iff_not] at hc29
    have hdn : ds ≠ [] := hc29.1
    have hdp := List.length_pos_iff.2 hdn
    have hr1 : qG ds (1 - (ds.length : Int)) = true := by
     have h := hsr
     rw [akQ hdn] at h ⊢
     unfold akR at h ⊢
     simp only [Bool.and_eq_true, decide_eq_true_eq] at h ⊢
     refine ⟨⟨⟨⟨⟨h.1.1.1.1.1, by omega⟩, by omega⟩, h.1.1.2⟩, h.1.2⟩, h.2⟩
    refine .skip ?_
    refine Next.go ?_
    refine .sr (.p rfl (zU Tryz.isAgg25 Tryz.sizeOf25 (tm rfl) (Nat.le_of_ble_eq_true rfl)) (.p rfl (zG Tryz.underlying48 rfl Tryz.sizeOf4 (tm rfl)) (.p rfl (zF Tryz.isAgg4 (tm rfl)) (.p rfl (zG Tryz.underlying48 rfl Tryz.sizeOf9 (tm rfl)) (.p rfl (zF Tryz.isAgg9 (tm rfl)) (.p rfl (zG Tryz.underlying48 rfl Tryz.sizeOf9 (tm rfl)) (.p rfl (zF Tryz.isAgg9 (tm rfl)) (.p rfl (yJ Tryz.underlying9 (tm rfl)) ?_))))))))
    refine .p rfl (zZ zE (tm rfl) (by omega)) ?_
    refine .p rfl (yN [(0, 1), (1, 1), (2, 1)] Tryz.underlying48 Tryz.zeroValue48 (zr48) rfl (pl48 _ Tryz.underlying48) (.cons (tm rfl) (.inl rfl) (.cons (tm rfl) (.inl rfl) (.cons (tm rfl) (.inl rfl) .nil))) rfl) ?_
    refine .cl rfl Tryz.call20 (.cons (tm rfl) (.cons (tm rfl) (.cons zK .nil))) (amC l hk sz neg ds (1 - (ds.length : Int)) hr1 _) ?_
    rw [show (ds.length : Int) + (1 - (ds.length : Int)) = 1 by omega, bbA hdn (by omega)]
    refine .p rfl (yK (tm rfl) (zS rfl) (by rw [zX]; simp only [List.length_cons, List.length_nil]; omega)) (.as rfl rfl (.nr (.mv rfl rfl (.p rfl (zZ (tm rfl) zE (by omega)) (.mv rfl rfl (.p rfl (zZ zE (tm rfl) (by omega)) (.p rfl (abX (tm rfl) (tm rfl)) (.cl rfl Tryz.call44 (evs1 rfl) (itoaZ _ (beU ((ds.length : Int) + e)) (by unfold beU; simp only [auK]; split <;> split <;> omega) (by unfold beU; split <;> omega) _) ?_))))))))
    refine .as rfl rfl (.ng ?_)
    refine AWP.seqToL [(8, .str (auE l neg ds ++ [69] ++ [if ((ds.length : Int) + e) < 1 then 45 else 43]))] [4, 9] ?_ ?_
    ·refine .sr (.mv rfl rfl (.p rfl (zY (tm rfl) zE) (.ng ?_)))
     refine AWP.cond (tm rfl) (fun hc52 => ?_) (fun hc52 => ?_)
     ·try simp only [decide_eq_true_eq] at hc52
      refine .region (.mv rfl rfl (.p rfl (yK (tm rfl) (zS rfl) (by rw [zX]; simp only [List.length_append, List.length_cons, List.length_nil]; omega)) (.as rfl rfl (.nil ?_))))
      exact ⟨rfl, (yH rfl (by (rw [if_pos (by assumption)]; done)) (zA rfl (zA rfl zL))), rfl⟩
     ·try simp only [decide_eq_false_iff_not, Int.not_lt] at hc52
      refine .region (.mv rfl rfl (.p rfl (yK (tm rfl) (zS rfl) (by rw [zX]; simp only [List.length_append, List.length_cons, List.length_nil]; omega)) (.as rfl rfl (.nil ?_))))
      exact ⟨rfl, (yH rfl (by (rw [if_neg (by omega)]; done)) (zA rfl (zA rfl zL))), rfl⟩
    ·refine AWP.sub [(8, _), (4, _), (9, _)] (zA rfl (zA rfl (zA rfl zL))) ?_
     refine AWP.seqToL [(8, .str (auE l neg ds ++ [69] ++ [if ((ds.length : Int) + e) < 1 then 45 else 43] ++ (if (dec (beU ((ds.length : Int) + e))).length < 2 then ([48] : List UInt8) else [])))] [4, 9] ?_ ?_
     ·refine .sr (.mv rfl rfl (.p rfl (yJ Tryz.underlying9 (tm rfl)) (.p rfl (zY (tm rfl) zE) (.ng ?_))))
      refine AWP.cond (tm rfl) (fun hc59 => ?_) (fun hc59 => ?_)
      ·try simp only [decide_eq_true_eq] at hc59
       refine .region (.mv rfl rfl (.p rfl (yK (tm rfl) (zS rfl) (by rw [zX]; simp only [List.length_append, List.length_cons, List.length_nil]; omega)) (.as rfl rfl (.nil ?_))))
       exact ⟨rfl, (yH rfl (by (rw [if_pos (show (dec (beU ((ds.length : Int) + e))).length < 2 by omega)]; done)) (zA rfl (zA rfl zL))), rfl⟩
      ·try simp only [decide_eq_false_iff_not, Int.not_lt] at hc59
       refine .skip ?_
       exact ⟨rfl, (yH rfl (by (rw [if_neg (show ¬ (dec (beU ((ds.length : Int) + e))).length < 2 by omega), List.append_nil]; done)) (zA rfl (zA rfl zL))), rfl⟩
     ·refine AWP.sub [(8, _), (4, _), (9, _)] (zA rfl (zA rfl (zA rfl zL))) ?_
      refine .sr (.mv rfl rfl (.mv rfl rfl (.p rfl (yK (tm rfl) (tm rfl) (by rw [zX]; simp only [List.length_append, List.length_cons, List.length_nil]; omega)) (.as rfl rfl (.ng (.ret ?_))))))
      refine Ret.go (.cons (.tmp _ _ rfl) .nil) _ (Heap.le.refl _) ?_
      refine ⟨?_, rfl⟩
      unfold genD
      dsimp only
      rw [if_neg (show ¬ ((0 : Int) ≠ 0) by simp), if_neg (show ¬ (ds = [] ∨ (-4 ≤ ((ds.length : Int) + e) ∧ ((ds.length : Int) + e) ≤ 15)) by rintro (q | q); exact hdn q; omega)]; rfl
end Go.Proofs.YtfkeflcdadlmdaaGreatDoor
