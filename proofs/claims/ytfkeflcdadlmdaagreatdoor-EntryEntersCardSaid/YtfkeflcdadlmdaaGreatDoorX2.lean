import Derived.Test.YtfkeflcdadlmdaaGreatDoorYd
import Derived.Test.YtfkeflcdadlmdaaGreatDoorSsk
import Derived.Test.YtfkeflcdadlmdaaGreatDoorD1
namespace Go.Proofs.YtfkeflcdadlmdaaGreatDoor
open Go Go.RowKit

def afP : Nat → Nat → Nat × Nat
 | m, 0 => (m, 0)
 | m, k + 1 => if m % 2 = 0 ∧ 0 < m then afP (m / 2) k else (m, k + 1)
theorem aqN : ∀ (k m : Nat), (afP m k).1 ≤ m ∧ (afP m k).2 ≤ k
 | 0, m => ⟨Nat.le_refl _, Nat.le_refl _⟩
 | k + 1, m => by
  unfold afP
  split
  ·have := aqN k (m / 2)
   omega
  ·exact ⟨Nat.le_refl _, Nat.le_refl _⟩
theorem strip_go {m k : Nat} (h : m % 2 = 0) (hm : 0 < m) (hk : 0 < k) : afP m k = afP (m / 2) (k - 1) := by
 obtain ⟨k, rfl⟩ : ∃ q, k = q + 1 := ⟨k - 1, by omega⟩
 rw [afP, if_pos ⟨h, hm⟩]; rfl
theorem bfS {m k : Nat} (h : k = 0 ∨ m = 0 ∨ m % 2 ≠ 0) : afP m k = (m, k) := by
 cases k with
 | zero => rfl
 | succ k => rw [afP, if_neg (by omega)]
def ofN (neg : Bool) (m : Nat) (e : Int) : Bool × List UInt8 × Int :=
 if 0 ≤ e then (mkN neg (dec (m * 2 ^ e.toNat)) 0).1 else (mkN neg (dec ((afP m (-e).toNat).1 * 5 ^ (afP m (-e).toNat).2)) (-((afP m (-e).toNat).2 : Int))).1
def ofR (m : Nat) (e : Int) : Nat := if 0 ≤ e then m * 2 ^ e.toNat else (afP m (-e).toNat).1 * 5 ^ (afP m (-e).toNat).2
def ofX (m : Nat) (e : Int) : Int := if 0 ≤ e then 0 else -((afP m (-e).toNat).2 : Int)
theorem ofN_eq (neg : Bool) (m : Nat) (e : Int) : ofN neg m e = (mkN neg (dec (ofR m e)) (ofX m e)).1 := by
 unfold ofN ofR ofX
 split <;> rfl
def dD (d : Bool × List UInt8 × Int) : AV := dA d.1 d.2.1 d.2.2
theorem asW {k : Nat} (hk : k ≤ 3300) : 18014398509481984 * 2 ^ k < BIG := by
 obtain ⟨K, hK, hB⟩ : ∃ K, K = 8192 ∧ BIG = 2 ^ K := ⟨32 * 256, rfl, aoA _ rfl⟩
 rw [hB, show (18014398509481984 : Nat) = 2 ^ 54 by decide, ← Nat.pow_add]
 exact Nat.pow_lt_pow_right (by decide) (by omega)
theorem agJ {m k : Nat} (hm : m < 18014398509481984) (hk : k ≤ 1075) : m * 5 ^ k < BIG ∧ 5 ^ k < BIG := by
 have h1 : 5 ^ k ≤ 2 ^ (3 * k) := by rw [Nat.pow_mul]; exact Nat.pow_le_pow_left (by decide) k
 have h0 : 5 ^ k ≤ 18014398509481984 * 5 ^ k := Nat.le_mul_of_pos_left _ (by decide)
 have h2 : 18014398509481984 * 5 ^ k < BIG := Nat.lt_of_le_of_lt (Nat.mul_le_mul_left _ h1) (asW (by omega))
 exact ⟨Nat.lt_of_le_of_lt (Nat.mul_le_mul_right _ (by omega)) h2, Nat.lt_of_le_of_lt h0 h2⟩
theorem asV {m k : Nat} (hm : m < 18014398509481984) (hk : k ≤ 972) : m * 2 ^ k < BIG := by
 exact Nat.lt_of_le_of_lt (Nat.mul_le_mul_right _ (by omega)) (asW (by omega))
theorem alQ {m : Nat} (hm : m < 18014398509481984) : m < BIG := Nat.lt_trans hm (by unfold BIG; decide +kernel)
theorem bhZ {m : Nat} (h : 0 < m) : (zE m).getD 0 0 &&& 1 = m % 2 := by
 rw [qA h, List.getD_cons_zero, show (1 : Nat) = 2 ^ 1 - 1 by decide, Nat.and_two_pow_sub_one_eq_mod]
 omega
theorem ofR_lt {m : Nat} {e : Int} (hm : m < 18014398509481984) (he : -1075 ≤ e ∧ e ≤ 972) : ofR m e < BIG := by
 unfold ofR
 split
 ·exact asV hm (by omega)
 ·have h := aqN (-e).toNat m
  exact (agJ (by omega) (by omega)).1
theorem bhI {m : Nat} {e : Int} (he : -1075 ≤ e ∧ e ≤ 972) : -1075 ≤ ofX m e ∧ ofX m e ≤ 0 := by
 unfold ofX
 have h := aqN (-e).toNat m
 split <;> omega
theorem shlZ (a s : Nat) (q : Int) (hq : q = (s : Int)) (h : a * 2 ^ s < BIG) (hs : s < 1000000000) (H : Heap) : ACall Tryz.prog 161 [aaA a, .int .i64 q] H (fun y H' => y = .tuple [aaA (a * 2 ^ s), .int .i64 0] ∧ H' = H) := by
 subst hq; exact shlB a s h hs H
theorem powZ (b n : Nat) (q : Int) (hq : q = (n : Int)) (hb : 2 ≤ b) (hb2 : b ≤ 1000000) (hn2 : n < 1000000000) (h : b ^ n < BIG) (H : Heap) : ACall Tryz.prog 157 [.int .i64 (b : Int), .int .i64 q] H (fun y H' => y = .tuple [aaA (b ^ n), .int .i64 0] ∧ H' = H) := by
 subst hq; exact anY b n hb hb2 hn2 h H
def xof_J (neg : Bool) (m0 k0 b : Nat) (H : Heap) : Nat → Env → Heap → Prop := fun k env H1 => ∃ m k1 : Nat, m < 18014398509481984 ∧ k1 ≤ 1075 ∧ afP m k1 = afP m0 k0 ∧ env = [(0, .bool neg), (1, aaA m), (2, .int .i64 (-(k1 : Int))), (6, .ptr (some ⟨b, 0, none⟩))] ∧ H1 = H.set b (.box 48 [.bool false, .str [], .int .i64 0]) ∧ k = k1

set_option maxRecDepth 100000 in
theorem beZ (neg : Bool) (m : Nat) (e : Int) (hm : m < 18014398509481984) (he : -1075 ≤ e ∧ e ≤ 972) (H : Heap) : ACall Tryz.prog 121 [.bool neg, aaA m, .int .i64 e] H (fun y H' => y = dD (ofN neg m e) ∧ H' = H) := by
 have hmB := alQ hm
 refine ACall.of_body Tryz.func121 rfl Tryz.ntmps121 Tryz.results121 rfl ?_
 iterate 2 refine AX ?_
 refine .s rfl (zL Tryz.zeroValue48 (zr48)) ?_
 rintro _ _ ⟨b6, hb6, rfl, hH⟩
 obtain rfl := hH.symm
 iterate 7 refine AX ?_
 refine AWP.seqToL [(1, aaA (ofR m e)), (7, .int .i64 (ofX m e))] [0, 6] ?_ ?_
 ·iterate 6 refine AX ?_
  refine AWP.cx rfl (fun hc13 => ?_) (fun hc13 => ?_)
  ·iterate 3 refine AX ?_
   refine .cl rfl Tryz.call161 (evs2 rfl rfl) (shlZ m e.toNat e (by omega) (asV hm (by omega)) (by omega) _) ?_
   iterate 5 refine AX ?_
   exact ⟨rfl, (zW rfl (by (unfold ofR; rw [if_pos (by omega)]; done)) (zW rfl (by (unfold ofX; rw [if_pos (by omega)]; done)) sX)), rfl⟩
  ·have hen : e = -(((-e).toNat : Nat) : Int) := by omega
   iterate 2 refine AX ?_
   refine AWP.loopW (xof_J neg m (-e).toNat b6 H) ((-e).toNat) ⟨m, (-e).toNat, hm, by omega, rfl, rfl, rfl, rfl⟩ (yC rfl (yC rfl (zW rfl (by rw [← hen]) (yC rfl yX)))) (Heap.le.refl _) ?_
   rintro _ _ _ ⟨m1, k1, hm1, hk1, hst, rfl, rfl, hk⟩
   have hg0 := Limbs.getD (zJ m1) 0
   refine AX ?_
   refine AWP.seqTo 33 (.bool (decide (-(k1 : Int) < 0) && decide ((0 : Int) < ((zE m1).length : Int)) && decide (((((zE m1).getD 0 0 &&& 1 : Nat)) : Int) = ((0 : Nat) : Int)))) [0, 1, 2, 6] ?_ ?_
   ·-- region 4
    iterate 4 refine AX ?_
    refine zI (t := 22) rfl (fun hg22 => ?_) (fun hg22 => ?_)
    ·have hh22 := hg22; try simp only [decide_eq_true_eq] at hh22
     iterate 5 refine AX ?_
     refine zI (t := 27) rfl (fun hg27 => ?_) (fun hg27 => ?_)
     ·have hh27 := hg27; try simp only [decide_eq_true_eq] at hh27
      refine AX ?_
      refine .gp rfl rfl rfl (by assumption) (zV (0) Tryz.underlying170 Tryz.sizeOf112 (tm rfl) zF (by omega) (by omega)) ?_
      refine AX ?_
      refine .gp rfl rfl rfl (by assumption) (apL (tm rfl) (zG 1) (by assumption) (by omega)) (.gp rfl rfl rfl (by assumption) (yR (tm rfl) (zG 0)) ?_)
      iterate 2 refine AX ?_
      exact ⟨rfl, zZ rfl (by (rw [show decide (-(k1 : Int) < 0) = _ from hg22, show decide ((0 : Int) < ((zE m1).length : Int)) = _ from hg27]; rfl)) sX, rfl⟩
     ·have hh27 := hg27; try simp only [decide_eq_false_iff_not, Int.not_lt] at hh27
      iterate 7 refine AX ?_
      exact ⟨rfl, zZ rfl (by (rw [show decide (-(k1 : Int) < 0) = _ from hg22, show decide ((0 : Int) < ((zE m1).length : Int)) = _ from hg27]; rfl)) sX, rfl⟩
    ·have hh22 := hg22; try simp only [decide_eq_false_iff_not, Int.not_lt] at hh22
     iterate 12 refine AX ?_
     exact ⟨rfl, zZ rfl (by (rw [show decide (-(k1 : Int) < 0) = _ from hg22]; rfl)) sX, rfl⟩
   ·refine AWP.sub [(33, _), (0, _), (1, _), (2, _), (6, _)] sX ?_
    refine AWP.cx rfl (fun hc33 => ?_) (fun hc33 => ?_)
    ·simp only [Bool.and_eq_true, decide_eq_true_eq] at hc33
     obtain ⟨⟨hk0, hl0⟩, hb0⟩ := hc33
     have hm0 : 0 < m1 := by rcases Nat.eq_zero_or_pos m1 with h | h; rw [h] at hl0; exact absurd hl0 (by decide); exact h
     rw [bhZ hm0] at hb0
     have hst2 := strip_go (m := m1) (k := k1) (by omega) hm0 (by omega)
     iterate 6 refine AX ?_
     refine .cl rfl Tryz.call165 (.cons (tm rfl) (.cons zF .nil)) (shrB m1 1 (alQ hm1) (by decide) _) ?_
     iterate 9 refine AX ?_
     refine .p rfl (zK (tm rfl) zF (by omega)) ?_
     iterate 4 refine AX ?_
     refine Round.mk (J := xof_J neg m (-e).toNat b6 H) ⟨m1 / 2, k1 - 1, by omega, by omega, by rw [← hst2]; exact hst, rfl, rfl, rfl⟩ (yC rfl (zW rfl (by rw [Nat.pow_one]) (zW rfl (by congr 1; omega) (yC rfl yX)))) (Heap.le.refl _) (by omega)
    ·simp only [Bool.and_eq_false_iff, decide_eq_false_iff_not] at hc33
     have hse : afP m1 k1 = (m1, k1) := bfS (by
       rcases Nat.eq_zero_or_pos m1 with h | h
       ·exact .inr (.inl h)
       ·have hnl := limbs_nz h
        rw [bhZ h] at hc33
        omega)
     rw [hst] at hse
     iterate 8 refine AX ?_
     refine .p rfl (aaE (tm rfl) (by omega)) (.cl rfl Tryz.call157 (.cons zF (evs1 rfl)) (powZ 5 k1 _ (by omega) (by decide) (by decide) (by omega) (agJ hm1 hk1).2 _) ?_)
     iterate 11 refine AX ?_
     refine .cl rfl Tryz.call158 (evs2 rfl rfl) (mulB m1 (5 ^ k1) (alQ hm1) (agJ hm1 hk1).2 (agJ hm1 hk1).1 _) ?_
     iterate 10 refine AX ?_
     exact ⟨rfl, (zW rfl (by (unfold ofR; rw [if_neg (by omega), hse]; done)) (zW rfl (by (unfold ofX; rw [if_neg (by omega), hse]; done)) sX)), rfl⟩
 ·refine AWP.sub [(1, _), (7, _), (0, _), (6, _)] sX ?_
  have hRB := ofR_lt hm he
  have hX := bhI (m := m) he
  iterate 4 refine AX ?_
  refine .cl rfl Tryz.call166 (evs1 rfl) (avP (ofR m e) hRB _) ?_
  refine AX ?_
  refine .cl rfl Tryz.call34 (evs3 rfl rfl rfl) (ajZ neg (dec (ofR m e)) (ofX m e) (bbB _) (Nat.le_trans (bjL hRB) (by decide)) (by omega) _) ?_
  iterate 3 refine AX ?_
  refine .s rfl (zL Tryz.zeroValue48 (zr48)) ?_
  rintro _ _ ⟨b10, hb10, rfl, hH⟩
  obtain rfl := hH.symm
  have hn6_10 := Heap.ne_of (Heap.objs_set_same _ _ _) hb10
  refine .e0 (zB Tryz.sizeOf48 (tm rfl) (tm rfl) rfl rfl (.inr ⟨_, rfl⟩) (Heap.objs_set_same _ _ _) (Nat.le_of_ble_eq_true rfl)) ?_
  try first | rw [Heap.set_set] | rw [Heap.set_under (by assumption)]
  iterate 3 refine AX ?_
  refine AWP.frz (t := 10) rfl (hb10) ?_
  iterate 3 refine AX ?_
  refine .e0 (zB Tryz.sizeOf48 (tm rfl) (tm rfl) rfl rfl (.inr ⟨_, rfl⟩) (Heap.objs_set_same _ _ _) (Nat.le_of_ble_eq_true rfl)) ?_
  try first | rw [Heap.set_set] | rw [Heap.set_under (by assumption)]
  iterate 2 refine AX ?_
  refine AWP.frz (t := 6) rfl (hb6) ?_
  refine AX ?_
  refine Ret.go (.cons (.cellI _ _ _ _ rfl Tryz.isAgg48 Tryz.sizeOf48 rfl) .nil) _ (Heap.le.refl _) ?_
  refine ⟨?_, rfl⟩
  rw [ofN_eq]; rfl

def ayF (x : Nat) : (Bool × List UInt8 × Int) × Int := if 3 ≤ qD x then ((false, [], 0), 11) else (ofN (negB x) (afF x) (ajM x), 0)
def bcE (x n : Nat) : (Bool × List UInt8 × Int) × Int := if 3 ≤ qD x then ((false, [], 0), 11) else sigD (ayF x).1.1 (ayF x).1.2.1 (ayF x).1.2.2 n
theorem bhJ (neg : Bool) (m : Nat) (e : Int) : qF (ofN neg m e).2.1 (ofN neg m e).2.2 = true := by
 rw [ofN_eq]
 exact aiR (bbB _)
theorem decX_two (x : Nat) : (ayF x).2 = if 3 ≤ qD x then 11 else 0 := by unfold ayF; split <;> rfl
theorem ajU (x : Nat) : qF (ayF x).1.2.1 (ayF x).1.2.2 = true := by
 unfold ayF
 split
 ·rfl
 ·exact bhJ _ _ _

set_option maxRecDepth 100000 in
theorem bbO (x : Nat) (hx : x < 18446744073709551616) (H : Heap) : ACall Tryz.prog 75 [.int .u64 (x : Int)] H (fun y H' => y = dT (ayF x) ∧ H' = H) := by
 have hpm := aiP x
 have hpe := ahT x
 refine ACall.of_body Tryz.func75 rfl Tryz.ntmps75 Tryz.results75 rfl ?_
 iterate 2 refine AX ?_
 refine .s rfl (zL Tryz.zeroValue48 (zr48)) ?_
 rintro _ _ ⟨b2, hb2, rfl, hH⟩
 obtain rfl := hH.symm
 iterate 7 refine AX ?_
 refine .cl rfl Tryz.call36 (evs1 rfl) (agY x hx _) ?_
 iterate 3 refine AX ?_
 refine AWP.cx rfl (fun hc9 => ?_) (fun hc9 => ?_)
 ·iterate 2 refine AX ?_
  refine .p rfl (zU [(0, 1), (1, 1), (2, 1)] Tryz.underlying48 Tryz.zeroValue48 (zr48) rfl (pl48 _ Tryz.underlying48) .nil rfl) (.e0 (zB Tryz.sizeOf48 (tm rfl) (tm rfl) rfl rfl (.inr ⟨_, rfl⟩) (Heap.objs_set_same _ _ _) (Nat.le_of_ble_eq_true rfl)) ?_)
  try first | rw [Heap.set_set] | rw [Heap.set_under (by assumption)]
  iterate 3 refine AX ?_
  refine AWP.frz (t := 2) rfl (hb2) ?_
  iterate 2 refine AX ?_
  refine Ret.go (.cons (.cellI _ _ _ _ rfl Tryz.isAgg48 Tryz.sizeOf48 rfl) (.cons (.tmp _ _ rfl) .nil)) _ (Heap.le.refl _) ?_
  refine ⟨?_, rfl⟩
  unfold ayF
  rw [if_pos (by omega)]; rfl
 ·iterate 5 refine AX ?_
  refine .cl rfl Tryz.call120 (evs1 rfl) (aiA x hx _) ?_
  iterate 13 refine AX ?_
  refine .cl rfl Tryz.call122 (evs1 rfl) (alH (afF x) (by omega) _) ?_
  refine AX ?_
  refine .cl rfl Tryz.call121 (evs3 rfl rfl rfl) (beZ (negB x) (afF x) (ajM x) (by omega) hpe _) (.e0 (zB Tryz.sizeOf48 (tm rfl) (tm rfl) rfl rfl (.inr ⟨_, rfl⟩) (Heap.objs_set_same _ _ _) (Nat.le_of_ble_eq_true rfl)) ?_)
  try first | rw [Heap.set_set] | rw [Heap.set_under (by assumption)]
  iterate 3 refine AX ?_
  refine AWP.frz (t := 2) rfl (hb2) ?_
  refine AX ?_
  refine Ret.go (.cons (.cellI _ _ _ _ rfl Tryz.isAgg48 Tryz.sizeOf48 rfl) (.cons (.tmp _ _ rfl) .nil)) _ (Heap.le.refl _) ?_
  refine ⟨?_, rfl⟩
  unfold ayF
  rw [if_neg (by omega)]; rfl

set_option maxRecDepth 100000 in
theorem bbN (x : Nat) (hx : x < 18446744073709551616) (n : Nat) (hn : 0 < n) (hn2 : n ≤ 100000) (H : Heap) : ACall Tryz.prog 42 [.int .u64 (x : Int), .int .i64 (n : Int), .int .i64 1] H (fun y H' => y = dT (bcE x n) ∧ H' = H) := by
 refine ACall.of_body Tryz.func42 rfl Tryz.ntmps42 Tryz.results42 rfl ?_
 iterate 2 refine AX ?_
 refine .s rfl (zL Tryz.zeroValue48 (zr48)) ?_
 rintro _ _ ⟨b6, hb6, rfl, hH⟩
 obtain rfl := hH.symm
 iterate 6 refine AX ?_
 refine .cl rfl Tryz.call75 (evs1 rfl) (bbO x hx _) ?_
 iterate 3 refine AX ?_
 refine .s rfl (zL Tryz.zeroValue48 (zr48)) ?_
 rintro _ _ ⟨b8, hb8, rfl, hH⟩
 obtain rfl := hH.symm
 have hn6_8 := Heap.ne_of (Heap.objs_set_same _ _ _) hb8
 refine .e0 (zB Tryz.sizeOf48 (tm rfl) (tm rfl) rfl rfl (.inr ⟨_, rfl⟩) (Heap.objs_set_same _ _ _) (Nat.le_of_ble_eq_true rfl)) ?_
 try first | rw [Heap.set_set] | rw [Heap.set_under (by assumption)]
 iterate 3 refine AX ?_
 refine AWP.frz (t := 8) rfl (hb8) ?_
 iterate 7 refine AX ?_
 refine AWP.cx rfl (fun hc16 => ?_) (fun hc16 => ?_)
 ·have hk3 : 3 ≤ qD x := by rcases Nat.lt_or_ge (qD x) 3 with h | h; exact absurd (show (ayF x).2 = 0 by unfold ayF; rw [if_neg (by omega)]) (by assumption); exact h
  iterate 4 refine AX ?_
  refine .e0 (zB Tryz.sizeOf48 (tm rfl) (tm rfl) rfl rfl (.inr ⟨_, rfl⟩) (Heap.objs_set_same _ _ _) (Nat.le_of_ble_eq_true rfl)) ?_
  try first | rw [Heap.set_set] | rw [Heap.set_under (by assumption)]
  iterate 3 refine AX ?_
  refine AWP.frz (t := 6) rfl (hb6) ?_
  iterate 2 refine AX ?_
  refine Ret.go (.cons (.cellI _ _ _ _ rfl Tryz.isAgg48 Tryz.sizeOf48 rfl) (.cons (.tmp _ _ rfl) .nil)) _ (Heap.le.refl _) ?_
  refine ⟨?_, rfl⟩
  unfold bcE
  rw [if_pos hk3]
  rw [show ayF x = ((false, [], 0), 11) by unfold ayF; rw [if_pos hk3]]; rfl
 ·have hk3 : ¬ 3 ≤ qD x := fun h => by rw [decX_two, if_pos h] at hc16; exact absurd hc16 (by decide)
  iterate 7 refine AX ?_
  refine .cl rfl Tryz.call76 (evs3 rfl rfl rfl) (bjY _ _ _ n (ajU x) hn hn2 _) ?_
  iterate 2 refine AX ?_
  refine .e0 (zB Tryz.sizeOf48 (tm rfl) (tm rfl) rfl rfl (.inr ⟨_, rfl⟩) (Heap.objs_set_same _ _ _) (Nat.le_of_ble_eq_true rfl)) ?_
  try first | rw [Heap.set_set] | rw [Heap.set_under (by assumption)]
  iterate 3 refine AX ?_
  refine AWP.frz (t := 6) rfl (hb6) ?_
  refine AX ?_
  refine Ret.go (.cons (.cellI _ _ _ _ rfl Tryz.isAgg48 Tryz.sizeOf48 rfl) (.cons (.tmp _ _ rfl) .nil)) _ (Heap.le.refl _) ?_
  refine ⟨?_, rfl⟩
  unfold bcE
  rw [if_neg hk3]; rfl
structure Loc where
 name : List UInt8
 dc : List UInt8
 grp : List UInt8
 lst : List UInt8
 minus : List UInt8
 pct : List UInt8
 cur : List UInt8
 first : Bool
 space : Bool
 second : Nat
def pL (l : Loc) (sz : AV) : AV := .agg [.str l.name, .str l.dc, .str l.grp, .str l.lst, .str l.minus, .str l.pct, .str l.cur, .bool l.first, .bool l.space, sz]
def rL (l : Loc) : AV := .agg [.str l.name, .str l.dc, .str l.grp, .str l.lst, .str l.minus, .str l.pct, .str l.cur, .bool l.first, .bool l.space, .int .i64 (l.second : Int)]
def Loc.ok (l : Loc) : Prop := l.dc.length ≤ 10 ∧ l.grp.length ≤ 10 ∧ l.minus.length ≤ 10 ∧ l.cur.length ≤ 10 ∧ l.pct.length ≤ 10
def acB (ds : List UInt8) (p : Int) : (List UInt8 × List UInt8) × Bool :=
 if 400 < p ∨ 400 < (ds.length : Int) - p then (([], []), false)
 else if p ≤ 0 then (([48], List.replicate (-p).toNat 48 ++ ds), true)
 else if (ds.length : Int) ≤ p then ((ds ++ List.replicate (p - ds.length).toNat 48, []), true)
 else ((ds.take p.toNat, ds.drop p.toNat), true)
def aiC (l : Loc) (neg : Bool) (ds : List UInt8) (p : Int) : List UInt8 :=
 if (acB ds p).2 = true then (if neg = true then l.minus else []) ++ ((acB ds p).1.1 ++ (if (acB ds p).1.2 = [] then [] else l.dc ++ (acB ds p).1.2)) else []
theorem asY {ds : List UInt8} {p : Int} (hl : ds.length ≤ 1100) : (acB ds p).1.1.length ≤ 2000 ∧ (acB ds p).1.2.length ≤ 2000 := by
 unfold acB
 split
 ·simp
 ·split
  ·simp only [List.length_append, List.length_replicate, List.length_cons, List.length_nil]; omega
  ·split
   ·simp only [List.length_append, List.length_replicate, List.length_nil]; omega
   ·simp only [List.length_take, List.length_drop]; omega
theorem bfB {l : Loc} {neg : Bool} {ds : List UInt8} {p : Int} (hl : ds.length ≤ 1100) (hk : l.ok) : (aiC l neg ds p).length ≤ 5000 := by
 have h := asY (p := p) hl
 obtain ⟨h1, h2, h3, h4, h5⟩ := hk
 unfold aiC
 split
 ·simp only [List.length_append]
  have a1 : (if neg = true then l.minus else []).length ≤ 10 := by split <;> first | omega | (simp; done) | (simp; omega)
  have a2 : (if (acB ds p).1.2 = [] then [] else l.dc ++ (acB ds p).1.2).length ≤ 2010 := by split <;> first | omega | (simp; done) | (simp; omega)
  omega
 ·simp
theorem azX {ds : List UInt8} {e : Int} (h : qF ds e = true) : afM ds e = (ds.length : Int) + e := by unfold afM; rw [if_pos h]

set_option maxRecDepth 100000 in
theorem awF (neg : Bool) (ds : List UInt8) (e : Int) (hr : qF ds e = true) (H : Heap) : ACall Tryz.prog 59 [dA neg ds e] H (fun y H' => y = .tuple [.str (acB ds ((ds.length : Int) + e)).1.1, .str (acB ds ((ds.length : Int) + e)).1.2, .bool (acB ds ((ds.length : Int) + e)).2] ∧ H' = H) := by
 have hpd := azX hr
 have hrl := aaS hr
 have hdd := qW hr
 have hml := zP
 generalize hpp : (ds.length : Int) + e = p at *
 refine ACall.of_body Tryz.func59 rfl Tryz.ntmps59 Tryz.results59 rfl ?_
 iterate 2 refine AX ?_
 refine .e rfl (yF (tm rfl) (.inr ⟨_, rfl⟩)) ?_
 iterate 6 refine AX ?_
 refine AWP.draw [(0, true), (2, true), (3, true), (4, true), (1, false), (5, true), (6, true)] rfl (by decide +kernel) ?_
 refine AX ?_
 refine .p rfl rfl (zA Tryz.underlying48 rfl Tryz.sizeOf9 (tm rfl)) ?_
 iterate 2 refine AX ?_
 refine .s rfl rfl (zH Tryz.call43 (evs1 rfl) (aiB neg ds e hdd _)) ?_
 rintro _ _ ⟨rfl, hH⟩
 obtain rfl := hH.symm
 rw [hpd]
 iterate 13 refine AX ?_
 refine AWP.cx rfl (fun hc12 => ?_) (fun hc12 => ?_)
 ·iterate 10 refine AX ?_
  refine Ret.go (.cons (.tmp _ _ rfl) (.cons (.tmp _ _ rfl) (.cons (.tmp _ _ rfl) .nil))) _ (Heap.le.refl _) ?_
  refine ⟨?_, rfl⟩
  unfold acB
  have hn0 : ds = [] := List.length_eq_zero_iff.1 (by omega)
  have he0 : p = 0 := by rw [hn0] at hpp; have he := hr; rw [hn0] at he; unfold qF at he; rw [if_pos rfl] at he; have := of_decide_eq_true he; simp only [List.length_nil] at hpp; omega
  rw [hn0, he0]; rfl
 ·refine AWP.seqTo 15 (.bool (decide ((400 : Int) < p) || decide ((400 : Int) < (ds.length : Int) - p))) [1, 2, 3, 4, 5, 6] ?_ ?_
  ·-- region 4
   iterate 4 refine AX ?_
   refine zI (t := 18) rfl (fun hg18 => ?_) (fun hg18 => ?_)
   ·have hh18 := hg18; try simp only [decide_eq_true_eq] at hh18
    iterate 7 refine AX ?_
    exact ⟨rfl, zZ rfl (by (rw [show decide ((400 : Int) < p) = _ from hg18]; rfl)) sX, rfl⟩
   ·have hh18 := hg18; try simp only [decide_eq_false_iff_not, Int.not_lt] at hh18
    iterate 2 refine AX ?_
    refine .gp rfl rfl rfl (by assumption) (zO (tm rfl) (tm rfl) (by omega)) ?_
    iterate 4 refine AX ?_
    exact ⟨rfl, zZ rfl (by (rw [show decide ((400 : Int) < p) = _ from hg18]; rfl)) sX, rfl⟩
  ·refine AWP.sub [(15, _), (1, _), (2, _), (3, _), (4, _), (5, _), (6, _)] sX ?_
   refine AWP.cx rfl (fun hc15 => ?_) (fun hc15 => ?_)
   ·simp only [Bool.or_eq_true, decide_eq_true_eq] at hc15
    iterate 10 refine AX ?_
    refine Ret.go (.cons (.tmp _ _ rfl) (.cons (.tmp _ _ rfl) (.cons (.tmp _ _ rfl) .nil))) _ (Heap.le.refl _) ?_
    refine ⟨?_, rfl⟩
    unfold acB
    rw [if_pos hc15]; rfl
   ·simp only [Bool.or_eq_false_iff, decide_eq_false_iff_not] at hc15
    iterate 7 refine AX ?_
    refine AWP.cx rfl (fun hc24 => ?_) (fun hc24 => ?_)
    ·refine AX ?_
     refine AWP.draw [(0, true), (1, true), (3, true), (4, true), (2, false), (5, true), (6, true), (7, true), (8, true)] rfl (by decide +kernel) ?_
     refine AX ?_
     refine .p rfl rfl (aaE (tm rfl) (by omega)) (.p rfl rfl (zA Tryz.underlying48 rfl Tryz.sizeOf9 (tm rfl)) ?_)
     refine AX ?_
     refine .s rfl rfl (zH Tryz.call93 (.cons (zR rfl) (evs1 rfl)) (repeatZ 48 _ (-p).toNat (by omega) (by omega) _)) ?_
     rintro _ _ ⟨rfl, hH⟩
     obtain rfl := hH.symm
     refine .p rfl rfl (yE (tm rfl) (tm rfl) (by rw [zP, List.length_replicate]; omega)) ?_
     iterate 8 refine AX ?_
     refine Ret.go (.cons (.tmp _ _ rfl) (.cons (.tmp _ _ rfl) (.cons (.tmp _ _ rfl) .nil))) _ (Heap.le.refl _) ?_
     refine ⟨?_, rfl⟩
     unfold acB
     rw [if_neg (by omega), if_pos (by omega)]; rfl
    ·iterate 8 refine AX ?_
     refine AWP.cx rfl (fun hc33 => ?_) (fun hc33 => ?_)
     ·refine AX ?_
      refine AWP.draw [(0, true), (1, true), (2, true), (3, true), (4, true), (5, false), (6, true), (7, true), (8, true), (9, true)] rfl (by decide +kernel) ?_
      refine .p rfl rfl (zA Tryz.underlying48 rfl Tryz.sizeOf9 (tm rfl)) ?_
      iterate 3 refine AX ?_
      refine .p rfl rfl (zO (tm rfl) (tm rfl) (by omega)) (.s rfl rfl (zH Tryz.call93 (.cons (zR rfl) (evs1 rfl)) (repeatZ 48 _ (p - ds.length).toNat (by omega) (by omega) _)) ?_)
      rintro _ _ ⟨rfl, hH⟩
      obtain rfl := hH.symm
      refine .p rfl rfl (yE (tm rfl) (tm rfl) (by rw [zP, List.length_replicate]; omega)) ?_
      iterate 8 refine AX ?_
      refine Ret.go (.cons (.tmp _ _ rfl) (.cons (.tmp _ _ rfl) (.cons (.tmp _ _ rfl) .nil))) _ (Heap.le.refl _) ?_
      refine ⟨?_, rfl⟩
      unfold acB
      rw [if_neg (by omega), if_neg (by omega), if_pos (by omega)]; rfl
     ·iterate 4 refine AX ?_
      refine AWP.draw [(0, true), (1, true), (2, true), (3, true), (4, true), (5, true), (6, true), (7, true), (8, true), (9, true), (10, true)] rfl (by decide +kernel) ?_
      refine .p rfl rfl (zA Tryz.underlying48 rfl Tryz.sizeOf9 (tm rfl)) ?_
      iterate 2 refine AX ?_
      refine .p rfl rfl (qP Tryz.underlying9 (tm rfl) (tm rfl) (by omega) (by omega)) (.p rfl rfl (zA Tryz.underlying48 rfl Tryz.sizeOf9 (tm rfl)) ?_)
      iterate 2 refine AX ?_
      refine .p rfl rfl (yY Tryz.underlying9 (tm rfl) (tm rfl) (by omega) (by omega)) ?_
      iterate 6 refine AX ?_
      refine Ret.go (.cons (.tmp _ _ rfl) (.cons (.tmp _ _ rfl) (.cons (.tmp _ _ rfl) .nil))) _ (Heap.le.refl _) ?_
      refine ⟨?_, rfl⟩
      unfold acB
      rw [if_neg (by omega), if_neg (by omega), if_neg (by omega)]; rfl

set_option maxRecDepth 100000 in
theorem anW (l : Loc) (hk : l.ok) (sz : AV) (neg : Bool) (ds : List UInt8) (e : Int) (hr : qF ds e = true) (H : Heap) : ACall Tryz.prog 20 [pL l sz, dA neg ds e, .bool false] H (fun y H' => y = .str (aiC l neg ds ((ds.length : Int) + e)) ∧ H' = H) := by
 have hsl := asY (ds := ds) (p := (ds.length : Int) + e) (aaS hr).1
 have hml := zP
 have hdd := qW hr
 obtain ⟨hk1, hk2, hk3, hk4, hk5⟩ := hk
 generalize hsv : acB ds ((ds.length : Int) + e) = sv at *
 obtain ⟨⟨w, r⟩, ok⟩ := sv
 obtain ⟨hsl1, hsl2⟩ := hsl
 simp only [] at hsl1 hsl2
 refine ACall.of_body Tryz.func20 rfl Tryz.ntmps20 Tryz.results20 rfl ?_
 iterate 2 refine AX ?_
 refine .e rfl (yF (tm rfl) (.inr ⟨_, rfl⟩)) (.e rfl (yF (tm rfl) (.inr ⟨_, rfl⟩)) ?_)
 iterate 6 refine AX ?_
 refine .cl rfl Tryz.call59 (evs1 rfl) (awF neg ds e hr _) ?_
 rw [hsv]
 dsimp only
 iterate 10 refine AX ?_
 refine AWP.seqTo 22 (.bool (!ok)) [2, 3, 4, 6, 7, 8] ?_ ?_
 ·-- region 2
  iterate 4 refine AX ?_
  refine zI (t := 18) rfl (fun hg18 => ?_) (fun hg18 => ?_)
  ·have hh18 := hg18; try simp only [Bool.not_eq_true'] at hh18
   iterate 5 refine AX ?_
   exact ⟨rfl, zZ rfl (by (cases ok <;> first | rfl | (simp at hg18))) sX, rfl⟩
  ·have hh18 := hg18; try simp only [Bool.not_eq_false'] at hh18
   refine AX ?_
   refine .gs rfl rfl rfl (by assumption) (zH Tryz.call60 (evs1 rfl) (aeA neg ds e hdd _)) ?_
   rintro _ _ ⟨rfl, hH⟩
   obtain rfl := hH.symm
   rw [hr]
   iterate 3 refine AX ?_
   exact ⟨rfl, zZ rfl (by (cases ok <;> first | rfl | (simp at hg18))) sX, rfl⟩
 ·refine AWP.sub [(22, _), (2, _), (3, _), (4, _), (6, _), (7, _), (8, _)] sX ?_
  refine AWP.cx rfl (fun hc22 => ?_) (fun hc22 => ?_)
  ·iterate 7 refine AX ?_
   refine Ret.go (.cons (.tmp _ _ rfl) .nil) _ (Heap.le.refl _) ?_
   refine ⟨?_, rfl⟩
   unfold aiC
   rw [hsv]
   simp only []
   rw [if_neg (show ¬ ok = true by simpa using hc22)]; rfl
  ·iterate 8 refine AX ?_
   refine AWP.cond_false (tm rfl) (by rfl) ?_
   iterate 2 refine AX ?_
   refine AWP.seqToL [(7, .str ((if neg = true then l.minus else []) ++ w))] [3, 6, 8] ?_ ?_
   ·iterate 2 refine AX ?_
    refine .p rfl (zA Tryz.underlying48 rfl Tryz.sizeOf4 (tm rfl)) ?_
    iterate 3 refine AX ?_
    refine AWP.cx rfl (fun hc28 => ?_) (fun hc28 => ?_)
    ·refine AX ?_
     refine .p rfl (zA Tryz.underlying25 rfl Tryz.sizeOf9 (tm rfl)) ?_
     iterate 2 refine AX ?_
     refine .p rfl (yE (tm rfl) (tm rfl) (by rw [zP]; omega)) ?_
     iterate 2 refine AX ?_
     exact ⟨rfl, (zW rfl (by (rw [if_pos (by assumption)]; done)) sX), rfl⟩
    ·refine AX ?_
     exact ⟨rfl, (zW rfl (by (rw [if_neg (by (rw [hc28]; decide))]; rfl)) sX), rfl⟩
   ·refine AWP.sub [(7, _), (3, _), (6, _), (8, _)] sX ?_
    have hmw : (if neg = true then l.minus else []).length ≤ 10 := by split <;> first | omega | (simp; done) | (simp; omega)
    iterate 7 refine AX ?_
    refine AWP.cx rfl (fun hc34 => ?_) (fun hc34 => ?_)
    ·iterate 2 refine AX ?_
     refine .p rfl (zA Tryz.underlying25 rfl Tryz.sizeOf9 (tm rfl)) ?_
     iterate 2 refine AX ?_
     refine .p rfl (yE (tm rfl) (tm rfl) (by rw [zP]; omega)) (.p rfl (yE (tm rfl) (tm rfl) (by simp only [zP, List.length_append]; first | omega | (split <;> first | omega | (simp; done) | (simp; omega)))) ?_)
     iterate 10 refine AX ?_
     refine Ret.go (.cons (.tmp _ _ rfl) .nil) _ (Heap.le.refl _) ?_
     refine ⟨?_, rfl⟩
     unfold aiC
     rw [hsv]
     simp only []
     rw [if_pos (show ok = true by simpa using hc22), if_neg (show ¬ r = [] by simpa using hc34), List.append_assoc]; rfl
    ·iterate 9 refine AX ?_
     refine Ret.go (.cons (.tmp _ _ rfl) .nil) _ (Heap.le.refl _) ?_
     refine ⟨?_, rfl⟩
     unfold aiC
     rw [hsv]
     simp only []
     rw [if_pos (show ok = true by simpa using hc22), if_pos (show r = [] by simpa using hc34), List.append_nil]; rfl
theorem bfV {ds : List UInt8} {i : Nat} (h : i < ds.length) : (ds.take (i + 1)).drop i = [ds.getD i 0] := by
 rw [← List.take_append_getElem h, List.drop_append_of_le_length (by rw [List.length_take]; omega), List.drop_of_length_le (by rw [List.length_take]; omega), List.getD_eq_getElem?_getD, List.getElem?_eq_getElem h]; rfl
theorem itoaZ (q : Int) (n : Nat) (hq : q = (n : Int)) (hn : n ≤ 9223372036854775807) (H : Heap) : ACall Tryz.prog 44 [.int .i64 q] H (fun y H' => y = .str (dec n) ∧ H' = H) := by
 subst hq; exact itoaA n hn H
def axR (l : Loc) (neg : Bool) (ds : List UInt8) : List UInt8 := (if neg = true then l.minus else []) ++ ds.take 1 ++ (if (1 : Int) < (ds.length : Int) then l.dc ++ ds.drop 1 else [])
def biY (p : Int) : Nat := (if p < 1 then 1 - p else p - 1).toNat
def genD (l : Loc) (s : (Bool × List UInt8 × Int) × Int) : List UInt8 :=
 if s.2 ≠ 0 then []
 else if s.1.2.1 = [] ∨ (-4 ≤ (s.1.2.1.length : Int) + s.1.2.2 ∧ (s.1.2.1.length : Int) + s.1.2.2 ≤ 15) then aiC l s.1.1 s.1.2.1 ((s.1.2.1.length : Int) + s.1.2.2)
 else axR l s.1.1 s.1.2.1 ++ [69] ++ [if (s.1.2.1.length : Int) + s.1.2.2 < 1 then 45 else 43] ++ (if (dec (biY ((s.1.2.1.length : Int) + s.1.2.2))).length < 2 then [48] else []) ++ dec (biY ((s.1.2.1.length : Int) + s.1.2.2))
theorem bfA {l : Loc} {neg : Bool} {ds : List UInt8} (h : ds ≠ []) (hl : ds.length ≤ 300) : aiC l neg ds 1 = axR l neg ds := by
 have hp := List.length_pos_iff.2 h
 unfold aiC axR acB
 rw [if_neg (show ¬ ((400 : Int) < 1 ∨ 400 < (ds.length : Int) - 1) by omega), if_neg (show ¬ (1 : Int) ≤ 0 by decide)]
 by_cases h1 : (ds.length : Int) ≤ 1
 ·rw [if_pos h1, if_neg (show ¬ (1 : Int) < (ds.length : Int) by omega), List.take_of_length_le (show ds.length ≤ 1 by omega)]
  rw [show ((1 : Int) - (ds.length : Int)).toNat = 0 by omega]
  simp
 ·rw [if_neg h1, if_pos (show (1 : Int) < (ds.length : Int) by omega)]
  have hd : ds.drop 1 ≠ [] := fun q => by have := congrArg List.length q; rw [List.length_drop] at this; simp only [List.length_nil] at this; omega
  show (if true = true then _ ++ (ds.take 1 ++ (if ds.drop 1 = [] then [] else l.dc ++ ds.drop 1)) else []) = _
  rw [if_pos rfl, if_neg hd, List.append_assoc]
theorem bcD (x n : Nat) : qF (bcE x n).1.2.1 (bcE x n).1.2.2 = true := by
 unfold bcE
 split
 ·rfl
 ·unfold sigD
  split
  ·exact ajU x
  ·unfold cutD
   have hd := qW (ajU x)
   exact aiR (by split; exact auO (hd.take _); exact hd.take _)
theorem mk_len (neg : Bool) (ds : List UInt8) (e : Int) : (mkN neg ds e).1.2.1.length ≤ ds.length := by
 have h : (acF ds).length ≤ ds.length := Nat.le_trans (aiE _ _) (auZ _ _)
 unfold mkN
 split
 ·simp
 ·split
  ·exact h
  ·simp
theorem sigX_len (x n : Nat) : (bcE x n).1.2.1.length ≤ n + 1 := by
 unfold bcE
 split
 ·simp
 ·unfold sigD
  split
  ·rename_i h; exact Nat.le_succ_of_le h
  ·unfold cutD
   refine Nat.le_trans (mk_len _ _ _) ?_
   split
   ·refine Nat.le_trans (baQ _) ?_
    rw [List.length_take]; omega
   ·rw [List.length_take]; omega

set_option maxRecDepth 100000 in
theorem ajC (l : Loc) (hk : l.ok) (sz : AV) (x : Nat) (hx : x < 18446744073709551616) (H : Heap) : ACall Tryz.prog 14 [.int .u64 (x : Int), pL l sz] H (fun y H' => y = .str (genD l (bcE x 15)) ∧ H' = H) := by
 have hsr := bcD x 15
 have hsl := sigX_len x 15
 generalize hs : bcE x 15 = s at *
 obtain ⟨⟨neg, ds, e⟩, er⟩ := s
 dsimp only at hsr hsl
 have hml := zP
 have hrl := aaS hsr
 have hdd := qW hsr
 have hpd := azX hsr
 have hwl := bfB (l := l) (neg := neg) (ds := ds) (p := (ds.length : Int) + e) (by omega) hk
 have hkk := hk
 obtain ⟨hk1, hk2, hk3, hk4, hk5⟩ := hkk
 have hel : (dec (biY ((ds.length : Int) + e))).length ≤ 10 := (asC (by decide)).2 (by unfold biY; split <;> omega)
 have hmn : (axR l neg ds).length ≤ 200 := by
  unfold axR
  have a1 : (if neg = true then l.minus else []).length ≤ 10 := by split <;> first | omega | (simp; done)
  have a2 : (if (1 : Int) < (ds.length : Int) then l.dc ++ ds.drop 1 else []).length ≤ 110 := by split <;> simp only [List.length_append, List.length_drop, List.length_nil] <;> omega
  simp only [List.length_append, List.length_take]; omega
 have hzl : (if (dec (biY ((ds.length : Int) + e))).length < 2 then ([48] : List UInt8) else []).length ≤ 1 := by split <;> simp
 refine ACall.of_body Tryz.func14 rfl Tryz.ntmps14 Tryz.results14 rfl ?_
 iterate 2 refine AX ?_
 refine .e rfl (yF (tm rfl) (.inr ⟨_, rfl⟩)) ?_
 iterate 6 refine AX ?_
 refine .cl rfl Tryz.call42 (.cons (tm rfl) (.cons zF (.cons zF .nil))) (bbN x hx 15 (by decide) (by decide) _) ?_
 rw [hs]
 unfold dT
 dsimp only
 iterate 3 refine AX ?_
 refine .s rfl (zL Tryz.zeroValue48 (zr48)) ?_
 rintro _ _ ⟨b5, hb5, rfl, hH⟩
 obtain rfl := hH.symm
 refine .e0 (zB Tryz.sizeOf48 (tm rfl) (tm rfl) rfl rfl (.inr ⟨_, rfl⟩) (Heap.objs_set_same _ _ _) (Nat.le_of_ble_eq_true rfl)) ?_
 try first | rw [Heap.set_set] | rw [Heap.set_under (by assumption)]
 iterate 3 refine AX ?_
 refine AWP.frz (t := 5) rfl (hb5) ?_
 iterate 7 refine AX ?_
 refine AWP.cx rfl (fun hc16 => ?_) (fun hc16 => ?_)
 ·iterate 7 refine AX ?_
  refine Ret.go (.cons (.tmp _ _ rfl) .nil) _ (Heap.le.refl _) ?_
  refine ⟨?_, rfl⟩
  unfold genD
  dsimp only
  rw [if_pos (show er ≠ 0 by simpa using hc16)]; rfl
 ·have her : er = 0 := by simpa using hc16
  subst her
  iterate 5 refine AX ?_
  refine .cl rfl Tryz.call43 (evs1 rfl) (aiB neg ds e hdd _) ?_
  rw [hpd]
  iterate 4 refine AX ?_
  refine AWP.seqTo 29 (.bool (decide (ds = []) || (decide (-4 ≤ ((ds.length : Int) + e)) && decide (((ds.length : Int) + e) ≤ 15)))) [3, 4, 5, 7] ?_ ?_
  ·-- region 5
   refine AX ?_
   refine .p rfl (zA Tryz.underlying48 rfl Tryz.sizeOf9 (tm rfl)) ?_
   iterate 3 refine AX ?_
   refine zI (t := 22) rfl (fun hg22 => ?_) (fun hg22 => ?_)
   ·have hh22 := hg22; try simp only [decide_eq_true_eq] at hh22
    iterate 8 refine AX ?_
    exact ⟨rfl, zZ rfl (by (rw [show decide (ds = []) = _ from hg22]; rfl)) sX, rfl⟩
   ·have hh22 := hg22; try simp only [decide_eq_false_iff_not] at hh22
    iterate 3 refine AX ?_
    refine zI (t := 25) rfl (fun hg25 => ?_) (fun hg25 => ?_)
    ·have hh25 := hg25; try simp only [decide_eq_true_eq] at hh25
     iterate 5 refine AX ?_
     exact ⟨rfl, zZ rfl (by (rw [show decide (ds = []) = _ from hg22, show decide (-4 ≤ ((ds.length : Int) + e)) = _ from hg25]; rfl)) sX, rfl⟩
    ·have hh25 := hg25; try simp only [decide_eq_false_iff_not, Int.not_le] at hh25
     iterate 5 refine AX ?_
     exact ⟨rfl, zZ rfl (by (rw [show decide (ds = []) = _ from hg22, show decide (-4 ≤ ((ds.length : Int) + e)) = _ from hg25]; rfl)) sX, rfl⟩
  ·refine AWP.sub [(29, _), (3, _), (4, _), (5, _), (7, _)] sX ?_
   refine AWP.cx rfl (fun hc29 => ?_) (fun hc29 => ?_)
   ·simp only [Bool.or_eq_true, Bool.and_eq_true, decide_eq_true_eq] at hc29
    iterate 4 refine AX ?_
    refine .cl rfl Tryz.call20 (.cons (tm rfl) (.cons (tm rfl) (.cons yN .nil))) (anW l hk sz neg ds e hsr _) ?_
    iterate 5 refine AX ?_
    refine Ret.go (.cons (.tmp _ _ rfl) .nil) _ (Heap.le.refl _) ?_
    refine ⟨?_, rfl⟩
    unfold genD
    dsimp only
    rw [if_neg (show ¬ ((0 : Int) ≠ 0) by simp), if_pos hc29]; rfl
   ·simp only [Bool.or_eq_false_iff, Bool.and_eq_false_iff, decide_eq_false_iff_not] at hc29
    have hdn : ds ≠ [] := hc29.1
    have hdp := List.length_pos_iff.2 hdn
    have hr1 : qF ds (1 - (ds.length : Int)) = true := by
     have h := hsr
     rw [amE hdn] at h ⊢
     unfold amF at h ⊢
     simp only [Bool.and_eq_true, decide_eq_true_eq] at h ⊢
     refine ⟨⟨⟨⟨⟨h.1.1.1.1.1, by omega⟩, by omega⟩, h.1.1.2⟩, h.1.2⟩, h.2⟩
    iterate 5 refine AX ?_
    refine .p rfl (zA Tryz.underlying48 rfl Tryz.sizeOf4 (tm rfl)) ?_
    refine AX ?_
    refine .p rfl (zA Tryz.underlying48 rfl Tryz.sizeOf9 (tm rfl)) ?_
    refine AX ?_
    refine .p rfl (zA Tryz.underlying48 rfl Tryz.sizeOf9 (tm rfl)) ?_
    iterate 2 refine AX ?_
    refine .p rfl (zO zF (tm rfl) (by omega)) ?_
    refine .p rfl (zU [(0, 1), (1, 1), (2, 1)] Tryz.underlying48 Tryz.zeroValue48 (zr48) rfl (pl48 _ Tryz.underlying48) (.cons (tm rfl) (.inl rfl) (.cons (tm rfl) (.inl rfl) (.cons (tm rfl) (.inl rfl) .nil))) rfl) ?_
    refine .cl rfl Tryz.call20 (.cons (tm rfl) (.cons (tm rfl) (.cons yN .nil))) (anW l hk sz neg ds (1 - (ds.length : Int)) hr1 _) ?_
    rw [show (ds.length : Int) + (1 - (ds.length : Int)) = 1 by omega, bfA hdn (by omega)]
    refine .p rfl (yE (tm rfl) (zR rfl) (by rw [zP]; simp only [List.length_cons, List.length_nil]; omega)) ?_
    iterate 6 refine AX ?_
    refine .p rfl (zO (tm rfl) zF (by omega)) ?_
    refine AX ?_
    refine .p rfl (zO zF (tm rfl) (by omega)) (.p rfl (acC (tm rfl) (tm rfl)) (.cl rfl Tryz.call44 (evs1 rfl) (itoaZ _ (biY ((ds.length : Int) + e)) (by unfold biY; simp only [ayB]; split <;> split <;> omega) (by unfold biY; split <;> omega) _) ?_))
    iterate 3 refine AX ?_
    refine AWP.seqToL [(8, .str (axR l neg ds ++ [69] ++ [if ((ds.length : Int) + e) < 1 then 45 else 43]))] [4, 9] ?_ ?_
    ·iterate 6 refine AX ?_
     refine AWP.cx rfl (fun hc52 => ?_) (fun hc52 => ?_)
     ·iterate 2 refine AX ?_
      refine .p rfl (yE (tm rfl) (zR rfl) (by rw [zP]; simp only [List.length_append, List.length_cons, List.length_nil]; omega)) ?_
      iterate 2 refine AX ?_
      exact ⟨rfl, (zW rfl (by (rw [if_pos (by assumption)]; done)) sX), rfl⟩
     ·iterate 2 refine AX ?_
      refine .p rfl (yE (tm rfl) (zR rfl) (by rw [zP]; simp only [List.length_append, List.length_cons, List.length_nil]; omega)) ?_
      iterate 2 refine AX ?_
      exact ⟨rfl, (zW rfl (by (rw [if_neg (by omega)]; done)) sX), rfl⟩
    ·refine AWP.sub [(8, _), (4, _), (9, _)] sX ?_
     refine AWP.seqToL [(8, .str (axR l neg ds ++ [69] ++ [if ((ds.length : Int) + e) < 1 then 45 else 43] ++ (if (dec (biY ((ds.length : Int) + e))).length < 2 then ([48] : List UInt8) else [])))] [4, 9] ?_ ?_
     ·iterate 7 refine AX ?_
      refine AWP.cx rfl (fun hc59 => ?_) (fun hc59 => ?_)
      ·iterate 2 refine AX ?_
       refine .p rfl (yE (tm rfl) (zR rfl) (by rw [zP]; simp only [List.length_append, List.length_cons, List.length_nil]; omega)) ?_
       iterate 2 refine AX ?_
       exact ⟨rfl, (zW rfl (by (rw [if_pos (show (dec (biY ((ds.length : Int) + e))).length < 2 by omega)]; done)) sX), rfl⟩
      ·refine AX ?_
       exact ⟨rfl, (zW rfl (by (rw [if_neg (show ¬ (dec (biY ((ds.length : Int) + e))).length < 2 by omega), List.append_nil]; done)) sX), rfl⟩
     ·refine AWP.sub [(8, _), (4, _), (9, _)] sX ?_
      iterate 4 refine AX ?_
      refine .p rfl (yE (tm rfl) (tm rfl) (by rw [zP]; simp only [List.length_append, List.length_cons, List.length_nil]; omega)) ?_
      iterate 4 refine AX ?_
      refine Ret.go (.cons (.tmp _ _ rfl) .nil) _ (Heap.le.refl _) ?_
      refine ⟨?_, rfl⟩
      unfold genD
      dsimp only
      rw [if_neg (show ¬ ((0 : Int) ≠ 0) by simp), if_neg (show ¬ (ds = [] ∨ (-4 ≤ ((ds.length : Int) + e) ∧ ((ds.length : Int) + e) ≤ 15)) by rintro (q | q); exact hdn q; omega)]; rfl
end Go.Proofs.YtfkeflcdadlmdaaGreatDoor
