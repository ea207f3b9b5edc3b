import Derived.Test.YtmmgbnolccpjoaaGreatDoorYd
import Derived.Test.YtmmgbnolccpjoaaGreatDoorSsk
import Derived.Test.YtmmgbnolccpjoaaGreatDoorD1
namespace Go.Proofs.YtmmgbnolccpjoaaGreatDoor
open Go Go.RowKit

def aeX : Nat → Nat → Nat × Nat
 | m, 0 => (m, 0)
 | m, k + 1 => if m % 2 = 0 ∧ 0 < m then aeX (m / 2) k else (m, k + 1)
theorem ajO : ∀ (k m : Nat), (aeX m k).1 ≤ m ∧ (aeX m k).2 ≤ k
 | 0, m => ⟨Nat.le_refl _, Nat.le_refl _⟩
 | k + 1, m => by
  unfold aeX
  split
  ·have := ajO k (m / 2)
   omega
  ·exact ⟨Nat.le_refl _, Nat.le_refl _⟩
theorem strip_go {m k : Nat} (h : m % 2 = 0) (hm : 0 < m) (hk : 0 < k) : aeX m k = aeX (m / 2) (k - 1) := by
 obtain ⟨k, rfl⟩ : ∃ q, k = q + 1 := ⟨k - 1, by omega⟩
 rw [aeX, if_pos ⟨h, hm⟩]; rfl
theorem bdE {m k : Nat} (h : k = 0 ∨ m = 0 ∨ m % 2 ≠ 0) : aeX m k = (m, k) := by
 cases k with
 | zero => rfl
 | succ k => rw [aeX, if_neg (by omega)]
def ofN (neg : Bool) (m : Nat) (e : Int) : Bool × List UInt8 × Int :=
 if 0 ≤ e then (mkN neg (dec (m * 2 ^ e.toNat)) 0).1 else (mkN neg (dec ((aeX m (-e).toNat).1 * 5 ^ (aeX m (-e).toNat).2)) (-((aeX m (-e).toNat).2 : Int))).1
def ofR (m : Nat) (e : Int) : Nat := if 0 ≤ e then m * 2 ^ e.toNat else (aeX m (-e).toNat).1 * 5 ^ (aeX m (-e).toNat).2
def ofX (m : Nat) (e : Int) : Int := if 0 ≤ e then 0 else -((aeX m (-e).toNat).2 : Int)
theorem beP (neg : Bool) (m : Nat) (e : Int) : ofN neg m e = (mkN neg (dec (ofR m e)) (ofX m e)).1 := by
 unfold ofN ofR ofX
 split <;> rfl
def dD (d : Bool × List UInt8 × Int) : AV := dA d.1 d.2.1 d.2.2
theorem arD {k : Nat} (hk : k ≤ 3300) : 18014398509481984 * 2 ^ k < BIG := by
 obtain ⟨K, hK, hB⟩ : ∃ K, K = 8192 ∧ BIG = 2 ^ K := ⟨32 * 256, rfl, amP _ rfl⟩
 rw [hB, show (18014398509481984 : Nat) = 2 ^ 54 by decide, ← Nat.pow_add]
 exact Nat.pow_lt_pow_right (by decide) (by omega)
theorem afP {m k : Nat} (hm : m < 18014398509481984) (hk : k ≤ 1075) : m * 5 ^ k < BIG ∧ 5 ^ k < BIG := by
 have h1 : 5 ^ k ≤ 2 ^ (3 * k) := by rw [Nat.pow_mul]; exact Nat.pow_le_pow_left (by decide) k
 have h0 : 5 ^ k ≤ 18014398509481984 * 5 ^ k := Nat.le_mul_of_pos_left _ (by decide)
 have h2 : 18014398509481984 * 5 ^ k < BIG := Nat.lt_of_le_of_lt (Nat.mul_le_mul_left _ h1) (arD (by omega))
 exact ⟨Nat.lt_of_le_of_lt (Nat.mul_le_mul_right _ (by omega)) h2, Nat.lt_of_le_of_lt h0 h2⟩
theorem arC {m k : Nat} (hm : m < 18014398509481984) (hk : k ≤ 972) : m * 2 ^ k < BIG := by
 exact Nat.lt_of_le_of_lt (Nat.mul_le_mul_right _ (by omega)) (arD (by omega))
theorem akJ {m : Nat} (hm : m < 18014398509481984) : m < BIG := Nat.lt_trans hm (by unfold BIG; decide +kernel)
theorem beY {m : Nat} (h : 0 < m) : (zF m).getD 0 0 &&& 1 = m % 2 := by
 rw [qE h, List.getD_cons_zero, show (1 : Nat) = 2 ^ 1 - 1 by decide, Nat.and_two_pow_sub_one_eq_mod]
 omega
theorem ofR_lt {m : Nat} {e : Int} (hm : m < 18014398509481984) (he : -1075 ≤ e ∧ e ≤ 972) : ofR m e < BIG := by
 unfold ofR
 split
 ·exact arC hm (by omega)
 ·have h := ajO (-e).toNat m
  exact (afP (by omega) (by omega)).1
theorem beO {m : Nat} {e : Int} (he : -1075 ≤ e ∧ e ≤ 972) : -1075 ≤ ofX m e ∧ ofX m e ≤ 0 := by
 unfold ofX
 have h := ajO (-e).toNat m
 split <;> omega
theorem shlZ (a s : Nat) (q : Int) (hq : q = (s : Int)) (h : a * 2 ^ s < BIG) (hs : s < 1000000000) (H : Heap) : ACall Tryz.prog 272 [aaP a, .int .i64 q] H (fun y H' => y = .tuple [aaP (a * 2 ^ s), .int .i64 0] ∧ H' = H) := by
 subst hq; exact shlB a s h hs H
theorem powZ (b n : Nat) (q : Int) (hq : q = (n : Int)) (hb : 2 ≤ b) (hb2 : b ≤ 1000000) (hn2 : n < 1000000000) (h : b ^ n < BIG) (H : Heap) : ACall Tryz.prog 268 [.int .i64 (b : Int), .int .i64 q] H (fun y H' => y = .tuple [aaP (b ^ n), .int .i64 0] ∧ H' = H) := by
 subst hq; exact amL b n hb hb2 hn2 h H
def xof_J (neg : Bool) (m0 k0 b : Nat) (H : Heap) : Nat → Env → Heap → Prop := fun k env H1 => ∃ m k1 : Nat, m < 18014398509481984 ∧ k1 ≤ 1075 ∧ aeX m k1 = aeX m0 k0 ∧ env = [(0, .bool neg), (1, aaP m), (2, .int .i64 (-(k1 : Int))), (6, .ptr (some ⟨b, 0, none⟩))] ∧ H1 = H.set b (.box 58 [.bool false, .str [], .int .i64 0]) ∧ k = k1

set_option maxRecDepth 100000 in
theorem bcK (neg : Bool) (m : Nat) (e : Int) (hm : m < 18014398509481984) (he : -1075 ≤ e ∧ e ≤ 972) (H : Heap) : ACall Tryz.prog 229 [.bool neg, aaP m, .int .i64 e] H (fun y H' => y = dD (ofN neg m e) ∧ H' = H) := by
 have hmB := akJ hm
 refine ACall.of_body Tryz.func229 rfl Tryz.ntmps229 Tryz.results229 rfl ?_
 iterate 2 refine AX ?_
 refine .s rfl (zG Tryz.zeroValue58 (zr58)) ?_
 rintro _ _ ⟨b6, hb6, rfl, hH⟩
 obtain rfl := hH.symm
 iterate 7 refine AX ?_
 refine AWP.seqToL [(1, aaP (ofR m e)), (7, .int .i64 (ofX m e))] [0, 6] ?_ ?_
 ·iterate 6 refine AX ?_
  refine AWP.cx rfl (fun hc13 => ?_) (fun hc13 => ?_)
  ·iterate 3 refine AX ?_
   refine .cl rfl Tryz.call272 (evs2 rfl rfl) (shlZ m e.toNat e (by omega) (arC hm (by omega)) (by omega) _) ?_
   iterate 5 refine AX ?_
   exact ⟨rfl, (zZ rfl (by (unfold ofR; rw [if_pos (by omega)]; done)) (zZ rfl (by (unfold ofX; rw [if_pos (by omega)]; done)) sX)), rfl⟩
  ·have hen : e = -(((-e).toNat : Nat) : Int) := by omega
   iterate 2 refine AX ?_
   refine AWP.loopW (xof_J neg m (-e).toNat b6 H) ((-e).toNat) ⟨m, (-e).toNat, hm, by omega, rfl, rfl, rfl, rfl⟩ (zP rfl (zP rfl (zZ rfl (by rw [← hen]) (zP rfl qM)))) (Heap.le.refl _) ?_
   rintro _ _ _ ⟨m1, k1, hm1, hk1, hst, rfl, rfl, hk⟩
   have hg0 := Limbs.getD (zK m1) 0
   refine AX ?_
   refine AWP.seqTo 33 (.bool (decide (-(k1 : Int) < 0) && decide ((0 : Int) < ((zF m1).length : Int)) && decide (((((zF m1).getD 0 0 &&& 1 : Nat)) : Int) = ((0 : Nat) : Int)))) [0, 1, 2, 6] ?_ ?_
   ·-- region 4
    iterate 4 refine AX ?_
    refine zH (t := 22) rfl (fun hg22 => ?_) (fun hg22 => ?_)
    ·have hh22 := hg22; try simp only [decide_eq_true_eq] at hh22
     iterate 5 refine AX ?_
     refine zH (t := 27) rfl (fun hg27 => ?_) (fun hg27 => ?_)
     ·have hh27 := hg27; try simp only [decide_eq_true_eq] at hh27
      refine AX ?_
      refine .gp rfl rfl rfl (by assumption) (zX (0) Tryz.underlying239 Tryz.sizeOf166 (tm rfl) zI (by omega) (by omega)) ?_
      refine AX ?_
      refine .gp rfl rfl rfl (by assumption) (anU (tm rfl) (zE 1) (by assumption) (by omega)) (.gp rfl rfl rfl (by assumption) (qH (tm rfl) (zE 0)) ?_)
      iterate 2 refine AX ?_
      exact ⟨rfl, zS rfl (by (rw [show decide (-(k1 : Int) < 0) = _ from hg22, show decide ((0 : Int) < ((zF m1).length : Int)) = _ from hg27]; rfl)) sX, rfl⟩
     ·have hh27 := hg27; try simp only [decide_eq_false_iff_not, Int.not_lt] at hh27
      iterate 7 refine AX ?_
      exact ⟨rfl, zS rfl (by (rw [show decide (-(k1 : Int) < 0) = _ from hg22, show decide ((0 : Int) < ((zF m1).length : Int)) = _ from hg27]; rfl)) sX, rfl⟩
    ·have hh22 := hg22; try simp only [decide_eq_false_iff_not, Int.not_lt] at hh22
     iterate 12 refine AX ?_
     exact ⟨rfl, zS rfl (by (rw [show decide (-(k1 : Int) < 0) = _ from hg22]; rfl)) sX, rfl⟩
   ·refine AWP.sub [(33, _), (0, _), (1, _), (2, _), (6, _)] sX ?_
    refine AWP.cx rfl (fun hc33 => ?_) (fun hc33 => ?_)
    ·simp only [Bool.and_eq_true, decide_eq_true_eq] at hc33
     obtain ⟨⟨hk0, hl0⟩, hb0⟩ := hc33
     have hm0 : 0 < m1 := by rcases Nat.eq_zero_or_pos m1 with h | h; rw [h] at hl0; exact absurd hl0 (by decide); exact h
     rw [beY hm0] at hb0
     have hst2 := strip_go (m := m1) (k := k1) (by omega) hm0 (by omega)
     iterate 6 refine AX ?_
     refine .cl rfl Tryz.call276 (.cons (tm rfl) (.cons zI .nil)) (shrB m1 1 (akJ hm1) (by decide) _) ?_
     iterate 14 refine AX ?_
     refine Round.mk (J := xof_J neg m (-e).toNat b6 H) ⟨m1 / 2, k1 - 1, by omega, by omega, by rw [← hst2]; exact hst, rfl, rfl, rfl⟩ (zP rfl (zZ rfl (by rw [Nat.pow_one]) (zZ rfl (by congr 1; omega) (zP rfl qM)))) (Heap.le.refl _) (by omega)
    ·simp only [Bool.and_eq_false_iff, decide_eq_false_iff_not] at hc33
     have hse : aeX m1 k1 = (m1, k1) := bdE (by
       rcases Nat.eq_zero_or_pos m1 with h | h
       ·exact .inr (.inl h)
       ·have hnl := limbs_nz h
        rw [beY h] at hc33
        omega)
     rw [hst] at hse
     iterate 9 refine AX ?_
     refine .cl rfl Tryz.call268 (.cons zI (evs1 rfl)) (powZ 5 k1 _ (by omega) (by decide) (by decide) (by omega) (afP hm1 hk1).2 _) ?_
     iterate 11 refine AX ?_
     refine .cl rfl Tryz.call269 (evs2 rfl rfl) (mulB m1 (5 ^ k1) (akJ hm1) (afP hm1 hk1).2 (afP hm1 hk1).1 _) ?_
     iterate 10 refine AX ?_
     exact ⟨rfl, (zZ rfl (by (unfold ofR; rw [if_neg (by omega), hse]; done)) (zZ rfl (by (unfold ofX; rw [if_neg (by omega), hse]; done)) sX)), rfl⟩
 ·refine AWP.sub [(1, _), (7, _), (0, _), (6, _)] sX ?_
  have hRB := ofR_lt hm he
  have hX := beO (m := m) he
  iterate 4 refine AX ?_
  refine .cl rfl Tryz.call277 (evs1 rfl) (atR (ofR m e) hRB _) ?_
  refine AX ?_
  refine .cl rfl Tryz.call98 (evs3 rfl rfl rfl) (aiT neg (dec (ofR m e)) (ofX m e) (ayF _) (Nat.le_trans (bgR hRB) (by decide)) (by omega) _) ?_
  iterate 3 refine AX ?_
  refine .s rfl (zG Tryz.zeroValue58 (zr58)) ?_
  rintro _ _ ⟨b10, hb10, rfl, hH⟩
  obtain rfl := hH.symm
  have hn6_10 := Heap.ne_of (Heap.objs_set_same _ _ _) hb10
  refine .e0 (zB Tryz.sizeOf58 (tm rfl) (tm rfl) rfl rfl (.inr ⟨_, rfl⟩) (Heap.objs_set_same _ _ _) (Nat.le_of_ble_eq_true rfl)) ?_
  try first | rw [Heap.set_set] | rw [Heap.set_under (by assumption)]
  iterate 3 refine AX ?_
  refine AWP.frz (t := 10) rfl (hb10) ?_
  iterate 3 refine AX ?_
  refine .e0 (zB Tryz.sizeOf58 (tm rfl) (tm rfl) rfl rfl (.inr ⟨_, rfl⟩) (Heap.objs_set_same _ _ _) (Nat.le_of_ble_eq_true rfl)) ?_
  try first | rw [Heap.set_set] | rw [Heap.set_under (by assumption)]
  iterate 2 refine AX ?_
  refine AWP.frz (t := 6) rfl (hb6) ?_
  refine AX ?_
  refine Ret.go (.cons (.cellI _ _ _ _ rfl Tryz.isAgg58 Tryz.sizeOf58 rfl) .nil) _ (Heap.le.refl _) ?_
  refine ⟨?_, rfl⟩
  rw [beP]; rfl

def atU (x : Nat) : (Bool × List UInt8 × Int) × Int := if 3 ≤ zY x then ((false, [], 0), 11) else (ofN (ajD x) (yS x) (yM x), 0)
def arF (x n : Nat) : (Bool × List UInt8 × Int) × Int := if 3 ≤ zY x then ((false, [], 0), 11) else sigD (atU x).1.1 (atU x).1.2.1 (atU x).1.2.2 n
theorem asE (neg : Bool) (m : Nat) (e : Int) : qJ (ofN neg m e).2.1 (ofN neg m e).2.2 = true := by
 rw [beP]
 exact ajT (ayF _)
theorem decX_two (x : Nat) : (atU x).2 = if 3 ≤ zY x then 11 else 0 := by unfold atU; split <;> rfl
theorem aiN (x : Nat) : qJ (atU x).1.2.1 (atU x).1.2.2 = true := by
 unfold atU
 split
 ·rfl
 ·exact asE _ _ _

set_option maxRecDepth 100000 in
theorem ayO (x : Nat) (hx : x < 18446744073709551616) (H : Heap) : ACall Tryz.prog 173 [.int .u64 (x : Int)] H (fun y H' => y = dT (atU x) ∧ H' = H) := by
 have hpm := abD x
 have hpe := qY x
 refine ACall.of_body Tryz.func173 rfl Tryz.ntmps173 Tryz.results173 rfl ?_
 iterate 2 refine AX ?_
 refine .s rfl (zG Tryz.zeroValue58 (zr58)) ?_
 rintro _ _ ⟨b2, hb2, rfl, hH⟩
 obtain rfl := hH.symm
 iterate 7 refine AX ?_
 refine .cl rfl Tryz.call89 (evs1 rfl) (qC x hx _) ?_
 iterate 3 refine AX ?_
 refine AWP.cx rfl (fun hc9 => ?_) (fun hc9 => ?_)
 ·iterate 2 refine AX ?_
  refine .p rfl (zL [(0, 1), (1, 1), (2, 1)] Tryz.underlying58 Tryz.zeroValue58 (zr58) rfl (pl58 _ Tryz.underlying58) .nil rfl) (.e0 (zB Tryz.sizeOf58 (tm rfl) (tm rfl) rfl rfl (.inr ⟨_, rfl⟩) (Heap.objs_set_same _ _ _) (Nat.le_of_ble_eq_true rfl)) ?_)
  try first | rw [Heap.set_set] | rw [Heap.set_under (by assumption)]
  iterate 3 refine AX ?_
  refine AWP.frz (t := 2) rfl (hb2) ?_
  iterate 2 refine AX ?_
  refine Ret.go (.cons (.cellI _ _ _ _ rfl Tryz.isAgg58 Tryz.sizeOf58 rfl) (.cons (.tmp _ _ rfl) .nil)) _ (Heap.le.refl _) ?_
  refine ⟨?_, rfl⟩
  unfold atU
  rw [if_pos (by omega)]; rfl
 ·iterate 5 refine AX ?_
  refine .cl rfl Tryz.call181 (evs1 rfl) (aaV x hx _) ?_
  iterate 13 refine AX ?_
  refine .cl rfl Tryz.call230 (evs1 rfl) (ajY (yS x) (by omega) _) ?_
  refine AX ?_
  refine .cl rfl Tryz.call229 (evs3 rfl rfl rfl) (bcK (ajD x) (yS x) (yM x) (by omega) hpe _) (.e0 (zB Tryz.sizeOf58 (tm rfl) (tm rfl) rfl rfl (.inr ⟨_, rfl⟩) (Heap.objs_set_same _ _ _) (Nat.le_of_ble_eq_true rfl)) ?_)
  try first | rw [Heap.set_set] | rw [Heap.set_under (by assumption)]
  iterate 3 refine AX ?_
  refine AWP.frz (t := 2) rfl (hb2) ?_
  refine AX ?_
  refine Ret.go (.cons (.cellI _ _ _ _ rfl Tryz.isAgg58 Tryz.sizeOf58 rfl) (.cons (.tmp _ _ rfl) .nil)) _ (Heap.le.refl _) ?_
  refine ⟨?_, rfl⟩
  unfold atU
  rw [if_neg (by omega)]; rfl

set_option maxRecDepth 100000 in
theorem ayN (x : Nat) (hx : x < 18446744073709551616) (n : Nat) (hn : 0 < n) (hn2 : n ≤ 100000) (H : Heap) : ACall Tryz.prog 106 [.int .u64 (x : Int), .int .i64 (n : Int), .int .i64 1] H (fun y H' => y = dT (arF x n) ∧ H' = H) := by
 refine ACall.of_body Tryz.func106 rfl Tryz.ntmps106 Tryz.results106 rfl ?_
 iterate 2 refine AX ?_
 refine .s rfl (zG Tryz.zeroValue58 (zr58)) ?_
 rintro _ _ ⟨b6, hb6, rfl, hH⟩
 obtain rfl := hH.symm
 iterate 6 refine AX ?_
 refine .cl rfl Tryz.call173 (evs1 rfl) (ayO x hx _) ?_
 iterate 3 refine AX ?_
 refine .s rfl (zG Tryz.zeroValue58 (zr58)) ?_
 rintro _ _ ⟨b8, hb8, rfl, hH⟩
 obtain rfl := hH.symm
 have hn6_8 := Heap.ne_of (Heap.objs_set_same _ _ _) hb8
 refine .e0 (zB Tryz.sizeOf58 (tm rfl) (tm rfl) rfl rfl (.inr ⟨_, rfl⟩) (Heap.objs_set_same _ _ _) (Nat.le_of_ble_eq_true rfl)) ?_
 try first | rw [Heap.set_set] | rw [Heap.set_under (by assumption)]
 iterate 3 refine AX ?_
 refine AWP.frz (t := 8) rfl (hb8) ?_
 iterate 7 refine AX ?_
 refine AWP.cx rfl (fun hc16 => ?_) (fun hc16 => ?_)
 ·have hk3 : 3 ≤ zY x := by rcases Nat.lt_or_ge (zY x) 3 with h | h; exact absurd (show (atU x).2 = 0 by unfold atU; rw [if_neg (by omega)]) (by assumption); exact h
  iterate 4 refine AX ?_
  refine .e0 (zB Tryz.sizeOf58 (tm rfl) (tm rfl) rfl rfl (.inr ⟨_, rfl⟩) (Heap.objs_set_same _ _ _) (Nat.le_of_ble_eq_true rfl)) ?_
  try first | rw [Heap.set_set] | rw [Heap.set_under (by assumption)]
  iterate 3 refine AX ?_
  refine AWP.frz (t := 6) rfl (hb6) ?_
  iterate 2 refine AX ?_
  refine Ret.go (.cons (.cellI _ _ _ _ rfl Tryz.isAgg58 Tryz.sizeOf58 rfl) (.cons (.tmp _ _ rfl) .nil)) _ (Heap.le.refl _) ?_
  refine ⟨?_, rfl⟩
  unfold arF
  rw [if_pos hk3]
  rw [show atU x = ((false, [], 0), 11) by unfold atU; rw [if_pos hk3]]; rfl
 ·have hk3 : ¬ 3 ≤ zY x := fun h => by rw [decX_two, if_pos h] at hc16; exact absurd hc16 (by decide)
  iterate 7 refine AX ?_
  refine .cl rfl Tryz.call174 (evs3 rfl rfl rfl) (bgY _ _ _ n (aiN x) hn hn2 _) ?_
  iterate 2 refine AX ?_
  refine .e0 (zB Tryz.sizeOf58 (tm rfl) (tm rfl) rfl rfl (.inr ⟨_, rfl⟩) (Heap.objs_set_same _ _ _) (Nat.le_of_ble_eq_true rfl)) ?_
  try first | rw [Heap.set_set] | rw [Heap.set_under (by assumption)]
  iterate 3 refine AX ?_
  refine AWP.frz (t := 6) rfl (hb6) ?_
  refine AX ?_
  refine Ret.go (.cons (.cellI _ _ _ _ rfl Tryz.isAgg58 Tryz.sizeOf58 rfl) (.cons (.tmp _ _ rfl) .nil)) _ (Heap.le.refl _) ?_
  refine ⟨?_, rfl⟩
  unfold arF
  rw [if_neg hk3]; rfl
structure Loc where
 name : List UInt8
 dc : List UInt8
 grp : List UInt8
 lst : List UInt8
 minus : List UInt8
 pct : List UInt8
 cur : List UInt8
 first : Bool
 space : Bool
 second : Nat
def pL (l : Loc) (sz : AV) : AV := .agg [.str l.name, .str l.dc, .str l.grp, .str l.lst, .str l.minus, .str l.pct, .str l.cur, .bool l.first, .bool l.space, sz]
def rL (l : Loc) : AV := .agg [.str l.name, .str l.dc, .str l.grp, .str l.lst, .str l.minus, .str l.pct, .str l.cur, .bool l.first, .bool l.space, .int .i64 (l.second : Int)]
def Loc.ok (l : Loc) : Prop := l.dc.length ≤ 10 ∧ l.grp.length ≤ 10 ∧ l.minus.length ≤ 10 ∧ l.cur.length ≤ 10 ∧ l.pct.length ≤ 10
def aaE (ds : List UInt8) (p : Int) : (List UInt8 × List UInt8) × Bool :=
 if 400 < p ∨ 400 < (ds.length : Int) - p then (([], []), false)
 else if p ≤ 0 then (([48], List.replicate (-p).toNat 48 ++ ds), true)
 else if (ds.length : Int) ≤ p then ((ds ++ List.replicate (p - ds.length).toNat 48, []), true)
 else ((ds.take p.toNat, ds.drop p.toNat), true)
def afY (l : Loc) (neg : Bool) (ds : List UInt8) (p : Int) : List UInt8 :=
 if (aaE ds p).2 = true then (if neg = true then l.minus else []) ++ ((aaE ds p).1.1 ++ (if (aaE ds p).1.2 = [] then [] else l.dc ++ (aaE ds p).1.2)) else []
theorem arG {ds : List UInt8} {p : Int} (hl : ds.length ≤ 1100) : (aaE ds p).1.1.length ≤ 2000 ∧ (aaE ds p).1.2.length ≤ 2000 := by
 unfold aaE
 split
 ·simp
 ·split
  ·simp only [List.length_append, List.length_replicate, List.length_cons, List.length_nil]; omega
  ·split
   ·simp only [List.length_append, List.length_replicate, List.length_nil]; omega
   ·simp only [List.length_take, List.length_drop]; omega
theorem bcM {l : Loc} {neg : Bool} {ds : List UInt8} {p : Int} (hl : ds.length ≤ 1100) (hk : l.ok) : (afY l neg ds p).length ≤ 5000 := by
 have h := arG (p := p) hl
 obtain ⟨h1, h2, h3, h4, h5⟩ := hk
 unfold afY
 split
 ·simp only [List.length_append]
  have a1 : (if neg = true then l.minus else []).length ≤ 10 := by split <;> first | omega | (simp; done) | (simp; omega)
  have a2 : (if (aaE ds p).1.2 = [] then [] else l.dc ++ (aaE ds p).1.2).length ≤ 2010 := by split <;> first | omega | (simp; done) | (simp; omega)
  omega
 ·simp
theorem axK {ds : List UInt8} {e : Int} (h : qJ ds e = true) : alF ds e = (ds.length : Int) + e := by unfold alF; rw [if_pos h]

set_option maxRecDepth 100000 in
theorem auI (neg : Bool) (ds : List UInt8) (e : Int) (hr : qJ ds e = true) (H : Heap) : ACall Tryz.prog 175 [dA neg ds e] H (fun y H' => y = .tuple [.str (aaE ds ((ds.length : Int) + e)).1.1, .str (aaE ds ((ds.length : Int) + e)).1.2, .bool (aaE ds ((ds.length : Int) + e)).2] ∧ H' = H) := by
 have hpd := axK hr
 have hrl := abK hr
 have hdd := aaK hr
 have hml := zN
 generalize hpp : (ds.length : Int) + e = p at *
 refine ACall.of_body Tryz.func175 rfl Tryz.ntmps175 Tryz.results175 rfl ?_
 iterate 2 refine AX ?_
 refine .e rfl (zO (tm rfl) (.inr ⟨_, rfl⟩)) ?_
 iterate 6 refine AX ?_
 refine AWP.draw [(0, true), (2, true), (3, true), (4, true), (1, false), (5, true), (6, true)] rfl (by decide +kernel) ?_
 refine AX ?_
 refine .p rfl rfl (zA Tryz.underlying58 rfl Tryz.sizeOf9 (tm rfl)) ?_
 iterate 2 refine AX ?_
 refine .s rfl rfl (zC Tryz.call107 (evs1 rfl) (agW neg ds e hdd _)) ?_
 rintro _ _ ⟨rfl, hH⟩
 obtain rfl := hH.symm
 rw [hpd]
 iterate 13 refine AX ?_
 refine AWP.cx rfl (fun hc12 => ?_) (fun hc12 => ?_)
 ·iterate 10 refine AX ?_
  refine Ret.go (.cons (.tmp _ _ rfl) (.cons (.tmp _ _ rfl) (.cons (.tmp _ _ rfl) .nil))) _ (Heap.le.refl _) ?_
  refine ⟨?_, rfl⟩
  unfold aaE
  have hn0 : ds = [] := List.length_eq_zero_iff.1 (by omega)
  have he0 : p = 0 := by rw [hn0] at hpp; have he := hr; rw [hn0] at he; unfold qJ at he; rw [if_pos rfl] at he; have := of_decide_eq_true he; simp only [List.length_nil] at hpp; omega
  rw [hn0, he0]; rfl
 ·refine AWP.seqTo 15 (.bool (decide ((400 : Int) < p) || decide ((400 : Int) < (ds.length : Int) - p))) [1, 2, 3, 4, 5, 6] ?_ ?_
  ·-- region 4
   iterate 4 refine AX ?_
   refine zH (t := 18) rfl (fun hg18 => ?_) (fun hg18 => ?_)
   ·have hh18 := hg18; try simp only [decide_eq_true_eq] at hh18
    iterate 7 refine AX ?_
    exact ⟨rfl, zS rfl (by (rw [show decide ((400 : Int) < p) = _ from hg18]; rfl)) sX, rfl⟩
   ·have hh18 := hg18; try simp only [decide_eq_false_iff_not, Int.not_lt] at hh18
    iterate 7 refine AX ?_
    exact ⟨rfl, zS rfl (by (rw [show decide ((400 : Int) < p) = _ from hg18]; rfl)) sX, rfl⟩
  ·refine AWP.sub [(15, _), (1, _), (2, _), (3, _), (4, _), (5, _), (6, _)] sX ?_
   refine AWP.cx rfl (fun hc15 => ?_) (fun hc15 => ?_)
   ·simp only [Bool.or_eq_true, decide_eq_true_eq] at hc15
    iterate 10 refine AX ?_
    refine Ret.go (.cons (.tmp _ _ rfl) (.cons (.tmp _ _ rfl) (.cons (.tmp _ _ rfl) .nil))) _ (Heap.le.refl _) ?_
    refine ⟨?_, rfl⟩
    unfold aaE
    rw [if_pos hc15]; rfl
   ·simp only [Bool.or_eq_false_iff, decide_eq_false_iff_not] at hc15
    iterate 7 refine AX ?_
    refine AWP.cx rfl (fun hc24 => ?_) (fun hc24 => ?_)
    ·refine AX ?_
     refine AWP.draw [(0, true), (1, true), (3, true), (4, true), (2, false), (5, true), (6, true), (7, true), (8, true)] rfl (by decide +kernel) ?_
     iterate 2 refine AX ?_
     refine .p rfl rfl (zA Tryz.underlying58 rfl Tryz.sizeOf9 (tm rfl)) ?_
     refine AX ?_
     refine .s rfl rfl (zC Tryz.call232 (.cons (zM rfl) (evs1 rfl)) (repeatZ 48 _ (-p).toNat (by omega) (by omega) _)) ?_
     rintro _ _ ⟨rfl, hH⟩
     obtain rfl := hH.symm
     refine .p rfl rfl (yD (tm rfl) (tm rfl) (by rw [zN, List.length_replicate]; omega)) ?_
     iterate 8 refine AX ?_
     refine Ret.go (.cons (.tmp _ _ rfl) (.cons (.tmp _ _ rfl) (.cons (.tmp _ _ rfl) .nil))) _ (Heap.le.refl _) ?_
     refine ⟨?_, rfl⟩
     unfold aaE
     rw [if_neg (by omega), if_pos (by omega)]; rfl
    ·iterate 8 refine AX ?_
     refine AWP.cx rfl (fun hc33 => ?_) (fun hc33 => ?_)
     ·refine AX ?_
      refine AWP.draw [(0, true), (1, true), (2, true), (3, true), (4, true), (5, false), (6, true), (7, true), (8, true), (9, true)] rfl (by decide +kernel) ?_
      refine .p rfl rfl (zA Tryz.underlying58 rfl Tryz.sizeOf9 (tm rfl)) ?_
      iterate 4 refine AX ?_
      refine .s rfl rfl (zC Tryz.call232 (.cons (zM rfl) (evs1 rfl)) (repeatZ 48 _ (p - ds.length).toNat (by omega) (by omega) _)) ?_
      rintro _ _ ⟨rfl, hH⟩
      obtain rfl := hH.symm
      refine .p rfl rfl (yD (tm rfl) (tm rfl) (by rw [zN, List.length_replicate]; omega)) ?_
      iterate 8 refine AX ?_
      refine Ret.go (.cons (.tmp _ _ rfl) (.cons (.tmp _ _ rfl) (.cons (.tmp _ _ rfl) .nil))) _ (Heap.le.refl _) ?_
      refine ⟨?_, rfl⟩
      unfold aaE
      rw [if_neg (by omega), if_neg (by omega), if_pos (by omega)]; rfl
     ·iterate 4 refine AX ?_
      refine AWP.draw [(0, true), (1, true), (2, true), (3, true), (4, true), (5, true), (6, true), (7, true), (8, true), (9, true), (10, true)] rfl (by decide +kernel) ?_
      refine .p rfl rfl (zA Tryz.underlying58 rfl Tryz.sizeOf9 (tm rfl)) ?_
      iterate 3 refine AX ?_
      refine .p rfl rfl (zA Tryz.underlying58 rfl Tryz.sizeOf9 (tm rfl)) ?_
      iterate 9 refine AX ?_
      refine Ret.go (.cons (.tmp _ _ rfl) (.cons (.tmp _ _ rfl) (.cons (.tmp _ _ rfl) .nil))) _ (Heap.le.refl _) ?_
      refine ⟨?_, rfl⟩
      unfold aaE
      rw [if_neg (by omega), if_neg (by omega), if_neg (by omega)]; rfl

set_option maxRecDepth 100000 in
theorem amJ (l : Loc) (hk : l.ok) (sz : AV) (neg : Bool) (ds : List UInt8) (e : Int) (hr : qJ ds e = true) (H : Heap) : ACall Tryz.prog 108 [pL l sz, dA neg ds e, .bool false] H (fun y H' => y = .str (afY l neg ds ((ds.length : Int) + e)) ∧ H' = H) := by
 have hsl := arG (ds := ds) (p := (ds.length : Int) + e) (abK hr).1
 have hml := zN
 have hdd := aaK hr
 obtain ⟨hk1, hk2, hk3, hk4, hk5⟩ := hk
 generalize hsv : aaE ds ((ds.length : Int) + e) = sv at *
 obtain ⟨⟨w, r⟩, ok⟩ := sv
 obtain ⟨hsl1, hsl2⟩ := hsl
 simp only [] at hsl1 hsl2
 refine ACall.of_body Tryz.func108 rfl Tryz.ntmps108 Tryz.results108 rfl ?_
 iterate 2 refine AX ?_
 refine .e rfl (zO (tm rfl) (.inr ⟨_, rfl⟩)) (.e rfl (zO (tm rfl) (.inr ⟨_, rfl⟩)) ?_)
 iterate 6 refine AX ?_
 refine .cl rfl Tryz.call175 (evs1 rfl) (auI neg ds e hr _) ?_
 rw [hsv]
 dsimp only
 iterate 10 refine AX ?_
 refine AWP.seqTo 22 (.bool (!ok)) [2, 3, 4, 6, 7, 8] ?_ ?_
 ·-- region 2
  iterate 4 refine AX ?_
  refine zH (t := 18) rfl (fun hg18 => ?_) (fun hg18 => ?_)
  ·have hh18 := hg18; try simp only [Bool.not_eq_true'] at hh18
   iterate 5 refine AX ?_
   exact ⟨rfl, zS rfl (by (cases ok <;> first | rfl | (simp at hg18))) sX, rfl⟩
  ·have hh18 := hg18; try simp only [Bool.not_eq_false'] at hh18
   refine AX ?_
   refine .gs rfl rfl rfl (by assumption) (zC Tryz.call165 (evs1 rfl) (adE neg ds e hdd _)) ?_
   rintro _ _ ⟨rfl, hH⟩
   obtain rfl := hH.symm
   rw [hr]
   iterate 3 refine AX ?_
   exact ⟨rfl, zS rfl (by (cases ok <;> first | rfl | (simp at hg18))) sX, rfl⟩
 ·refine AWP.sub [(22, _), (2, _), (3, _), (4, _), (6, _), (7, _), (8, _)] sX ?_
  refine AWP.cx rfl (fun hc22 => ?_) (fun hc22 => ?_)
  ·iterate 7 refine AX ?_
   refine Ret.go (.cons (.tmp _ _ rfl) .nil) _ (Heap.le.refl _) ?_
   refine ⟨?_, rfl⟩
   unfold afY
   rw [hsv]
   simp only []
   rw [if_neg (show ¬ ok = true by simpa using hc22)]; rfl
  ·iterate 8 refine AX ?_
   refine AWP.cond_false (tm rfl) (by rfl) ?_
   iterate 2 refine AX ?_
   refine AWP.seqToL [(7, .str ((if neg = true then l.minus else []) ++ w))] [3, 6, 8] ?_ ?_
   ·iterate 2 refine AX ?_
    refine .p rfl (zA Tryz.underlying58 rfl Tryz.sizeOf4 (tm rfl)) ?_
    iterate 3 refine AX ?_
    refine AWP.cx rfl (fun hc28 => ?_) (fun hc28 => ?_)
    ·refine AX ?_
     refine .p rfl (zA Tryz.underlying29 rfl Tryz.sizeOf9 (tm rfl)) ?_
     iterate 2 refine AX ?_
     refine .p rfl (yD (tm rfl) (tm rfl) (by rw [zN]; omega)) ?_
     iterate 2 refine AX ?_
     exact ⟨rfl, (zZ rfl (by (rw [if_pos (by assumption)]; done)) sX), rfl⟩
    ·refine AX ?_
     exact ⟨rfl, (zZ rfl (by (rw [if_neg (by (rw [hc28]; decide))]; rfl)) sX), rfl⟩
   ·refine AWP.sub [(7, _), (3, _), (6, _), (8, _)] sX ?_
    have hmw : (if neg = true then l.minus else []).length ≤ 10 := by split <;> first | omega | (simp; done) | (simp; omega)
    iterate 7 refine AX ?_
    refine AWP.cx rfl (fun hc34 => ?_) (fun hc34 => ?_)
    ·iterate 2 refine AX ?_
     refine .p rfl (zA Tryz.underlying29 rfl Tryz.sizeOf9 (tm rfl)) ?_
     iterate 2 refine AX ?_
     refine .p rfl (yD (tm rfl) (tm rfl) (by rw [zN]; omega)) (.p rfl (yD (tm rfl) (tm rfl) (by simp only [zN, List.length_append]; first | omega | (split <;> first | omega | (simp; done) | (simp; omega)))) ?_)
     iterate 10 refine AX ?_
     refine Ret.go (.cons (.tmp _ _ rfl) .nil) _ (Heap.le.refl _) ?_
     refine ⟨?_, rfl⟩
     unfold afY
     rw [hsv]
     simp only []
     rw [if_pos (show ok = true by simpa using hc22), if_neg (show ¬ r = [] by simpa using hc34), List.append_assoc]; rfl
    ·iterate 9 refine AX ?_
     refine Ret.go (.cons (.tmp _ _ rfl) .nil) _ (Heap.le.refl _) ?_
     refine ⟨?_, rfl⟩
     unfold afY
     rw [hsv]
     simp only []
     rw [if_pos (show ok = true by simpa using hc22), if_pos (show r = [] by simpa using hc34), List.append_nil]; rfl

theorem itoaZ (q : Int) (n : Nat) (hq : q = (n : Int)) (hn : n ≤ 9223372036854775807) (H : Heap) : ACall Tryz.prog 109 [.int .i64 q] H (fun y H' => y = .str (dec n) ∧ H' = H) := by
 subst hq; exact itoaA n hn H
def asL (l : Loc) (neg : Bool) (ds : List UInt8) : List UInt8 := (if neg = true then l.minus else []) ++ ds.take 1 ++ (if (1 : Int) < (ds.length : Int) then l.dc ++ ds.drop 1 else [])
def ayB (p : Int) : Nat := (if p < 1 then 1 - p else p - 1).toNat
def genD (l : Loc) (s : (Bool × List UInt8 × Int) × Int) : List UInt8 :=
 if s.2 ≠ 0 then []
 else if s.1.2.1 = [] ∨ (-4 ≤ (s.1.2.1.length : Int) + s.1.2.2 ∧ (s.1.2.1.length : Int) + s.1.2.2 ≤ 15) then afY l s.1.1 s.1.2.1 ((s.1.2.1.length : Int) + s.1.2.2)
 else asL l s.1.1 s.1.2.1 ++ [69] ++ [if (s.1.2.1.length : Int) + s.1.2.2 < 1 then 45 else 43] ++ (if (dec (ayB ((s.1.2.1.length : Int) + s.1.2.2))).length < 2 then [48] else []) ++ dec (ayB ((s.1.2.1.length : Int) + s.1.2.2))
theorem bcL {l : Loc} {neg : Bool} {ds : List UInt8} (h : ds ≠ []) (hl : ds.length ≤ 300) : afY l neg ds 1 = asL l neg ds := by
 have hp := List.length_pos_iff.2 h
 unfold afY asL aaE
 rw [if_neg (show ¬ ((400 : Int) < 1 ∨ 400 < (ds.length : Int) - 1) by omega), if_neg (show ¬ (1 : Int) ≤ 0 by decide)]
 by_cases h1 : (ds.length : Int) ≤ 1
 ·rw [if_pos h1, if_neg (show ¬ (1 : Int) < (ds.length : Int) by omega), List.take_of_length_le (show ds.length ≤ 1 by omega)]
  rw [show ((1 : Int) - (ds.length : Int)).toNat = 0 by omega]
  simp
 ·rw [if_neg h1, if_pos (show (1 : Int) < (ds.length : Int) by omega)]
  have hd : ds.drop 1 ≠ [] := fun q => by have := congrArg List.length q; rw [List.length_drop] at this; simp only [List.length_nil] at this; omega
  show (if true = true then _ ++ (ds.take 1 ++ (if ds.drop 1 = [] then [] else l.dc ++ ds.drop 1)) else []) = _
  rw [if_pos rfl, if_neg hd, List.append_assoc]
theorem anJ (x n : Nat) : qJ (arF x n).1.2.1 (arF x n).1.2.2 = true := by
 unfold arF
 split
 ·rfl
 ·unfold sigD
  split
  ·exact aiN x
  ·unfold cutD
   have hd := aaK (aiN x)
   exact ajT (by split; exact asP (hd.take _); exact hd.take _)
theorem mk_len (neg : Bool) (ds : List UInt8) (e : Int) : (mkN neg ds e).1.2.1.length ≤ ds.length := by
 have h : (acO ds).length ≤ ds.length := Nat.le_trans (aeZ _ _) (amC _ _)
 unfold mkN
 split
 ·simp
 ·split
  ·exact h
  ·simp
theorem axA (x n : Nat) : (arF x n).1.2.1.length ≤ n + 1 := by
 unfold arF
 split
 ·simp
 ·unfold sigD
  split
  ·rename_i h; exact Nat.le_succ_of_le h
  ·unfold cutD
   refine Nat.le_trans (mk_len _ _ _) ?_
   split
   ·refine Nat.le_trans (apY _) ?_
    rw [List.length_take]; omega
   ·rw [List.length_take]; omega

set_option maxRecDepth 100000 in
theorem aqQ (l : Loc) (hk : l.ok) (sz : AV) (x : Nat) (hx : x < 18446744073709551616) (H : Heap) : ACall Tryz.prog 43 [.int .u64 (x : Int), pL l sz] H (fun y H' => y = .str (genD l (arF x 15)) ∧ H' = H) := by
 have hsr := anJ x 15
 have hsl := axA x 15
 generalize hs : arF x 15 = s at *
 obtain ⟨⟨neg, ds, e⟩, er⟩ := s
 dsimp only at hsr hsl
 have hml := zN
 have hrl := abK hsr
 have hdd := aaK hsr
 have hpd := axK hsr
 have hwl := bcM (l := l) (neg := neg) (ds := ds) (p := (ds.length : Int) + e) (by omega) hk
 have hkk := hk
 obtain ⟨hk1, hk2, hk3, hk4, hk5⟩ := hkk
 have hel : (dec (ayB ((ds.length : Int) + e))).length ≤ 10 := (aiM (by decide)).2 (by unfold ayB; split <;> omega)
 have hmn : (asL l neg ds).length ≤ 200 := by
  unfold asL
  have a1 : (if neg = true then l.minus else []).length ≤ 10 := by split <;> first | omega | (simp; done)
  have a2 : (if (1 : Int) < (ds.length : Int) then l.dc ++ ds.drop 1 else []).length ≤ 110 := by split <;> simp only [List.length_append, List.length_drop, List.length_nil] <;> omega
  simp only [List.length_append, List.length_take]; omega
 have hzl : (if (dec (ayB ((ds.length : Int) + e))).length < 2 then ([48] : List UInt8) else []).length ≤ 1 := by split <;> simp
 refine ACall.of_body Tryz.func43 rfl Tryz.ntmps43 Tryz.results43 rfl ?_
 iterate 2 refine AX ?_
 refine .e rfl (zO (tm rfl) (.inr ⟨_, rfl⟩)) ?_
 iterate 6 refine AX ?_
 refine .cl rfl Tryz.call106 (.cons (tm rfl) (.cons zI (.cons zI .nil))) (ayN x hx 15 (by decide) (by decide) _) ?_
 rw [hs]
 unfold dT
 dsimp only
 iterate 3 refine AX ?_
 refine .s rfl (zG Tryz.zeroValue58 (zr58)) ?_
 rintro _ _ ⟨b5, hb5, rfl, hH⟩
 obtain rfl := hH.symm
 refine .e0 (zB Tryz.sizeOf58 (tm rfl) (tm rfl) rfl rfl (.inr ⟨_, rfl⟩) (Heap.objs_set_same _ _ _) (Nat.le_of_ble_eq_true rfl)) ?_
 try first | rw [Heap.set_set] | rw [Heap.set_under (by assumption)]
 iterate 3 refine AX ?_
 refine AWP.frz (t := 5) rfl (hb5) ?_
 iterate 7 refine AX ?_
 refine AWP.cx rfl (fun hc16 => ?_) (fun hc16 => ?_)
 ·iterate 7 refine AX ?_
  refine Ret.go (.cons (.tmp _ _ rfl) .nil) _ (Heap.le.refl _) ?_
  refine ⟨?_, rfl⟩
  unfold genD
  dsimp only
  rw [if_pos (show er ≠ 0 by simpa using hc16)]; rfl
 ·have her : er = 0 := by simpa using hc16
  subst her
  iterate 5 refine AX ?_
  refine .cl rfl Tryz.call107 (evs1 rfl) (agW neg ds e hdd _) ?_
  rw [hpd]
  iterate 4 refine AX ?_
  refine AWP.seqTo 29 (.bool (decide (ds = []) || (decide (-4 ≤ ((ds.length : Int) + e)) && decide (((ds.length : Int) + e) ≤ 15)))) [3, 4, 5, 7] ?_ ?_
  ·-- region 5
   refine AX ?_
   refine .p rfl (zA Tryz.underlying58 rfl Tryz.sizeOf9 (tm rfl)) ?_
   iterate 3 refine AX ?_
   refine zH (t := 22) rfl (fun hg22 => ?_) (fun hg22 => ?_)
   ·have hh22 := hg22; try simp only [decide_eq_true_eq] at hh22
    iterate 8 refine AX ?_
    exact ⟨rfl, zS rfl (by (rw [show decide (ds = []) = _ from hg22]; rfl)) sX, rfl⟩
   ·have hh22 := hg22; try simp only [decide_eq_false_iff_not] at hh22
    iterate 3 refine AX ?_
    refine zH (t := 25) rfl (fun hg25 => ?_) (fun hg25 => ?_)
    ·have hh25 := hg25; try simp only [decide_eq_true_eq] at hh25
     iterate 5 refine AX ?_
     exact ⟨rfl, zS rfl (by (rw [show decide (ds = []) = _ from hg22, show decide (-4 ≤ ((ds.length : Int) + e)) = _ from hg25]; rfl)) sX, rfl⟩
    ·have hh25 := hg25; try simp only [decide_eq_false_iff_not, Int.not_le] at hh25
     iterate 5 refine AX ?_
     exact ⟨rfl, zS rfl (by (rw [show decide (ds = []) = _ from hg22, show decide (-4 ≤ ((ds.length : Int) + e)) = _ from hg25]; rfl)) sX, rfl⟩
  ·refine AWP.sub [(29, _), (3, _), (4, _), (5, _), (7, _)] sX ?_
   refine AWP.cx rfl (fun hc29 => ?_) (fun hc29 => ?_)
   ·simp only [Bool.or_eq_true, Bool.and_eq_true, decide_eq_true_eq] at hc29
    iterate 4 refine AX ?_
    refine .cl rfl Tryz.call108 (.cons (tm rfl) (.cons (tm rfl) (.cons yF .nil))) (amJ l hk sz neg ds e hsr _) ?_
    iterate 5 refine AX ?_
    refine Ret.go (.cons (.tmp _ _ rfl) .nil) _ (Heap.le.refl _) ?_
    refine ⟨?_, rfl⟩
    unfold genD
    dsimp only
    rw [if_neg (show ¬ ((0 : Int) ≠ 0) by simp), if_pos hc29]; rfl
   ·simp only [Bool.or_eq_false_iff, Bool.and_eq_false_iff, decide_eq_false_iff_not] at hc29
    have hdn : ds ≠ [] := hc29.1
    have hdp := List.length_pos_iff.2 hdn
    have hr1 : qJ ds (1 - (ds.length : Int)) = true := by
     have h := hsr
     rw [arK hdn] at h ⊢
     unfold bdW at h ⊢
     simp only [Bool.and_eq_true, decide_eq_true_eq] at h ⊢
     refine ⟨⟨⟨⟨⟨h.1.1.1.1.1, by omega⟩, by omega⟩, h.1.1.2⟩, h.1.2⟩, h.2⟩
    iterate 5 refine AX ?_
    refine .p rfl (zA Tryz.underlying58 rfl Tryz.sizeOf4 (tm rfl)) ?_
    refine AX ?_
    refine .p rfl (zA Tryz.underlying58 rfl Tryz.sizeOf9 (tm rfl)) ?_
    refine AX ?_
    refine .p rfl (zA Tryz.underlying58 rfl Tryz.sizeOf9 (tm rfl)) ?_
    iterate 3 refine AX ?_
    refine .p rfl (zL [(0, 1), (1, 1), (2, 1)] Tryz.underlying58 Tryz.zeroValue58 (zr58) rfl (pl58 _ Tryz.underlying58) (.cons (tm rfl) (.inl rfl) (.cons (tm rfl) (.inl rfl) (.cons (tm rfl) (.inl rfl) .nil))) rfl) ?_
    refine .cl rfl Tryz.call108 (.cons (tm rfl) (.cons (tm rfl) (.cons yF .nil))) (amJ l hk sz neg ds (1 - (ds.length : Int)) hr1 _) ?_
    rw [show (ds.length : Int) + (1 - (ds.length : Int)) = 1 by omega, bcL hdn (by omega)]
    refine .p rfl (yD (tm rfl) (zM rfl) (by rw [zN]; simp only [List.length_cons, List.length_nil]; omega)) ?_
    iterate 10 refine AX ?_
    refine .cl rfl Tryz.call109 (evs1 rfl) (itoaZ _ (ayB ((ds.length : Int) + e)) (by unfold ayB; simp only [asQ]; split <;> split <;> omega) (by unfold ayB; split <;> omega) _) ?_
    iterate 3 refine AX ?_
    refine AWP.seqToL [(8, .str (asL l neg ds ++ [69] ++ [if ((ds.length : Int) + e) < 1 then 45 else 43]))] [4, 9] ?_ ?_
    ·iterate 6 refine AX ?_
     refine AWP.cx rfl (fun hc52 => ?_) (fun hc52 => ?_)
     ·iterate 2 refine AX ?_
      refine .p rfl (yD (tm rfl) (zM rfl) (by rw [zN]; simp only [List.length_append, List.length_cons, List.length_nil]; omega)) ?_
      iterate 2 refine AX ?_
      exact ⟨rfl, (zZ rfl (by (rw [if_pos (by assumption)]; done)) sX), rfl⟩
     ·iterate 2 refine AX ?_
      refine .p rfl (yD (tm rfl) (zM rfl) (by rw [zN]; simp only [List.length_append, List.length_cons, List.length_nil]; omega)) ?_
      iterate 2 refine AX ?_
      exact ⟨rfl, (zZ rfl (by (rw [if_neg (by omega)]; done)) sX), rfl⟩
    ·refine AWP.sub [(8, _), (4, _), (9, _)] sX ?_
     refine AWP.seqToL [(8, .str (asL l neg ds ++ [69] ++ [if ((ds.length : Int) + e) < 1 then 45 else 43] ++ (if (dec (ayB ((ds.length : Int) + e))).length < 2 then ([48] : List UInt8) else [])))] [4, 9] ?_ ?_
     ·iterate 7 refine AX ?_
      refine AWP.cx rfl (fun hc59 => ?_) (fun hc59 => ?_)
      ·iterate 2 refine AX ?_
       refine .p rfl (yD (tm rfl) (zM rfl) (by rw [zN]; simp only [List.length_append, List.length_cons, List.length_nil]; omega)) ?_
       iterate 2 refine AX ?_
       exact ⟨rfl, (zZ rfl (by (rw [if_pos (show (dec (ayB ((ds.length : Int) + e))).length < 2 by omega)]; done)) sX), rfl⟩
      ·refine AX ?_
       exact ⟨rfl, (zZ rfl (by (rw [if_neg (show ¬ (dec (ayB ((ds.length : Int) + e))).length < 2 by omega), List.append_nil]; done)) sX), rfl⟩
     ·refine AWP.sub [(8, _), (4, _), (9, _)] sX ?_
      iterate 4 refine AX ?_
      refine .p rfl (yD (tm rfl) (tm rfl) (by rw [zN]; simp only [List.length_append, List.length_cons, List.length_nil]; omega)) ?_
      iterate 4 refine AX ?_
      refine Ret.go (.cons (.tmp _ _ rfl) .nil) _ (Heap.le.refl _) ?_
      refine ⟨?_, rfl⟩
      unfold genD
      dsimp only
      rw [if_neg (show ¬ ((0 : Int) ≠ 0) by simp), if_neg (show ¬ (ds = [] ∨ (-4 ≤ ((ds.length : Int) + e) ∧ ((ds.length : Int) + e) ≤ 15)) by rintro (q | q); exact hdn q; omega)]; rfl
end Go.Proofs.YtmmgbnolccpjoaaGreatDoor
