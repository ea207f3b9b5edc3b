/-
  The decimals that numbers are, in the program and in the document.
-/
import Derived.Test.YtfkeflcdadlmdaaGreatDoorSsk
import Derived.Test.YtfkeflcdadlmdaaGreatDoorD1
namespace Go.Proofs.YtfkeflcdadlmdaaGreatDoor
open Go Go.RowKit

def strip : Nat → Nat → Nat × Nat
  | m, 0 => (m, 0)
  | m, k + 1 => if m % 2 = 0 ∧ 0 < m then strip (m / 2) k else (m, k + 1)
theorem strip_le : ∀ (k m : Nat), (strip m k).1 ≤ m ∧ (strip m k).2 ≤ k
  | 0, m => ⟨Nat.le_refl _, Nat.le_refl _⟩
  | k + 1, m => by
    unfold strip
    split
    · have := strip_le k (m / 2)
      omega
    · exact ⟨Nat.le_refl _, Nat.le_refl _⟩
theorem strip_go {m k : Nat} (h : m % 2 = 0) (hm : 0 < m) (hk : 0 < k) : strip m k = strip (m / 2) (k - 1) := by
  obtain ⟨k, rfl⟩ : ∃ q, k = q + 1 := ⟨k - 1, by omega⟩
  rw [strip, if_pos ⟨h, hm⟩]; rfl
theorem strip_end {m k : Nat} (h : k = 0 ∨ m = 0 ∨ m % 2 ≠ 0) : strip m k = (m, k) := by
  cases k with
  | zero => rfl
  | succ k => rw [strip, if_neg (by omega)]
def ofN (neg : Bool) (m : Nat) (e : Int) : Bool × List UInt8 × Int :=
  if 0 ≤ e then (mkN neg (dec (m * 2 ^ e.toNat)) 0).1 else (mkN neg (dec ((strip m (-e).toNat).1 * 5 ^ (strip m (-e).toNat).2)) (-((strip m (-e).toNat).2 : Int))).1
def ofR (m : Nat) (e : Int) : Nat := if 0 ≤ e then m * 2 ^ e.toNat else (strip m (-e).toNat).1 * 5 ^ (strip m (-e).toNat).2
def ofX (m : Nat) (e : Int) : Int := if 0 ≤ e then 0 else -((strip m (-e).toNat).2 : Int)
theorem ofN_eq (neg : Bool) (m : Nat) (e : Int) : ofN neg m e = (mkN neg (dec (ofR m e)) (ofX m e)).1 := by
  unfold ofN ofR ofX
  split <;> rfl
def dD (d : Bool × List UInt8 × Int) : AV := dA d.1 d.2.1 d.2.2
theorem small_pow {k : Nat} (hk : k ≤ 3300) : 18014398509481984 * 2 ^ k < BIG := by
  obtain ⟨K, hK, hB⟩ : ∃ K, K = 8192 ∧ BIG = 2 ^ K := ⟨32 * 256, rfl, BIG_two _ rfl⟩
  rw [hB, show (18014398509481984 : Nat) = 2 ^ 54 by decide, ← Nat.pow_add]
  exact Nat.pow_lt_pow_right (by decide) (by omega)
theorem small_five {m k : Nat} (hm : m < 18014398509481984) (hk : k ≤ 1075) : m * 5 ^ k < BIG ∧ 5 ^ k < BIG := by
  have h1 : 5 ^ k ≤ 2 ^ (3 * k) := by rw [Nat.pow_mul]; exact Nat.pow_le_pow_left (by decide) k
  have h0 : 5 ^ k ≤ 18014398509481984 * 5 ^ k := Nat.le_mul_of_pos_left _ (by decide)
  have h2 : 18014398509481984 * 5 ^ k < BIG := Nat.lt_of_le_of_lt (Nat.mul_le_mul_left _ h1) (small_pow (by omega))
  exact ⟨Nat.lt_of_le_of_lt (Nat.mul_le_mul_right _ (by omega)) h2, Nat.lt_of_le_of_lt h0 h2⟩
theorem small_two {m k : Nat} (hm : m < 18014398509481984) (hk : k ≤ 972) : m * 2 ^ k < BIG := by
  exact Nat.lt_of_le_of_lt (Nat.mul_le_mul_right _ (by omega)) (small_pow (by omega))
theorem small_BIG {m : Nat} (hm : m < 18014398509481984) : m < BIG := Nat.lt_trans hm (by unfold BIG; decide +kernel)
theorem low_bit {m : Nat} (h : 0 < m) : (limbs m).getD 0 0 &&& 1 = m % 2 := by
  rw [limbs_pos h, List.getD_cons_zero, show (1 : Nat) = 2 ^ 1 - 1 by decide, Nat.and_two_pow_sub_one_eq_mod]
  omega
theorem limbs_zero_iff {m : Nat} : (limbs m).length = 0 ↔ m = 0 := by
  constructor
  · intro h
    rcases Nat.eq_zero_or_pos m with h0 | h0
    · exact h0
    · have := limbs_nz h0; omega
  · rintro rfl; rfl
theorem ofR_lt {m : Nat} {e : Int} (hm : m < 18014398509481984) (he : -1075 ≤ e ∧ e ≤ 972) : ofR m e < BIG := by
  unfold ofR
  split
  · exact small_two hm (by omega)
  · have h := strip_le (-e).toNat m
    exact (small_five (by omega) (by omega)).1
theorem ofX_range {m : Nat} {e : Int} (he : -1075 ≤ e ∧ e ≤ 972) : -1075 ≤ ofX m e ∧ ofX m e ≤ 0 := by
  unfold ofX
  have h := strip_le (-e).toNat m
  split <;> omega
theorem shlZ (a s : Nat) (q : Int) (hq : q = (s : Int)) (h : a * 2 ^ s < BIG) (hs : s < 1000000000) (H : Heap) : ACall Tryz.prog 161 [bigA a, .int .i64 q] H (fun y H' => y = .tuple [bigA (a * 2 ^ s), .int .i64 0] ∧ H' = H) := by
  subst hq; exact shlB a s h hs H
theorem powZ (b n : Nat) (q : Int) (hq : q = (n : Int)) (hb : 2 ≤ b) (hb2 : b ≤ 1000000) (hn2 : n < 1000000000) (h : b ^ n < BIG) (H : Heap) : ACall Tryz.prog 157 [.int .i64 (b : Int), .int .i64 q] H (fun y H' => y = .tuple [bigA (b ^ n), .int .i64 0] ∧ H' = H) := by
  subst hq; exact Pow_calls b n hb hb2 hn2 h H
theorem mk_zero (neg : Bool) (e : Int) : (mkN neg (dec 0) e).1 = (neg, [], 0) := by
  unfold mkN
  rw [if_pos (show coreD (dec 0) = [] by rw [dec_lt (by decide)]; rfl)]

def xof_J (neg : Bool) (m0 k0 b : Nat) (H : Heap) : Nat → Env → Heap → Prop := fun k env H1 => ∃ m k1 : Nat, m < 18014398509481984 ∧ k1 ≤ 1075 ∧ strip m k1 = strip m0 k0 ∧ env = [(0, .bool neg), (1, bigA m), (2, .int .i64 (-(k1 : Int))), (6, .ptr (some ⟨b, 0, none⟩))] ∧ H1 = H.set b (.box 48 [.bool false, .str [], .int .i64 0]) ∧ k = k1

set_option maxRecDepth 100000 in
theorem xof_calls (neg : Bool) (m : Nat) (e : Int) (hm : m < 18014398509481984) (he : -1075 ≤ e ∧ e ≤ 972) (H : Heap) : ACall Tryz.prog 121 [.bool neg, bigA m, .int .i64 e] H (fun y H' => y = dD (ofN neg m e) ∧ H' = H) := by
  have hmB := small_BIG hm
  refine ACall.of_body Tryz.func121 rfl Tryz.ntmps121 Tryz.results121 rfl ?_
  refine .sr ?_
  refine .s rfl (step_alloc Tryz.zeroValue48 (zr48)) ?_
  rintro _ _ ⟨b6, hb6, rfl, hH⟩
  obtain rfl := hH.symm
  refine .nr ?_
  refine .p rfl (pure_assign ev_int) ?_
  refine .ng ?_
  refine AWP.seqToL [(1, bigA (ofR m e)), (7, .int .i64 (ofX m e))] [0, 6] ?_ ?_
  · refine .sr ?_
    refine .mv rfl rfl ?_
    refine .p rfl (pure_geq (tm rfl) ev_int) ?_
    refine .ng ?_
    refine AWP.cond (tm rfl) (fun hc13 => ?_) (fun hc13 => ?_)
    · try simp only [decide_eq_true_eq] at hc13
      refine .region ?_
      refine .mv rfl rfl ?_
      refine .mv rfl rfl ?_
      refine .cl rfl Tryz.call161 (evs2 rfl rfl) (shlZ m e.toNat e (by omega) (small_two hm (by omega)) (by omega) _) ?_
      refine .mv rfl rfl ?_
      refine .p rfl (pure_extract (tm rfl) rfl) ?_
      refine .p rfl (pure_extract (tm rfl) rfl) ?_
      refine .as rfl rfl ?_
      refine .nil ?_
      exact ⟨rfl, (sub_e rfl (by (unfold ofR; rw [if_pos (by omega)]; done)) (sub_e rfl (by (unfold ofX; rw [if_pos (by omega)]; done)) (sub_c rfl (sub_c rfl sub_n)))), rfl⟩
    · try simp only [decide_eq_false_iff_not, Int.not_le] at hc13
      have hen : e = -(((-e).toNat : Nat) : Int) := by omega
      refine .seq ?_
      refine .block ?_
      refine AWP.loopW (xof_J neg m (-e).toNat b6 H) ((-e).toNat) ⟨m, (-e).toNat, hm, by omega, rfl, rfl, rfl, rfl⟩ (sub_c rfl (sub_c rfl (sub_e rfl (by rw [← hen]) (sub_c rfl sub_n)))) (Heap.le.refl _) ?_
      rintro _ _ _ ⟨m1, k1, hm1, hk1, hst, rfl, rfl, hk⟩
      have hg0 := Limbs.getD (limbs_Limbs m1) 0
      refine .seq ?_
      refine AWP.seqTo 33 (.bool (decide (-(k1 : Int) < 0) && decide ((0 : Int) < ((limbs m1).length : Int)) && decide (((((limbs m1).getD 0 0 &&& 1 : Nat)) : Int) = ((0 : Nat) : Int)))) [0, 1, 2, 6] ?_ ?_
      · -- region 4
        refine .region ?_
        refine .mv rfl rfl ?_
        refine .p rfl (pure_lss (tm rfl) ev_int) ?_
        refine .mv rfl rfl ?_
        refine bool_casesL (t := 22) rfl (fun hg22 => ?_) (fun hg22 => ?_)
        · have hh22 := hg22; try simp only [decide_eq_true_eq] at hh22
          refine .gp rfl rfl rfl (by assumption) (pure_move (tm rfl)) ?_
          refine .gp rfl rfl rfl (by assumption) (pure_lenU Tryz.underlying170 (tm rfl)) ?_
          refine .gp rfl rfl rfl (by assumption) (pure_gtr (tm rfl) ev_int) ?_
          refine .p rfl (pure_pickT (tm rfl) (by assumption) (tm rfl)) ?_
          refine .mv rfl rfl ?_
          refine bool_casesL (t := 27) rfl (fun hg27 => ?_) (fun hg27 => ?_)
          · have hh27 := hg27; try simp only [decide_eq_true_eq] at hh27
            refine .gp rfl rfl rfl (by assumption) (pure_move (tm rfl)) ?_
            refine .gp rfl rfl rfl (by assumption) (pure_indexU (0) Tryz.underlying170 Tryz.sizeOf112 (tm rfl) ev_int (by omega) (by omega)) ?_
            refine .gp rfl rfl rfl (by assumption) (pure_load1 Tryz.isAgg112 (tm rfl)) ?_
            refine .gp rfl rfl rfl (by assumption) (pure_and32 (tm rfl) (ev_nat 1) (by assumption) (by omega)) ?_
            refine .gp rfl rfl rfl (by assumption) (pure_eql (tm rfl) (ev_nat 0)) ?_
            refine .p rfl (pure_pickT (tm rfl) (by assumption) (tm rfl)) ?_
            refine .nil ?_
            exact ⟨rfl, sub_b rfl (by (rw [show decide (-(k1 : Int) < 0) = _ from hg22, show decide ((0 : Int) < ((limbs m1).length : Int)) = _ from hg27]; rfl)) (sub_c rfl (sub_c rfl (sub_c rfl (sub_c rfl sub_n)))), rfl⟩
          · have hh27 := hg27; try simp only [decide_eq_false_iff_not, Int.not_lt] at hh27
            refine .gn rfl rfl rfl (by assumption) ?_
            refine .gn rfl rfl rfl (by assumption) ?_
            refine .gn rfl rfl rfl (by assumption) ?_
            refine .gn rfl rfl rfl (by assumption) ?_
            refine .gn rfl rfl rfl (by assumption) ?_
            refine .p rfl (pure_pickF (tm rfl) (by assumption) ev_bool) ?_
            refine .nil ?_
            exact ⟨rfl, sub_b rfl (by (rw [show decide (-(k1 : Int) < 0) = _ from hg22, show decide ((0 : Int) < ((limbs m1).length : Int)) = _ from hg27]; rfl)) (sub_c rfl (sub_c rfl (sub_c rfl (sub_c rfl sub_n)))), rfl⟩
        · have hh22 := hg22; try simp only [decide_eq_false_iff_not, Int.not_lt] at hh22
          refine .gn rfl rfl rfl (by assumption) ?_
          refine .gn rfl rfl rfl (by assumption) ?_
          refine .gn rfl rfl rfl (by assumption) ?_
          refine .p rfl (pure_pickF (tm rfl) (by assumption) ev_bool) ?_
          refine .mv rfl rfl ?_
          refine .gn rfl rfl rfl (by rfl) ?_
          refine .gn rfl rfl rfl (by rfl) ?_
          refine .gn rfl rfl rfl (by rfl) ?_
          refine .gn rfl rfl rfl (by rfl) ?_
          refine .gn rfl rfl rfl (by rfl) ?_
          refine .p rfl (pure_pickF (tm rfl) (by rfl) ev_bool) ?_
          refine .nil ?_
          exact ⟨rfl, sub_b rfl (by (rw [show decide (-(k1 : Int) < 0) = _ from hg22]; rfl)) (sub_c rfl (sub_c rfl (sub_c rfl (sub_c rfl sub_n)))), rfl⟩
      · refine AWP.sub [(33, _), (0, _), (1, _), (2, _), (6, _)] (sub_c rfl (sub_c rfl (sub_c rfl (sub_c rfl (sub_c rfl sub_n))))) ?_
        refine AWP.cond (tm rfl) (fun hc33 => ?_) (fun hc33 => ?_)
        · try simp only [decide_eq_true_eq, decide_eq_false_iff_not, Bool.not_eq_true', Bool.not_eq_false', Int.not_lt, Int.not_le, ne_eq, Decidable.not_not] at hc33
          simp only [Bool.and_eq_true, decide_eq_true_eq] at hc33
          obtain ⟨⟨hk0, hl0⟩, hb0⟩ := hc33
          have hm0 : 0 < m1 := by rcases Nat.eq_zero_or_pos m1 with h | h; rw [h] at hl0; exact absurd hl0 (by decide); exact h
          rw [low_bit hm0] at hb0
          have hst2 := strip_go (m := m1) (k := k1) (by omega) hm0 (by omega)
          refine .skip ?_
          refine Next.go ?_
          refine .block ?_
          refine .sr ?_
          refine .mv rfl rfl ?_
          refine .cl rfl Tryz.call165 (.cons (tm rfl) (.cons ev_int .nil)) (shrB m1 1 (small_BIG hm1) (by decide) _) ?_
          refine .mv rfl rfl ?_
          refine .p rfl (pure_extract (tm rfl) rfl) ?_
          refine .p rfl (pure_extract (tm rfl) rfl) ?_
          refine .p rfl (pure_extract (tm rfl) rfl) ?_
          refine .as rfl rfl ?_
          refine .ng ?_
          refine .region ?_
          refine .mv rfl rfl ?_
          refine .p rfl (pure_add (tm rfl) ev_int (by omega)) ?_
          refine .as rfl rfl ?_
          refine .nil ?_
          refine Block.go ?_
          refine Next.go ?_
          refine Round.mk (J := xof_J neg m (-e).toNat b6 H) ⟨m1 / 2, k1 - 1, by omega, by omega, by rw [← hst2]; exact hst, rfl, rfl, rfl⟩ (sub_c rfl (sub_e rfl (by rw [Nat.pow_one]) (sub_e rfl (by congr 1; omega) (sub_c rfl sub_n)))) (Heap.le.refl _) (by omega)
        · try simp only [decide_eq_true_eq, decide_eq_false_iff_not, Bool.not_eq_true', Bool.not_eq_false', Int.not_lt, Int.not_le, ne_eq, Decidable.not_not] at hc33
          simp only [Bool.and_eq_false_iff, decide_eq_false_iff_not] at hc33
          have hse : strip m1 k1 = (m1, k1) := strip_end (by
            rcases Nat.eq_zero_or_pos m1 with h | h
            · exact .inr (.inl h)
            · have hnl := limbs_nz h
              rw [low_bit h] at hc33
              omega)
          rw [hst] at hse
          refine .exit ?_
          refine Next.ex ?_
          refine Next.ex ?_
          refine Block.hit ?_
          refine Next.go ?_
          refine .sr ?_
          refine .mv rfl rfl ?_
          refine .p rfl (pure_neg (tm rfl) (by omega)) ?_
          refine .cl rfl Tryz.call157 (.cons ev_int (evs1 rfl)) (powZ 5 k1 _ (by omega) (by decide) (by decide) (by omega) (small_five hm1 hk1).2 _) ?_
          refine .mv rfl rfl ?_
          refine .p rfl (pure_extract (tm rfl) rfl) ?_
          refine .p rfl (pure_extract (tm rfl) rfl) ?_
          refine .as rfl rfl ?_
          refine .as rfl rfl ?_
          refine .nr ?_
          refine .mv rfl rfl ?_
          refine .mv rfl rfl ?_
          refine .cl rfl Tryz.call158 (evs2 rfl rfl) (mulB m1 (5 ^ k1) (small_BIG hm1) (small_five hm1 hk1).2 (small_five hm1 hk1).1 _) ?_
          refine .mv rfl rfl ?_
          refine .p rfl (pure_extract (tm rfl) rfl) ?_
          refine .p rfl (pure_extract (tm rfl) rfl) ?_
          refine .as rfl rfl ?_
          refine .ng ?_
          refine .region ?_
          refine .mv rfl rfl ?_
          refine .as rfl rfl ?_
          refine .nil ?_
          exact ⟨rfl, (sub_e rfl (by (unfold ofR; rw [if_neg (by omega), hse]; done)) (sub_e rfl (by (unfold ofX; rw [if_neg (by omega), hse]; done)) (sub_c rfl (sub_c rfl sub_n)))), rfl⟩
  · refine AWP.sub [(1, _), (7, _), (0, _), (6, _)] (sub_c rfl (sub_c rfl (sub_c rfl (sub_c rfl sub_n)))) ?_
    have hRB := ofR_lt hm he
    have hX := ofX_range (m := m) he
    refine .sr ?_
    refine .mv rfl rfl ?_
    refine .mv rfl rfl ?_
    refine .cl rfl Tryz.call166 (evs1 rfl) (Digits_calls (ofR m e) hRB _) ?_
    refine .mv rfl rfl ?_
    refine .cl rfl Tryz.call34 (evs3 rfl rfl rfl) (Make_calls neg (dec (ofR m e)) (ofX m e) (dec_digs _) (Nat.le_trans (dec_BIG hRB) (by decide)) (by omega) _) ?_
    refine .mv rfl rfl ?_
    refine .p rfl (pure_extract (tm rfl) rfl) ?_
    refine .p rfl (pure_extract (tm rfl) rfl) ?_
    refine .s rfl (step_alloc Tryz.zeroValue48 (zr48)) ?_
    rintro _ _ ⟨b10, hb10, rfl, hH⟩
    obtain rfl := hH.symm
    have hn6_10 := Heap.ne_of (Heap.objs_set_same _ _ _) hb10
    refine .e0 (step_store Tryz.sizeOf48 (tm rfl) (tm rfl) rfl rfl (.inr ⟨_, rfl⟩) (Heap.objs_set_same _ _ _) (Nat.le_of_ble_eq_true rfl)) ?_
    try first | rw [Heap.set_set] | rw [Heap.set_under (by assumption)]
    refine .as rfl rfl ?_
    refine .ng ?_
    refine AWP.frz (t := 10) rfl (hb10) ?_
    refine .sr ?_
    refine .p rfl (pure_loadN Tryz.isAgg48 Tryz.sizeOf48 (tm rfl) (Nat.le_of_ble_eq_true rfl)) ?_
    refine .e0 (step_store Tryz.sizeOf48 (tm rfl) (tm rfl) rfl rfl (.inr ⟨_, rfl⟩) (Heap.objs_set_same _ _ _) (Nat.le_of_ble_eq_true rfl)) ?_
    try first | rw [Heap.set_set] | rw [Heap.set_under (by assumption)]
    refine .ng ?_
    refine AWP.frz (t := 6) rfl (hb6) ?_
    refine .ret ?_
    refine Ret.go (.cons (.cellI _ _ _ _ rfl Tryz.isAgg48 Tryz.sizeOf48 rfl) .nil) _ (Heap.le.refl _) ?_
    refine ⟨?_, rfl⟩
    rw [ofN_eq]; rfl

def decX (x : Nat) : (Bool × List UInt8 × Int) × Int := if 3 ≤ kindN x then ((false, [], 0), 11) else (ofN (negB x) (partM x) (partE x), 0)
def sigX (x n : Nat) : (Bool × List UInt8 × Int) × Int := if 3 ≤ kindN x then ((false, [], 0), 11) else sigD (decX x).1.1 (decX x).1.2.1 (decX x).1.2.2 n
theorem ofN_right (neg : Bool) (m : Nat) (e : Int) : rightB (ofN neg m e).2.1 (ofN neg m e).2.2 = true := by
  rw [ofN_eq]
  exact mk_right (dec_digs _)
theorem decX_two (x : Nat) : (decX x).2 = if 3 ≤ kindN x then 11 else 0 := by unfold decX; split <;> rfl
theorem decX_right (x : Nat) : rightB (decX x).1.2.1 (decX x).1.2.2 = true := by
  unfold decX
  split
  · rfl
  · exact ofN_right _ _ _

set_option maxRecDepth 100000 in
theorem xDec_calls (x : Nat) (hx : x < 18446744073709551616) (H : Heap) : ACall Tryz.prog 75 [.int .u64 (x : Int)] H (fun y H' => y = dT (decX x) ∧ H' = H) := by
  have hpm := partM_lt x
  have hpe := partE_range x
  refine ACall.of_body Tryz.func75 rfl Tryz.ntmps75 Tryz.results75 rfl ?_
  refine .sr ?_
  refine .s rfl (step_alloc Tryz.zeroValue48 (zr48)) ?_
  rintro _ _ ⟨b2, hb2, rfl, hH⟩
  obtain rfl := hH.symm
  refine .p rfl (pure_assign ev_int) ?_
  refine .ng ?_
  refine .seq ?_
  refine .sr ?_
  refine .mv rfl rfl ?_
  refine .cl rfl Tryz.call36 (evs1 rfl) (Kind_calls x hx _) ?_
  refine .p rfl (pure_geq (tm rfl) ev_int) ?_
  refine .ng ?_
  refine AWP.cond (tm rfl) (fun hc9 => ?_) (fun hc9 => ?_)
  · try simp only [decide_eq_true_eq] at hc9
    refine .sr ?_
    refine .p rfl (pure_build [(0, 1), (1, 1), (2, 1)] Tryz.underlying48 Tryz.zeroValue48 (zr48) rfl (pl48 _ Tryz.underlying48) .nil rfl) ?_
    refine .e0 (step_store Tryz.sizeOf48 (tm rfl) (tm rfl) rfl rfl (.inr ⟨_, rfl⟩) (Heap.objs_set_same _ _ _) (Nat.le_of_ble_eq_true rfl)) ?_
    try first | rw [Heap.set_set] | rw [Heap.set_under (by assumption)]
    refine .p rfl (pure_assign ev_int) ?_
    refine .ng ?_
    refine AWP.frz (t := 2) rfl (hb2) ?_
    refine .ret ?_
    refine Next.rt ?_
    refine Ret.go (.cons (.cellI _ _ _ _ rfl Tryz.isAgg48 Tryz.sizeOf48 rfl) (.cons (.tmp _ _ rfl) .nil)) _ (Heap.le.refl _) ?_
    refine ⟨?_, rfl⟩
    unfold decX
    rw [if_pos (by omega)]; rfl
  · try simp only [decide_eq_false_iff_not, Int.not_le] at hc9
    refine .skip ?_
    refine Next.go ?_
    refine .sr ?_
    refine .mv rfl rfl ?_
    refine .cl rfl Tryz.call120 (evs1 rfl) (Split_calls x hx _) ?_
    refine .mv rfl rfl ?_
    refine .p rfl (pure_extract (tm rfl) rfl) ?_
    refine .p rfl (pure_extract (tm rfl) rfl) ?_
    refine .p rfl (pure_extract (tm rfl) rfl) ?_
    refine .as rfl rfl ?_
    refine .as rfl rfl ?_
    refine .as rfl rfl ?_
    refine .nr ?_
    refine .mv rfl rfl ?_
    refine .mv rfl rfl ?_
    refine .cl rfl Tryz.call122 (evs1 rfl) (Of_calls (partM x) (by omega) _) ?_
    refine .mv rfl rfl ?_
    refine .cl rfl Tryz.call121 (evs3 rfl rfl rfl) (xof_calls (negB x) (partM x) (partE x) (by omega) hpe _) ?_
    refine .e0 (step_store Tryz.sizeOf48 (tm rfl) (tm rfl) rfl rfl (.inr ⟨_, rfl⟩) (Heap.objs_set_same _ _ _) (Nat.le_of_ble_eq_true rfl)) ?_
    try first | rw [Heap.set_set] | rw [Heap.set_under (by assumption)]
    refine .p rfl (pure_assign ev_int) ?_
    refine .ng ?_
    refine AWP.frz (t := 2) rfl (hb2) ?_
    refine .ret ?_
    refine Ret.go (.cons (.cellI _ _ _ _ rfl Tryz.isAgg48 Tryz.sizeOf48 rfl) (.cons (.tmp _ _ rfl) .nil)) _ (Heap.le.refl _) ?_
    refine ⟨?_, rfl⟩
    unfold decX
    rw [if_neg (by omega)]; rfl

set_option maxRecDepth 100000 in
theorem xSig_calls (x : Nat) (hx : x < 18446744073709551616) (n : Nat) (hn : 0 < n) (hn2 : n ≤ 100000) (H : Heap) : ACall Tryz.prog 42 [.int .u64 (x : Int), .int .i64 (n : Int), .int .i64 1] H (fun y H' => y = dT (sigX x n) ∧ H' = H) := by
  refine ACall.of_body Tryz.func42 rfl Tryz.ntmps42 Tryz.results42 rfl ?_
  refine .sr ?_
  refine .s rfl (step_alloc Tryz.zeroValue48 (zr48)) ?_
  rintro _ _ ⟨b6, hb6, rfl, hH⟩
  obtain rfl := hH.symm
  refine .p rfl (pure_assign ev_int) ?_
  refine .nr ?_
  refine .mv rfl rfl ?_
  refine .cl rfl Tryz.call75 (evs1 rfl) (xDec_calls x hx _) ?_
  refine .mv rfl rfl ?_
  refine .p rfl (pure_extract (tm rfl) rfl) ?_
  refine .p rfl (pure_extract (tm rfl) rfl) ?_
  refine .s rfl (step_alloc Tryz.zeroValue48 (zr48)) ?_
  rintro _ _ ⟨b8, hb8, rfl, hH⟩
  obtain rfl := hH.symm
  have hn6_8 := Heap.ne_of (Heap.objs_set_same _ _ _) hb8
  refine .e0 (step_store Tryz.sizeOf48 (tm rfl) (tm rfl) rfl rfl (.inr ⟨_, rfl⟩) (Heap.objs_set_same _ _ _) (Nat.le_of_ble_eq_true rfl)) ?_
  try first | rw [Heap.set_set] | rw [Heap.set_under (by assumption)]
  refine .as rfl rfl ?_
  refine .ng ?_
  refine AWP.frz (t := 8) rfl (hb8) ?_
  refine .seq ?_
  refine .sr ?_
  refine .mv rfl rfl ?_
  refine .p rfl (pure_neq (tm rfl) ev_int) ?_
  refine .ng ?_
  refine AWP.cond (tm rfl) (fun hc16 => ?_) (fun hc16 => ?_)
  · try simp only [decide_eq_true_eq, ne_eq] at hc16
    have hk3 : 3 ≤ kindN x := by rcases Nat.lt_or_ge (kindN x) 3 with h | h; exact absurd (show (decX x).2 = 0 by unfold decX; rw [if_neg (by omega)]) (by assumption); exact h
    refine .sr ?_
    refine .p rfl (pure_loadN Tryz.isAgg48 Tryz.sizeOf48 (tm rfl) (Nat.le_of_ble_eq_true rfl)) ?_
    refine .mv rfl rfl ?_
    refine .e0 (step_store Tryz.sizeOf48 (tm rfl) (tm rfl) rfl rfl (.inr ⟨_, rfl⟩) (Heap.objs_set_same _ _ _) (Nat.le_of_ble_eq_true rfl)) ?_
    try first | rw [Heap.set_set] | rw [Heap.set_under (by assumption)]
    refine .as rfl rfl ?_
    refine .ng ?_
    refine AWP.frz (t := 6) rfl (hb6) ?_
    refine .ret ?_
    refine Next.rt ?_
    refine Ret.go (.cons (.cellI _ _ _ _ rfl Tryz.isAgg48 Tryz.sizeOf48 rfl) (.cons (.tmp _ _ rfl) .nil)) _ (Heap.le.refl _) ?_
    refine ⟨?_, rfl⟩
    unfold sigX
    rw [if_pos hk3]
    rw [show decX x = ((false, [], 0), 11) by unfold decX; rw [if_pos hk3]]; rfl
  · try simp only [decide_eq_false_iff_not, ne_eq, Decidable.not_not] at hc16
    have hk3 : ¬ 3 ≤ kindN x := fun h => by rw [decX_two, if_pos h] at hc16; exact absurd hc16 (by decide)
    refine .skip ?_
    refine Next.go ?_
    refine .sr ?_
    refine .p rfl (pure_loadN Tryz.isAgg48 Tryz.sizeOf48 (tm rfl) (Nat.le_of_ble_eq_true rfl)) ?_
    refine .mv rfl rfl ?_
    refine .mv rfl rfl ?_
    refine .cl rfl Tryz.call76 (evs3 rfl rfl rfl) (Sig_calls _ _ _ n (decX_right x) hn hn2 _) ?_
    refine .p rfl (pure_extract (tm rfl) rfl) ?_
    refine .p rfl (pure_extract (tm rfl) rfl) ?_
    refine .e0 (step_store Tryz.sizeOf48 (tm rfl) (tm rfl) rfl rfl (.inr ⟨_, rfl⟩) (Heap.objs_set_same _ _ _) (Nat.le_of_ble_eq_true rfl)) ?_
    try first | rw [Heap.set_set] | rw [Heap.set_under (by assumption)]
    refine .as rfl rfl ?_
    refine .ng ?_
    refine AWP.frz (t := 6) rfl (hb6) ?_
    refine .ret ?_
    refine Ret.go (.cons (.cellI _ _ _ _ rfl Tryz.isAgg48 Tryz.sizeOf48 rfl) (.cons (.tmp _ _ rfl) .nil)) _ (Heap.le.refl _) ?_
    refine ⟨?_, rfl⟩
    unfold sigX
    rw [if_neg hk3]; rfl

def rxof_J (neg : Bool) (m0 k0 b : Nat) (H : Heap) : Nat → Env → Heap → Prop := fun k env H1 => ∃ m k1 : Nat, m < 18014398509481984 ∧ k1 ≤ 1075 ∧ strip m k1 = strip m0 k0 ∧ env = [(0, .bool neg), (1, bigA m), (2, .int .i64 (-(k1 : Int))), (6, .ptr (some ⟨b, 0, none⟩))] ∧ H1 = H.set b (.box 48 [.bool false, .str [], .int .i64 0]) ∧ k = k1

set_option maxRecDepth 100000 in
theorem rxof_calls (neg : Bool) (m : Nat) (e : Int) (hm : m < 18014398509481984) (he : -1075 ≤ e ∧ e ≤ 972) (H : Heap) : ACall Tryz.prog 82 [.bool neg, bigA m, .int .i64 e] H (fun y H' => y = dD (ofN neg m e) ∧ H' = H) := by
  have hmB := small_BIG hm
  have hRB := ofR_lt hm he
  have hX := ofX_range (m := m) he
  have hml := limbs_256 hmB
  have hrl := limbs_256 hRB
  refine ACall.of_body Tryz.func82 rfl Tryz.ntmps82 Tryz.results82 rfl ?_
  refine .sr ?_
  refine .s rfl (step_alloc Tryz.zeroValue48 (zr48)) ?_
  rintro _ _ ⟨b6, hb6, rfl, hH⟩
  obtain rfl := hH.symm
  refine .ng ?_
  refine .seq ?_
  refine .sr ?_
  refine .mv rfl rfl ?_
  refine .p rfl (pure_geq (tm rfl) ev_int) ?_
  refine .ng ?_
  refine AWP.cond (tm rfl) (fun hc12 => ?_) (fun hc12 => ?_)
  · try simp only [decide_eq_true_eq] at hc12
    have hR2 : m * 2 ^ e.toNat < BIG := small_two hm (by omega)
    refine .sr ?_
    refine .mv rfl rfl ?_
    refine .mv rfl rfl ?_
    refine .mv rfl rfl ?_
    refine .cl rfl Tryz.call57 (evs2 rfl rfl) (rUp_calls (limbs m) .shared (limbs_Limbs m) (by omega) e.toNat (by omega) e (by omega) (by rw [val_limbs]; exact small_two hm (by omega)) _) ?_
    simp only [val_limbs]
    refine .cl rfl Tryz.call126 (evs1 rfl) (rDigits_calls (limbs (m * 2 ^ e.toNat)) .shared (limbs_Limbs _) (by have := limbs_256 hR2; omega) (by rw [val_limbs]; exact hR2) _) ?_
    simp only [val_limbs]
    refine .cl rfl Tryz.call41 (.cons (tm rfl) (.cons (tm rfl) (.cons ev_int .nil))) (rMake_calls neg (dec (m * 2 ^ e.toNat)) 0 (dec_digs _) (Nat.le_trans (dec_BIG hR2) (by decide)) (by decide) _) ?_
    refine .mv rfl rfl ?_
    refine .p rfl (pure_extract (tm rfl) rfl) ?_
    refine .p rfl (pure_extract (tm rfl) rfl) ?_
    refine .s rfl (step_alloc Tryz.zeroValue48 (zr48)) ?_
    rintro _ _ ⟨b7, hb7, rfl, hH⟩
    obtain rfl := hH.symm
    have hn6_7 := Heap.ne_of (Heap.objs_set_same _ _ _) hb7
    refine .e0 (step_store Tryz.sizeOf48 (tm rfl) (tm rfl) rfl rfl (.inr ⟨_, rfl⟩) (Heap.objs_set_same _ _ _) (Nat.le_of_ble_eq_true rfl)) ?_
    try first | rw [Heap.set_set] | rw [Heap.set_under (by assumption)]
    refine .as rfl rfl ?_
    refine .ng ?_
    refine AWP.frz (t := 7) rfl (hb7) ?_
    refine .sr ?_
    refine .p rfl (pure_loadN Tryz.isAgg48 Tryz.sizeOf48 (tm rfl) (Nat.le_of_ble_eq_true rfl)) ?_
    refine .e0 (step_store Tryz.sizeOf48 (tm rfl) (tm rfl) rfl rfl (.inr ⟨_, rfl⟩) (Heap.objs_set_same _ _ _) (Nat.le_of_ble_eq_true rfl)) ?_
    try first | rw [Heap.set_set] | rw [Heap.set_under (by assumption)]
    refine .ng ?_
    refine AWP.frz (t := 6) rfl (hb6) ?_
    refine .ret ?_
    refine Next.rt ?_
    refine Ret.go (.cons (.cellI _ _ _ _ rfl Tryz.isAgg48 Tryz.sizeOf48 rfl) .nil) _ (Heap.le.refl _) ?_
    refine ⟨?_, rfl⟩
    unfold ofN
    rw [if_pos (by omega)]; rfl
  · try simp only [decide_eq_false_iff_not, Int.not_le] at hc12
    have hen : e = -(((-e).toNat : Nat) : Int) := by omega
    refine .skip ?_
    refine Next.go ?_
    refine .seq ?_
    refine .block ?_
    refine AWP.loopW (rxof_J neg m (-e).toNat b6 H) ((-e).toNat) ⟨m, (-e).toNat, hm, by omega, rfl, rfl, rfl, rfl⟩ (sub_c rfl (sub_c rfl (sub_e rfl (by rw [← hen]) (sub_c rfl sub_n)))) (Heap.le.refl _) ?_
    rintro _ _ _ ⟨m1, k1, hm1, hk1, hst, rfl, rfl, hk⟩
    have hm1l := limbs_256 (small_BIG hm1)
    refine .seq ?_
    refine AWP.seqTo 34 (.bool (decide (-(k1 : Int) < 0) && !decide (((m1 % 2 : Nat) : Int) = 1) && decide ((0 : Int) < ((limbs m1).length : Int)))) [0, 1, 2, 6] ?_ ?_
    · -- region 4
      refine .region ?_
      refine .mv rfl rfl ?_
      refine .p rfl (pure_lss (tm rfl) ev_int) ?_
      refine .mv rfl rfl ?_
      refine bool_casesL (t := 25) rfl (fun hg25 => ?_) (fun hg25 => ?_)
      · have hh25 := hg25; try simp only [decide_eq_true_eq] at hh25
        refine .gp rfl rfl rfl (by assumption) (pure_move (tm rfl)) ?_
        refine .gs rfl rfl rfl (by assumption) (step_call0 Tryz.call87 (.cons (tm rfl) (.cons ev_int .nil)) (rBit_calls (limbs m1) .shared (limbs_Limbs m1) (by omega) 0 (by decide) 0 rfl _)) ?_
        rintro _ _ ⟨rfl, hH⟩
        obtain rfl := hH.symm
        rw [val_limbs, Nat.pow_zero, Nat.div_one]
        refine .gp rfl rfl rfl (by assumption) (pure_not (tm rfl)) ?_
        refine .p rfl (pure_pickT (tm rfl) (by assumption) (tm rfl)) ?_
        refine .mv rfl rfl ?_
        refine bool_casesL (t := 30) rfl (fun hg30 => ?_) (fun hg30 => ?_)
        · have hh30 := hg30; try simp only [decide_eq_false_iff_not, Bool.not_eq_true'] at hh30
          refine .gp rfl rfl rfl (by assumption) (pure_move (tm rfl)) ?_
          refine .gp rfl rfl rfl (by assumption) (pure_lenU Tryz.underlying94 (tm rfl)) ?_
          refine .gp rfl rfl rfl (by assumption) (pure_gtr (tm rfl) ev_int) ?_
          refine .p rfl (pure_pickT (tm rfl) (by assumption) (tm rfl)) ?_
          refine .nil ?_
          exact ⟨rfl, sub_b rfl (by (rw [show decide (-(k1 : Int) < 0) = _ from hg25, show (!decide (((m1 % 2 : Nat) : Int) = 1)) = _ from hg30]; rfl)) (sub_c rfl (sub_c rfl (sub_c rfl (sub_c rfl sub_n)))), rfl⟩
        · have hh30 := hg30; try simp only [decide_eq_true_eq, Bool.not_eq_false'] at hh30
          refine .gn rfl rfl rfl (by assumption) ?_
          refine .gn rfl rfl rfl (by assumption) ?_
          refine .gn rfl rfl rfl (by assumption) ?_
          refine .p rfl (pure_pickF (tm rfl) (by assumption) ev_bool) ?_
          refine .nil ?_
          exact ⟨rfl, sub_b rfl (by (rw [show decide (-(k1 : Int) < 0) = _ from hg25, show (!decide (((m1 % 2 : Nat) : Int) = 1)) = _ from hg30]; rfl)) (sub_c rfl (sub_c rfl (sub_c rfl (sub_c rfl sub_n)))), rfl⟩
      · have hh25 := hg25; try simp only [decide_eq_false_iff_not, Int.not_lt] at hh25
        refine .gn rfl rfl rfl (by assumption) ?_
        refine .gn rfl rfl rfl (by assumption) ?_
        refine .gn rfl rfl rfl (by assumption) ?_
        refine .p rfl (pure_pickF (tm rfl) (by assumption) ev_bool) ?_
        refine .mv rfl rfl ?_
        refine .gn rfl rfl rfl (by rfl) ?_
        refine .gn rfl rfl rfl (by rfl) ?_
        refine .gn rfl rfl rfl (by rfl) ?_
        refine .p rfl (pure_pickF (tm rfl) (by rfl) ev_bool) ?_
        refine .nil ?_
        exact ⟨rfl, sub_b rfl (by (rw [show decide (-(k1 : Int) < 0) = _ from hg25]; rfl)) (sub_c rfl (sub_c rfl (sub_c rfl (sub_c rfl sub_n)))), rfl⟩
    · refine AWP.sub [(34, _), (0, _), (1, _), (2, _), (6, _)] (sub_c rfl (sub_c rfl (sub_c rfl (sub_c rfl (sub_c rfl sub_n))))) ?_
      refine AWP.cond (tm rfl) (fun hc34 => ?_) (fun hc34 => ?_)
      · try simp only [decide_eq_true_eq, decide_eq_false_iff_not, Bool.not_eq_true', Bool.not_eq_false', Int.not_lt, Int.not_le, ne_eq, Decidable.not_not] at hc34
        simp only [Bool.and_eq_true, Bool.not_eq_true', decide_eq_true_eq, decide_eq_false_iff_not] at hc34
        obtain ⟨⟨hk0, hb0⟩, hl0⟩ := hc34
        have hm0 : 0 < m1 := by rcases Nat.eq_zero_or_pos m1 with h | h; rw [h] at hl0; exact absurd hl0 (by decide); exact h
        have hst2 := strip_go (m := m1) (k := k1) (by omega) hm0 (by omega)
        refine .skip ?_
        refine Next.go ?_
        refine .block ?_
        refine .sr ?_
        refine .mv rfl rfl ?_
        refine .e rfl (step_bs1 Tryz.underlying94 Tryz.sizeOf112 Tryz.zeroValue112 rfl (ev_nat 2) (.inl rfl) ⟨rfl, rfl⟩) ?_
        refine .cl rfl Tryz.call56 (evs2 rfl rfl) (rParts_calls (limbs m1) .shared (limbs_Limbs m1) (by omega) [2] .full (Limbs.mk (by decide) Limbs.nil) (by decide) (by decide) _) ?_
        rw [val_limbs, show val [2] = 2 from rfl]
        refine .mv rfl rfl ?_
        refine .p rfl (pure_extract (tm rfl) rfl) ?_
        refine .p rfl (pure_extract (tm rfl) rfl) ?_
        refine .as rfl rfl ?_
        refine .ng ?_
        refine .region ?_
        refine .mv rfl rfl ?_
        refine .p rfl (pure_add (tm rfl) ev_int (by omega)) ?_
        refine .as rfl rfl ?_
        refine .nil ?_
        refine Block.go ?_
        refine Next.go ?_
        refine Round.mk (J := rxof_J neg m (-e).toNat b6 H) ⟨m1 / 2, k1 - 1, by omega, by omega, by rw [← hst2]; exact hst, rfl, rfl, rfl⟩ (sub_c rfl (sub_c rfl (sub_e rfl (by congr 1; omega) (sub_c rfl sub_n)))) (Heap.le.refl _) (by omega)
      · try simp only [decide_eq_true_eq, decide_eq_false_iff_not, Bool.not_eq_true', Bool.not_eq_false', Int.not_lt, Int.not_le, ne_eq, Decidable.not_not] at hc34
        simp only [Bool.and_eq_false_iff, Bool.not_eq_false', decide_eq_true_eq, decide_eq_false_iff_not] at hc34
        have hse : strip m1 k1 = (m1, k1) := strip_end (by
          rcases Nat.eq_zero_or_pos m1 with h | h
          · exact .inr (.inl h)
          · have hnl := limbs_nz h
            omega)
        rw [hst] at hse
        refine .exit ?_
        refine Next.ex ?_
        refine Next.ex ?_
        refine Block.hit ?_
        refine Next.go ?_
        refine .seq ?_
        refine .sr ?_
        refine .mv rfl rfl ?_
        refine .p rfl (pure_lenU Tryz.underlying94 (tm rfl)) ?_
        refine .p rfl (pure_eql (tm rfl) ev_int) ?_
        refine .ng ?_
        refine AWP.cond (tm rfl) (fun hc45 => ?_) (fun hc45 => ?_)
        · try simp only [decide_eq_true_eq] at hc45
          refine .sr ?_
          refine .mv rfl rfl ?_
          refine .p rfl (pure_build [(0, 1), (1, 1), (2, 1)] Tryz.underlying48 Tryz.zeroValue48 (zr48) rfl (pl48 _ Tryz.underlying48) (.cons (tm rfl) (.inl rfl) .nil) rfl) ?_
          refine .e0 (step_store Tryz.sizeOf48 (tm rfl) (tm rfl) rfl rfl (.inr ⟨_, rfl⟩) (Heap.objs_set_same _ _ _) (Nat.le_of_ble_eq_true rfl)) ?_
          try first | rw [Heap.set_set] | rw [Heap.set_under (by assumption)]
          refine .ng ?_
          refine AWP.frz (t := 6) rfl (hb6) ?_
          refine .ret ?_
          refine Next.rt ?_
          refine Ret.go (.cons (.cellI _ _ _ _ rfl Tryz.isAgg48 Tryz.sizeOf48 rfl) .nil) _ (Heap.le.refl _) ?_
          refine ⟨?_, rfl⟩
          have hm10 : m1 = 0 := limbs_zero_iff.1 (by omega)
          unfold ofN
          rw [if_neg (by omega), hse, hm10, Nat.zero_mul, mk_zero]; rfl
        · try simp only [decide_eq_false_iff_not] at hc45
          refine .skip ?_
          refine Next.go ?_
          refine .sr ?_
          refine .mv rfl rfl ?_
          refine .mv rfl rfl ?_
          refine .mv rfl rfl ?_
          refine .p rfl (pure_neg (tm rfl) (by omega)) ?_
          refine .cl rfl Tryz.call127 (evs1 rfl) (rfives_calls k1 (by omega) _ (by omega) (small_five hm1 hk1).2 _) ?_
          refine .cl rfl Tryz.call53 (evs2 rfl rfl) (rTimes_calls (limbs m1) .shared (limbs_Limbs m1) (by omega) (limbs (5 ^ k1)) .shared (limbs_Limbs _) (by have := limbs_256 (small_five hm1 hk1).2; omega) _) ?_
          simp only [val_limbs]
          refine .cl rfl Tryz.call126 (evs1 rfl) (rDigits_calls (limbs (m1 * 5 ^ k1)) .shared (limbs_Limbs _) (by have := limbs_256 (small_five hm1 hk1).1; omega) (by rw [val_limbs]; exact (small_five hm1 hk1).1) _) ?_
          simp only [val_limbs]
          refine .mv rfl rfl ?_
          refine .cl rfl Tryz.call41 (evs3 rfl rfl rfl) (rMake_calls neg (dec (m1 * 5 ^ k1)) (-(k1 : Int)) (dec_digs _) (Nat.le_trans (dec_BIG (small_five hm1 hk1).1) (by decide)) (by omega) _) ?_
          refine .mv rfl rfl ?_
          refine .p rfl (pure_extract (tm rfl) rfl) ?_
          refine .p rfl (pure_extract (tm rfl) rfl) ?_
          refine .s rfl (step_alloc Tryz.zeroValue48 (zr48)) ?_
          rintro _ _ ⟨b9, hb9, rfl, hH⟩
          obtain rfl := hH.symm
          have hn6_9 := Heap.ne_of (Heap.objs_set_same _ _ _) hb9
          refine .e0 (step_store Tryz.sizeOf48 (tm rfl) (tm rfl) rfl rfl (.inr ⟨_, rfl⟩) (Heap.objs_set_same _ _ _) (Nat.le_of_ble_eq_true rfl)) ?_
          try first | rw [Heap.set_set] | rw [Heap.set_under (by assumption)]
          refine .as rfl rfl ?_
          refine .ng ?_
          refine AWP.frz (t := 9) rfl (hb9) ?_
          refine .sr ?_
          refine .p rfl (pure_loadN Tryz.isAgg48 Tryz.sizeOf48 (tm rfl) (Nat.le_of_ble_eq_true rfl)) ?_
          refine .e0 (step_store Tryz.sizeOf48 (tm rfl) (tm rfl) rfl rfl (.inr ⟨_, rfl⟩) (Heap.objs_set_same _ _ _) (Nat.le_of_ble_eq_true rfl)) ?_
          try first | rw [Heap.set_set] | rw [Heap.set_under (by assumption)]
          refine .ng ?_
          refine AWP.frz (t := 6) rfl (hb6) ?_
          refine .ret ?_
          refine Ret.go (.cons (.cellI _ _ _ _ rfl Tryz.isAgg48 Tryz.sizeOf48 rfl) .nil) _ (Heap.le.refl _) ?_
          refine ⟨?_, rfl⟩
          unfold ofN
          rw [if_neg (by omega), hse]; rfl

set_option maxRecDepth 100000 in
theorem rfinite_calls (x : Nat) (hx : x < 18446744073709551616) (H : Heap) : ACall Tryz.prog 80 [.int .u64 (x : Int)] H (fun y H' => y = .bool (decide ((kindN x : Int) < 3)) ∧ H' = H) := by
  refine ACall.of_body Tryz.func80 rfl Tryz.ntmps80 Tryz.results80 rfl ?_
  refine .sr ?_
  refine .p rfl (pure_assign ev_bool) ?_
  refine .nr ?_
  refine .mv rfl rfl ?_
  refine .cl rfl Tryz.call16 (evs1 rfl) (rKind_calls x hx _) ?_
  refine .p rfl (pure_lss (tm rfl) ev_int) ?_
  refine .as rfl rfl ?_
  refine .ng ?_
  refine .ret ?_
  refine Ret.go (.cons (.tmp _ _ rfl) .nil) _ (Heap.le.refl _) ?_
  exact ⟨rfl, rfl⟩

set_option maxRecDepth 100000 in
theorem rxDec_calls (x : Nat) (hx : x < 18446744073709551616) (H : Heap) : ACall Tryz.prog 48 [.int .u64 (x : Int)] H (fun y H' => y = dT (decX x) ∧ H' = H) := by
  have hpm := partM_lt x
  have hpe := partE_range x
  refine ACall.of_body Tryz.func48 rfl Tryz.ntmps48 Tryz.results48 rfl ?_
  refine .sr ?_
  refine .s rfl (step_alloc Tryz.zeroValue48 (zr48)) ?_
  rintro _ _ ⟨b2, hb2, rfl, hH⟩
  obtain rfl := hH.symm
  refine .p rfl (pure_assign ev_int) ?_
  refine .nr ?_
  refine .mv rfl rfl ?_
  refine .cl rfl Tryz.call80 (evs1 rfl) (rfinite_calls x hx _) ?_
  refine .as rfl rfl ?_
  refine .ng ?_
  refine .seq ?_
  refine .sr ?_
  refine .mv rfl rfl ?_
  refine .p rfl (pure_not (tm rfl)) ?_
  refine .ng ?_
  refine AWP.cond (tm rfl) (fun hc11 => ?_) (fun hc11 => ?_)
  · try simp only [decide_eq_false_iff_not, Bool.not_eq_true', Int.not_lt] at hc11
    refine .sr ?_
    refine .p rfl (pure_build [(0, 1), (1, 1), (2, 1)] Tryz.underlying48 Tryz.zeroValue48 (zr48) rfl (pl48 _ Tryz.underlying48) .nil rfl) ?_
    refine .e0 (step_store Tryz.sizeOf48 (tm rfl) (tm rfl) rfl rfl (.inr ⟨_, rfl⟩) (Heap.objs_set_same _ _ _) (Nat.le_of_ble_eq_true rfl)) ?_
    try first | rw [Heap.set_set] | rw [Heap.set_under (by assumption)]
    refine .p rfl (pure_assign ev_int) ?_
    refine .ng ?_
    refine AWP.frz (t := 2) rfl (hb2) ?_
    refine .ret ?_
    refine Next.rt ?_
    refine Ret.go (.cons (.cellI _ _ _ _ rfl Tryz.isAgg48 Tryz.sizeOf48 rfl) (.cons (.tmp _ _ rfl) .nil)) _ (Heap.le.refl _) ?_
    refine ⟨?_, rfl⟩
    unfold decX
    rw [if_pos (by omega)]; rfl
  · try simp only [decide_eq_true_eq, Bool.not_eq_false'] at hc11
    refine .skip ?_
    refine Next.go ?_
    refine .sr ?_
    refine .mv rfl rfl ?_
    refine .cl rfl Tryz.call81 (evs1 rfl) (rSplit_calls x hx _) ?_
    refine .mv rfl rfl ?_
    refine .p rfl (pure_extract (tm rfl) rfl) ?_
    refine .p rfl (pure_extract (tm rfl) rfl) ?_
    refine .p rfl (pure_extract (tm rfl) rfl) ?_
    refine .as rfl rfl ?_
    refine .as rfl rfl ?_
    refine .as rfl rfl ?_
    refine .nr ?_
    refine .mv rfl rfl ?_
    refine .mv rfl rfl ?_
    refine .cl rfl Tryz.call83 (evs1 rfl) (rNat_calls (partM x) (by omega) _) ?_
    refine .mv rfl rfl ?_
    refine .cl rfl Tryz.call82 (evs3 rfl rfl rfl) (rxof_calls (negB x) (partM x) (partE x) (by omega) hpe _) ?_
    refine .e0 (step_store Tryz.sizeOf48 (tm rfl) (tm rfl) rfl rfl (.inr ⟨_, rfl⟩) (Heap.objs_set_same _ _ _) (Nat.le_of_ble_eq_true rfl)) ?_
    try first | rw [Heap.set_set] | rw [Heap.set_under (by assumption)]
    refine .p rfl (pure_assign ev_int) ?_
    refine .ng ?_
    refine AWP.frz (t := 2) rfl (hb2) ?_
    refine .ret ?_
    refine Ret.go (.cons (.cellI _ _ _ _ rfl Tryz.isAgg48 Tryz.sizeOf48 rfl) (.cons (.tmp _ _ rfl) .nil)) _ (Heap.le.refl _) ?_
    refine ⟨?_, rfl⟩
    unfold decX
    rw [if_neg (by omega)]; rfl

set_option maxRecDepth 100000 in
theorem rxSig_calls (x : Nat) (hx : x < 18446744073709551616) (n : Nat) (hn : 0 < n) (hn2 : n ≤ 100000) (H : Heap) : ACall Tryz.prog 17 [.int .u64 (x : Int), .int .i64 (n : Int), .int .i64 1] H (fun y H' => y = dT (sigX x n) ∧ H' = H) := by
  refine ACall.of_body Tryz.func17 rfl Tryz.ntmps17 Tryz.results17 rfl ?_
  refine .sr ?_
  refine .s rfl (step_alloc Tryz.zeroValue48 (zr48)) ?_
  rintro _ _ ⟨b6, hb6, rfl, hH⟩
  obtain rfl := hH.symm
  refine .p rfl (pure_assign ev_int) ?_
  refine .nr ?_
  refine .mv rfl rfl ?_
  refine .cl rfl Tryz.call48 (evs1 rfl) (rxDec_calls x hx _) ?_
  refine .mv rfl rfl ?_
  refine .p rfl (pure_extract (tm rfl) rfl) ?_
  refine .p rfl (pure_extract (tm rfl) rfl) ?_
  refine .s rfl (step_alloc Tryz.zeroValue48 (zr48)) ?_
  rintro _ _ ⟨b8, hb8, rfl, hH⟩
  obtain rfl := hH.symm
  have hn6_8 := Heap.ne_of (Heap.objs_set_same _ _ _) hb8
  refine .e0 (step_store Tryz.sizeOf48 (tm rfl) (tm rfl) rfl rfl (.inr ⟨_, rfl⟩) (Heap.objs_set_same _ _ _) (Nat.le_of_ble_eq_true rfl)) ?_
  try first | rw [Heap.set_set] | rw [Heap.set_under (by assumption)]
  refine .as rfl rfl ?_
  refine .ng ?_
  refine AWP.frz (t := 8) rfl (hb8) ?_
  refine .seq ?_
  refine .sr ?_
  refine .mv rfl rfl ?_
  refine .p rfl (pure_neq (tm rfl) ev_int) ?_
  refine .ng ?_
  refine AWP.cond (tm rfl) (fun hc16 => ?_) (fun hc16 => ?_)
  · try simp only [decide_eq_true_eq, ne_eq] at hc16
    have hk3 : 3 ≤ kindN x := by rcases Nat.lt_or_ge (kindN x) 3 with h | h; exact absurd (show (decX x).2 = 0 by unfold decX; rw [if_neg (by omega)]) (by assumption); exact h
    refine .sr ?_
    refine .p rfl (pure_loadN Tryz.isAgg48 Tryz.sizeOf48 (tm rfl) (Nat.le_of_ble_eq_true rfl)) ?_
    refine .mv rfl rfl ?_
    refine .e0 (step_store Tryz.sizeOf48 (tm rfl) (tm rfl) rfl rfl (.inr ⟨_, rfl⟩) (Heap.objs_set_same _ _ _) (Nat.le_of_ble_eq_true rfl)) ?_
    try first | rw [Heap.set_set] | rw [Heap.set_under (by assumption)]
    refine .as rfl rfl ?_
    refine .ng ?_
    refine AWP.frz (t := 6) rfl (hb6) ?_
    refine .ret ?_
    refine Next.rt ?_
    refine Ret.go (.cons (.cellI _ _ _ _ rfl Tryz.isAgg48 Tryz.sizeOf48 rfl) (.cons (.tmp _ _ rfl) .nil)) _ (Heap.le.refl _) ?_
    refine ⟨?_, rfl⟩
    unfold sigX
    rw [if_pos hk3]
    rw [show decX x = ((false, [], 0), 11) by unfold decX; rw [if_pos hk3]]; rfl
  · try simp only [decide_eq_false_iff_not, ne_eq, Decidable.not_not] at hc16
    have hk3 : ¬ 3 ≤ kindN x := fun h => by rw [decX_two, if_pos h] at hc16; exact absurd hc16 (by decide)
    refine .skip ?_
    refine Next.go ?_
    refine .sr ?_
    refine .p rfl (pure_loadN Tryz.isAgg48 Tryz.sizeOf48 (tm rfl) (Nat.le_of_ble_eq_true rfl)) ?_
    refine .mv rfl rfl ?_
    refine .mv rfl rfl ?_
    refine .cl rfl Tryz.call49 (evs3 rfl rfl rfl) (rSig_calls _ _ _ n (decX_right x) hn hn2 _) ?_
    refine .p rfl (pure_extract (tm rfl) rfl) ?_
    refine .p rfl (pure_extract (tm rfl) rfl) ?_
    refine .e0 (step_store Tryz.sizeOf48 (tm rfl) (tm rfl) rfl rfl (.inr ⟨_, rfl⟩) (Heap.objs_set_same _ _ _) (Nat.le_of_ble_eq_true rfl)) ?_
    try first | rw [Heap.set_set] | rw [Heap.set_under (by assumption)]
    refine .as rfl rfl ?_
    refine .ng ?_
    refine AWP.frz (t := 6) rfl (hb6) ?_
    refine .ret ?_
    refine Ret.go (.cons (.cellI _ _ _ _ rfl Tryz.isAgg48 Tryz.sizeOf48 rfl) (.cons (.tmp _ _ rfl) .nil)) _ (Heap.le.refl _) ?_
    refine ⟨?_, rfl⟩
    unfold sigX
    rw [if_neg hk3]; rfl

end Go.Proofs.YtfkeflcdadlmdaaGreatDoor

namespace Go.Proofs.YtfkeflcdadlmdaaGreatDoor
open Go Go.RowKit

structure Loc where
  name : List UInt8
  dc : List UInt8
  grp : List UInt8
  lst : List UInt8
  minus : List UInt8
  pct : List UInt8
  cur : List UInt8
  first : Bool
  space : Bool
  second : Nat
def pL (l : Loc) (sz : AV) : AV := .agg [.str l.name, .str l.dc, .str l.grp, .str l.lst, .str l.minus, .str l.pct, .str l.cur, .bool l.first, .bool l.space, sz]
def rL (l : Loc) : AV := .agg [.str l.name, .str l.dc, .str l.grp, .str l.lst, .str l.minus, .str l.pct, .str l.cur, .bool l.first, .bool l.space, .int .i64 (l.second : Int)]
def Loc.ok (l : Loc) : Prop := l.dc.length ≤ 10 ∧ l.grp.length ≤ 10 ∧ l.minus.length ≤ 10 ∧ l.cur.length ≤ 10 ∧ l.pct.length ≤ 10
def sidesD (ds : List UInt8) (p : Int) : (List UInt8 × List UInt8) × Bool :=
  if 400 < p ∨ 400 < (ds.length : Int) - p then (([], []), false)
  else if p ≤ 0 then (([48], List.replicate (-p).toNat 48 ++ ds), true)
  else if (ds.length : Int) ≤ p then ((ds ++ List.replicate (p - ds.length).toNat 48, []), true)
  else ((ds.take p.toNat, ds.drop p.toNat), true)
def writeD (l : Loc) (neg : Bool) (ds : List UInt8) (p : Int) : List UInt8 :=
  if (sidesD ds p).2 = true then (if neg = true then l.minus else []) ++ ((sidesD ds p).1.1 ++ (if (sidesD ds p).1.2 = [] then [] else l.dc ++ (sidesD ds p).1.2)) else []
theorem sides_len {ds : List UInt8} {p : Int} (hl : ds.length ≤ 1100) : (sidesD ds p).1.1.length ≤ 2000 ∧ (sidesD ds p).1.2.length ≤ 2000 := by
  unfold sidesD
  split
  · simp
  · split
    · simp only [List.length_append, List.length_replicate, List.length_cons, List.length_nil]; omega
    · split
      · simp only [List.length_append, List.length_replicate, List.length_nil]; omega
      · simp only [List.length_take, List.length_drop]; omega
theorem write_len {l : Loc} {neg : Bool} {ds : List UInt8} {p : Int} (hl : ds.length ≤ 1100) (hk : l.ok) : (writeD l neg ds p).length ≤ 5000 := by
  have h := sides_len (p := p) hl
  obtain ⟨h1, h2, h3, h4, h5⟩ := hk
  unfold writeD
  split
  · simp only [List.length_append]
    have a1 : (if neg = true then l.minus else []).length ≤ 10 := by split <;> first | omega | (simp; done) | (simp; omega)
    have a2 : (if (sidesD ds p).1.2 = [] then [] else l.dc ++ (sidesD ds p).1.2).length ≤ 2010 := by split <;> first | omega | (simp; done) | (simp; omega)
    omega
  · simp
theorem point_of {ds : List UInt8} {e : Int} (h : rightB ds e = true) : pointD ds e = (ds.length : Int) + e := by unfold pointD; rw [if_pos h]

set_option maxRecDepth 100000 in
theorem sides_calls (neg : Bool) (ds : List UInt8) (e : Int) (hr : rightB ds e = true) (H : Heap) : ACall Tryz.prog 59 [dA neg ds e] H (fun y H' => y = .tuple [.str (sidesD ds ((ds.length : Int) + e)).1.1, .str (sidesD ds ((ds.length : Int) + e)).1.2, .bool (sidesD ds ((ds.length : Int) + e)).2] ∧ H' = H) := by
  have hpd := point_of hr
  have hrl := rightB_len hr
  have hdd := right_digs hr
  have hml := maxLen_eq
  generalize hpp : (ds.length : Int) + e = p at *
  refine ACall.of_body Tryz.func59 rfl Tryz.ntmps59 Tryz.results59 rfl ?_
  refine .sr ?_
  refine .e rfl (step_boxI (tm rfl) (.inr ⟨_, rfl⟩)) ?_
  refine .p rfl (pure_assign (ev_str rfl)) ?_
  refine .p rfl (pure_assign (ev_str rfl)) ?_
  refine .p rfl (pure_assign ev_bool) ?_
  refine .ng ?_
  refine .seq ?_
  refine AWP.draw [(0, true), (2, true), (3, true), (4, true), (1, false), (5, true), (6, true)] rfl (by decide +kernel) ?_
  refine .p rfl rfl (pure_loadN Tryz.isAgg48 Tryz.sizeOf48 (tm rfl) (Nat.le_of_ble_eq_true rfl)) ?_
  refine .p rfl rfl (pure_fieldI Tryz.underlying48 rfl Tryz.sizeOf9 (tm rfl)) ?_
  refine .p rfl rfl (pure_load1 Tryz.isAgg9 (tm rfl)) ?_
  refine .p rfl rfl (pure_lenStr Tryz.underlying9 (tm rfl)) ?_
  refine .s rfl rfl (step_call0 Tryz.call43 (evs1 rfl) (Point_calls neg ds e hdd _)) ?_
  rintro _ _ ⟨rfl, hH⟩
  obtain rfl := hH.symm
  rw [hpd]
  refine .p rfl rfl (pure_assign (tm rfl)) ?_
  refine .p rfl rfl (pure_assign (tm rfl)) ?_
  refine .nil ?_
  refine Next.go ?_
  refine .seq ?_
  refine .block ?_
  refine .sr ?_
  refine .mv rfl rfl ?_
  refine .p rfl (pure_eql (tm rfl) ev_int) ?_
  refine .as rfl rfl ?_
  refine .ng ?_
  refine AWP.cond (tm rfl) (fun hc12 => ?_) (fun hc12 => ?_)
  · try simp only [decide_eq_true_eq] at hc12
    refine .sr ?_
    refine .p rfl (pure_assign (ev_str rfl)) ?_
    refine .p rfl (pure_assign (ev_str rfl)) ?_
    refine .p rfl (pure_assign ev_bool) ?_
    refine .ng ?_
    refine .ret ?_
    refine Block.rt ?_
    refine Next.rt ?_
    refine Ret.go (.cons (.tmp _ _ rfl) (.cons (.tmp _ _ rfl) (.cons (.tmp _ _ rfl) .nil))) _ (Heap.le.refl _) ?_
    refine ⟨?_, rfl⟩
    unfold sidesD
    have hn0 : ds = [] := List.length_eq_zero_iff.1 (by omega)
    have he0 : p = 0 := by rw [hn0] at hpp; have he := hr; rw [hn0] at he; unfold rightB at he; rw [if_pos rfl] at he; have := of_decide_eq_true he; simp only [List.length_nil] at hpp; omega
    rw [hn0, he0]; rfl
  · try simp only [decide_eq_false_iff_not] at hc12
    refine AWP.seqTo 15 (.bool (decide ((400 : Int) < p) || decide ((400 : Int) < (ds.length : Int) - p))) [1, 2, 3, 4, 5, 6] ?_ ?_
    · -- region 4
      refine .region ?_
      refine .mv rfl rfl ?_
      refine .p rfl (pure_gtr (tm rfl) ev_int) ?_
      refine .mv rfl rfl ?_
      refine bool_casesL (t := 18) rfl (fun hg18 => ?_) (fun hg18 => ?_)
      · have hh18 := hg18; try simp only [decide_eq_true_eq] at hh18
        refine .gn rfl rfl rfl (by assumption) ?_
        refine .gn rfl rfl rfl (by assumption) ?_
        refine .gn rfl rfl rfl (by assumption) ?_
        refine .gn rfl rfl rfl (by assumption) ?_
        refine .p rfl (pure_pickT (tm rfl) (by assumption) ev_bool) ?_
        refine .as rfl rfl ?_
        refine .nil ?_
        exact ⟨rfl, sub_b rfl (by (rw [show decide ((400 : Int) < p) = _ from hg18]; rfl)) (sub_c rfl (sub_c rfl (sub_c rfl (sub_c rfl (sub_c rfl (sub_c rfl sub_n)))))), rfl⟩
      · have hh18 := hg18; try simp only [decide_eq_false_iff_not, Int.not_lt] at hh18
        refine .gp rfl rfl rfl (by assumption) (pure_move (tm rfl)) ?_
        refine .gp rfl rfl rfl (by assumption) (pure_move (tm rfl)) ?_
        refine .gp rfl rfl rfl (by assumption) (pure_sub (tm rfl) (tm rfl) (by omega)) ?_
        refine .gp rfl rfl rfl (by assumption) (pure_gtr (tm rfl) ev_int) ?_
        refine .p rfl (pure_pickF (tm rfl) (by assumption) (tm rfl)) ?_
        refine .as rfl rfl ?_
        refine .nil ?_
        exact ⟨rfl, sub_b rfl (by (rw [show decide ((400 : Int) < p) = _ from hg18]; rfl)) (sub_c rfl (sub_c rfl (sub_c rfl (sub_c rfl (sub_c rfl (sub_c rfl sub_n)))))), rfl⟩
    · refine AWP.sub [(15, _), (1, _), (2, _), (3, _), (4, _), (5, _), (6, _)] (sub_c rfl (sub_c rfl (sub_c rfl (sub_c rfl (sub_c rfl (sub_c rfl (sub_c rfl sub_n))))))) ?_
      refine AWP.cond (tm rfl) (fun hc15 => ?_) (fun hc15 => ?_)
      · try simp only [decide_eq_true_eq, decide_eq_false_iff_not, Bool.not_eq_true', Bool.not_eq_false', Int.not_lt, Int.not_le, ne_eq, Decidable.not_not] at hc15
        simp only [Bool.or_eq_true, decide_eq_true_eq] at hc15
        refine .sr ?_
        refine .p rfl (pure_assign (ev_str rfl)) ?_
        refine .p rfl (pure_assign (ev_str rfl)) ?_
        refine .p rfl (pure_assign ev_bool) ?_
        refine .ng ?_
        refine .ret ?_
        refine Block.rt ?_
        refine Next.rt ?_
        refine Ret.go (.cons (.tmp _ _ rfl) (.cons (.tmp _ _ rfl) (.cons (.tmp _ _ rfl) .nil))) _ (Heap.le.refl _) ?_
        refine ⟨?_, rfl⟩
        unfold sidesD
        rw [if_pos hc15]; rfl
      · try simp only [decide_eq_true_eq, decide_eq_false_iff_not, Bool.not_eq_true', Bool.not_eq_false', Int.not_lt, Int.not_le, ne_eq, Decidable.not_not] at hc15
        simp only [Bool.or_eq_false_iff, decide_eq_false_iff_not] at hc15
        refine .sr ?_
        refine .mv rfl rfl ?_
        refine .p rfl (pure_leq (tm rfl) ev_int) ?_
        refine .as rfl rfl ?_
        refine .ng ?_
        refine AWP.cond (tm rfl) (fun hc24 => ?_) (fun hc24 => ?_)
        · try simp only [decide_eq_true_eq] at hc24
          refine .seq ?_
          refine AWP.draw [(0, true), (1, true), (3, true), (4, true), (2, false), (5, true), (6, true), (7, true), (8, true)] rfl (by decide +kernel) ?_
          refine .p rfl rfl (pure_move (tm rfl)) ?_
          refine .p rfl rfl (pure_neg (tm rfl) (by omega)) ?_
          refine .p rfl rfl (pure_fieldI Tryz.underlying48 rfl Tryz.sizeOf9 (tm rfl)) ?_
          refine .p rfl rfl (pure_load1 Tryz.isAgg9 (tm rfl)) ?_
          refine .s rfl rfl (step_call0 Tryz.call93 (.cons (ev_str rfl) (evs1 rfl)) (repeatZ 48 _ (-p).toNat (by omega) (by omega) _)) ?_
          rintro _ _ ⟨rfl, hH⟩
          obtain rfl := hH.symm
          refine .p rfl rfl (pure_addStr (tm rfl) (tm rfl) (by rw [maxLen_eq, List.length_replicate]; omega)) ?_
          refine .p rfl rfl (pure_assign (ev_str rfl)) ?_
          refine .p rfl rfl (pure_assign (tm rfl)) ?_
          refine .p rfl rfl (pure_assign ev_bool) ?_
          refine .nil ?_
          refine Next.go ?_
          refine .ret ?_
          refine Block.rt ?_
          refine Next.rt ?_
          refine Ret.go (.cons (.tmp _ _ rfl) (.cons (.tmp _ _ rfl) (.cons (.tmp _ _ rfl) .nil))) _ (Heap.le.refl _) ?_
          refine ⟨?_, rfl⟩
          unfold sidesD
          rw [if_neg (by omega), if_pos (by omega)]; rfl
        · try simp only [decide_eq_false_iff_not, Int.not_le] at hc24
          refine .sr ?_
          refine .mv rfl rfl ?_
          refine .mv rfl rfl ?_
          refine .p rfl (pure_geq (tm rfl) (tm rfl)) ?_
          refine .as rfl rfl ?_
          refine .ng ?_
          refine AWP.cond (tm rfl) (fun hc33 => ?_) (fun hc33 => ?_)
          · try simp only [decide_eq_true_eq] at hc33
            refine .seq ?_
            refine AWP.draw [(0, true), (1, true), (2, true), (3, true), (4, true), (5, false), (6, true), (7, true), (8, true), (9, true)] rfl (by decide +kernel) ?_
            refine .p rfl rfl (pure_fieldI Tryz.underlying48 rfl Tryz.sizeOf9 (tm rfl)) ?_
            refine .p rfl rfl (pure_load1 Tryz.isAgg9 (tm rfl)) ?_
            refine .p rfl rfl (pure_move (tm rfl)) ?_
            refine .p rfl rfl (pure_move (tm rfl)) ?_
            refine .p rfl rfl (pure_sub (tm rfl) (tm rfl) (by omega)) ?_
            refine .s rfl rfl (step_call0 Tryz.call93 (.cons (ev_str rfl) (evs1 rfl)) (repeatZ 48 _ (p - ds.length).toNat (by omega) (by omega) _)) ?_
            rintro _ _ ⟨rfl, hH⟩
            obtain rfl := hH.symm
            refine .p rfl rfl (pure_addStr (tm rfl) (tm rfl) (by rw [maxLen_eq, List.length_replicate]; omega)) ?_
            refine .p rfl rfl (pure_assign (tm rfl)) ?_
            refine .p rfl rfl (pure_assign (ev_str rfl)) ?_
            refine .p rfl rfl (pure_assign ev_bool) ?_
            refine .nil ?_
            refine Next.go ?_
            refine .ret ?_
            refine Block.rt ?_
            refine Next.rt ?_
            refine Ret.go (.cons (.tmp _ _ rfl) (.cons (.tmp _ _ rfl) (.cons (.tmp _ _ rfl) .nil))) _ (Heap.le.refl _) ?_
            refine ⟨?_, rfl⟩
            unfold sidesD
            rw [if_neg (by omega), if_neg (by omega), if_pos (by omega)]; rfl
          · try simp only [decide_eq_false_iff_not, Int.not_le] at hc33
            refine .skip ?_
            refine Block.go ?_
            refine Next.go ?_
            refine .seq ?_
            refine AWP.draw [(0, true), (1, true), (2, true), (3, true), (4, true), (5, true), (6, true), (7, true), (8, true), (9, true), (10, true)] rfl (by decide +kernel) ?_
            refine .p rfl rfl (pure_fieldI Tryz.underlying48 rfl Tryz.sizeOf9 (tm rfl)) ?_
            refine .p rfl rfl (pure_load1 Tryz.isAgg9 (tm rfl)) ?_
            refine .p rfl rfl (pure_move (tm rfl)) ?_
            refine .p rfl rfl (pure_sliceStrH Tryz.underlying9 (tm rfl) (tm rfl) (by omega) (by omega)) ?_
            refine .p rfl rfl (pure_fieldI Tryz.underlying48 rfl Tryz.sizeOf9 (tm rfl)) ?_
            refine .p rfl rfl (pure_load1 Tryz.isAgg9 (tm rfl)) ?_
            refine .p rfl rfl (pure_move (tm rfl)) ?_
            refine .p rfl rfl (pure_sliceStrL Tryz.underlying9 (tm rfl) (tm rfl) (by omega) (by omega)) ?_
            refine .p rfl rfl (pure_assign (tm rfl)) ?_
            refine .p rfl rfl (pure_assign (tm rfl)) ?_
            refine .p rfl rfl (pure_assign ev_bool) ?_
            refine .nil ?_
            refine Next.go ?_
            refine .ret ?_
            refine Ret.go (.cons (.tmp _ _ rfl) (.cons (.tmp _ _ rfl) (.cons (.tmp _ _ rfl) .nil))) _ (Heap.le.refl _) ?_
            refine ⟨?_, rfl⟩
            unfold sidesD
            rw [if_neg (by omega), if_neg (by omega), if_neg (by omega)]; rfl

set_option maxRecDepth 100000 in
theorem Write_calls (l : Loc) (hk : l.ok) (sz : AV) (neg : Bool) (ds : List UInt8) (e : Int) (hr : rightB ds e = true) (H : Heap) : ACall Tryz.prog 20 [pL l sz, dA neg ds e, .bool false] H (fun y H' => y = .str (writeD l neg ds ((ds.length : Int) + e)) ∧ H' = H) := by
  have hsl := sides_len (ds := ds) (p := (ds.length : Int) + e) (rightB_len hr).1
  have hml := maxLen_eq
  have hdd := right_digs hr
  obtain ⟨hk1, hk2, hk3, hk4, hk5⟩ := hk
  generalize hsv : sidesD ds ((ds.length : Int) + e) = sv at *
  obtain ⟨⟨w, r⟩, ok⟩ := sv
  obtain ⟨hsl1, hsl2⟩ := hsl
  simp only [] at hsl1 hsl2
  refine ACall.of_body Tryz.func20 rfl Tryz.ntmps20 Tryz.results20 rfl ?_
  refine .sr ?_
  refine .e rfl (step_boxI (tm rfl) (.inr ⟨_, rfl⟩)) ?_
  refine .e rfl (step_boxI (tm rfl) (.inr ⟨_, rfl⟩)) ?_
  refine .p rfl (pure_assign (ev_str rfl)) ?_
  refine .nr ?_
  refine .p rfl (pure_loadN Tryz.isAgg48 Tryz.sizeOf48 (tm rfl) (Nat.le_of_ble_eq_true rfl)) ?_
  refine .cl rfl Tryz.call59 (evs1 rfl) (sides_calls neg ds e hr _) ?_
  rw [hsv]
  dsimp only
  refine .mv rfl rfl ?_
  refine .p rfl (pure_extract (tm rfl) rfl) ?_
  refine .p rfl (pure_extract (tm rfl) rfl) ?_
  refine .p rfl (pure_extract (tm rfl) rfl) ?_
  refine .as rfl rfl ?_
  refine .as rfl rfl ?_
  refine .as rfl rfl ?_
  refine .ng ?_
  refine .seq ?_
  refine AWP.seqTo 22 (.bool (!ok)) [2, 3, 4, 6, 7, 8] ?_ ?_
  · -- region 2
    refine .region ?_
    refine .mv rfl rfl ?_
    refine .p rfl (pure_not (tm rfl)) ?_
    refine .mv rfl rfl ?_
    refine bool_casesL (t := 18) rfl (fun hg18 => ?_) (fun hg18 => ?_)
    · have hh18 := hg18; try simp only [Bool.not_eq_true'] at hh18
      refine .gn rfl rfl rfl (by assumption) ?_
      refine .gn rfl rfl rfl (by assumption) ?_
      refine .gn rfl rfl rfl (by assumption) ?_
      refine .p rfl (pure_pickT (tm rfl) (by assumption) ev_bool) ?_
      refine .nil ?_
      exact ⟨rfl, sub_b rfl (by (cases ok <;> first | rfl | (simp at hg18))) (sub_c rfl (sub_c rfl (sub_c rfl (sub_c rfl (sub_c rfl (sub_c rfl sub_n)))))), rfl⟩
    · have hh18 := hg18; try simp only [Bool.not_eq_false'] at hh18
      refine .gp rfl rfl rfl (by assumption) (pure_loadN Tryz.isAgg48 Tryz.sizeOf48 (tm rfl) (Nat.le_of_ble_eq_true rfl)) ?_
      refine .gs rfl rfl rfl (by assumption) (step_call0 Tryz.call60 (evs1 rfl) (Right_calls neg ds e hdd _)) ?_
      rintro _ _ ⟨rfl, hH⟩
      obtain rfl := hH.symm
      rw [hr]
      refine .gp rfl rfl rfl (by assumption) (pure_not (tm rfl)) ?_
      refine .p rfl (pure_pickF (tm rfl) (by assumption) (tm rfl)) ?_
      refine .nil ?_
      exact ⟨rfl, sub_b rfl (by (cases ok <;> first | rfl | (simp at hg18))) (sub_c rfl (sub_c rfl (sub_c rfl (sub_c rfl (sub_c rfl (sub_c rfl sub_n)))))), rfl⟩
  · refine AWP.sub [(22, _), (2, _), (3, _), (4, _), (6, _), (7, _), (8, _)] (sub_c rfl (sub_c rfl (sub_c rfl (sub_c rfl (sub_c rfl (sub_c rfl (sub_c rfl sub_n))))))) ?_
    refine AWP.cond (tm rfl) (fun hc22 => ?_) (fun hc22 => ?_)
    · try simp only [Bool.not_eq_true'] at hc22
      refine .sr ?_
      refine .p rfl (pure_assign (ev_str rfl)) ?_
      refine .ng ?_
      refine .ret ?_
      refine Next.rt ?_
      refine Ret.go (.cons (.tmp _ _ rfl) .nil) _ (Heap.le.refl _) ?_
      refine ⟨?_, rfl⟩
      unfold writeD
      rw [hsv]
      simp only []
      rw [if_neg (show ¬ ok = true by simpa using hc22)]; rfl
    · try simp only [Bool.not_eq_false'] at hc22
      refine .skip ?_
      refine Next.go ?_
      refine .seq ?_
      refine .sr ?_
      refine .mv rfl rfl ?_
      refine .ng ?_
      refine AWP.cond_false (tm rfl) (by rfl) ?_
      refine .skip ?_
      refine Next.go ?_
      refine AWP.seqToL [(7, .str ((if neg = true then l.minus else []) ++ w))] [3, 6, 8] ?_ ?_
      · refine .sr ?_
        refine .p rfl (pure_fieldI Tryz.underlying48 rfl Tryz.sizeOf4 (tm rfl)) ?_
        refine .p rfl (pure_load1 Tryz.isAgg4 (tm rfl)) ?_
        refine .ng ?_
        refine AWP.cond (tm rfl) (fun hc28 => ?_) (fun hc28 => ?_)
        · try simp only [decide_eq_true_eq, decide_eq_false_iff_not, Bool.not_eq_true', Bool.not_eq_false', Int.not_lt, Int.not_le, ne_eq, Decidable.not_not] at hc28
          refine .region ?_
          refine .p rfl (pure_fieldI Tryz.underlying25 rfl Tryz.sizeOf9 (tm rfl)) ?_
          refine .p rfl (pure_load1 Tryz.isAgg9 (tm rfl)) ?_
          refine .mv rfl rfl ?_
          refine .p rfl (pure_addStr (tm rfl) (tm rfl) (by rw [maxLen_eq]; omega)) ?_
          refine .as rfl rfl ?_
          refine .nil ?_
          exact ⟨rfl, (sub_e rfl (by (rw [if_pos (by assumption)]; done)) (sub_c rfl (sub_c rfl (sub_c rfl sub_n)))), rfl⟩
        · try simp only [decide_eq_true_eq, decide_eq_false_iff_not, Bool.not_eq_true', Bool.not_eq_false', Int.not_lt, Int.not_le, ne_eq, Decidable.not_not] at hc28
          refine .skip ?_
          exact ⟨rfl, (sub_e rfl (by (rw [if_neg (by (rw [hc28]; decide))]; rfl)) (sub_c rfl (sub_c rfl (sub_c rfl sub_n)))), rfl⟩
      · refine AWP.sub [(7, _), (3, _), (6, _), (8, _)] (sub_c rfl (sub_c rfl (sub_c rfl (sub_c rfl sub_n)))) ?_
        have hmw : (if neg = true then l.minus else []).length ≤ 10 := by split <;> first | omega | (simp; done) | (simp; omega)
        refine .seq ?_
        refine .sr ?_
        refine .mv rfl rfl ?_
        refine .p rfl (pure_neqStr (tm rfl) (ev_str rfl)) ?_
        refine .ng ?_
        refine AWP.cond (tm rfl) (fun hc34 => ?_) (fun hc34 => ?_)
        · try simp only [decide_eq_false_iff_not, Bool.not_eq_true'] at hc34
          refine .region ?_
          refine .mv rfl rfl ?_
          refine .p rfl (pure_fieldI Tryz.underlying25 rfl Tryz.sizeOf9 (tm rfl)) ?_
          refine .p rfl (pure_load1 Tryz.isAgg9 (tm rfl)) ?_
          refine .mv rfl rfl ?_
          refine .p rfl (pure_addStr (tm rfl) (tm rfl) (by rw [maxLen_eq]; omega)) ?_
          refine .p rfl (pure_addStr (tm rfl) (tm rfl) (by simp only [maxLen_eq, List.length_append]; first | omega | (split <;> first | omega | (simp; done) | (simp; omega)))) ?_
          refine .as rfl rfl ?_
          refine .nr ?_
          refine .mv rfl rfl ?_
          refine .as rfl rfl ?_
          refine .ng ?_
          refine .ret ?_
          refine Ret.go (.cons (.tmp _ _ rfl) .nil) _ (Heap.le.refl _) ?_
          refine ⟨?_, rfl⟩
          unfold writeD
          rw [hsv]
          simp only []
          rw [if_pos (show ok = true by simpa using hc22), if_neg (show ¬ r = [] by simpa using hc34), List.append_assoc]; rfl
        · try simp only [decide_eq_true_eq, Bool.not_eq_false'] at hc34
          refine .skip ?_
          refine Next.go ?_
          refine .sr ?_
          refine .mv rfl rfl ?_
          refine .as rfl rfl ?_
          refine .ng ?_
          refine .ret ?_
          refine Ret.go (.cons (.tmp _ _ rfl) .nil) _ (Heap.le.refl _) ?_
          refine ⟨?_, rfl⟩
          unfold writeD
          rw [hsv]
          simp only []
          rw [if_pos (show ok = true by simpa using hc22), if_pos (show r = [] by simpa using hc34), List.append_nil]; rfl

end Go.Proofs.YtfkeflcdadlmdaaGreatDoor

namespace Go.Proofs.YtfkeflcdadlmdaaGreatDoor
open Go Go.RowKit

def wholeN (ds : List UInt8) (i : Nat) : List UInt8 := ds.take i ++ List.replicate (i - ds.length) 48
theorem wholeN_next {ds : List UInt8} {i : Nat} (h : i < ds.length) : wholeN ds i ++ [ds.getD i 0] = wholeN ds (i + 1) := by
  unfold wholeN
  rw [show i - ds.length = 0 by omega, show i + 1 - ds.length = 0 by omega, List.replicate_zero, List.append_nil, List.append_nil, ← List.take_append_getElem h, List.getD_eq_getElem?_getD, List.getElem?_eq_getElem h]; rfl
theorem wholeN_more {ds : List UInt8} {i : Nat} (h : ds.length ≤ i) : wholeN ds i ++ [48] = wholeN ds (i + 1) := by
  unfold wholeN
  rw [List.take_of_length_le h, List.take_of_length_le (by omega), show i + 1 - ds.length = (i - ds.length) + 1 by omega, List.replicate_succ', List.append_assoc]
theorem wholeN_len (ds : List UInt8) (i : Nat) : (wholeN ds i).length = i := by
  unfold wholeN; simp only [List.length_append, List.length_take, List.length_replicate]; omega
def restN (ds : List UInt8) (m q j : Nat) : List UInt8 := List.replicate (min j m) 48 ++ (ds.drop q).take (j - m)
theorem restN_zero {ds : List UInt8} {m q j : Nat} (h : j < m) : restN ds m q j ++ [48] = restN ds m q (j + 1) := by
  unfold restN
  rw [show j - m = 0 by omega, show j + 1 - m = 0 by omega, List.take_zero, List.append_nil, List.append_nil, Nat.min_eq_left (by omega), Nat.min_eq_left (by omega), List.replicate_succ']
theorem restN_next {ds : List UInt8} {m q j i : Nat} (h : m ≤ j) (hi : i = q + (j - m)) (hl : i < ds.length) : restN ds m q j ++ [ds.getD i 0] = restN ds m q (j + 1) := by
  unfold restN
  have hd : j - m < (ds.drop q).length := by rw [List.length_drop]; omega
  rw [Nat.min_eq_right h, Nat.min_eq_right (by omega), show j + 1 - m = (j - m) + 1 by omega, ← List.take_append_getElem hd, ← List.append_assoc, List.getElem_drop, List.getD_eq_getElem?_getD, List.getElem?_eq_getElem hl]
  congr 2
  show ds[i] = ds[q + (j - m)]
  congr 1
theorem restN_len (ds : List UInt8) (m q j : Nat) : (restN ds m q j).length ≤ j := by
  unfold restN; simp only [List.length_append, List.length_take, List.length_replicate, List.length_drop]; omega
theorem slice_one {ds : List UInt8} {i : Nat} (h : i < ds.length) : (ds.take (i + 1)).drop i = [ds.getD i 0] := by
  rw [← List.take_append_getElem h, List.drop_append_of_le_length (by rw [List.length_take]; omega), List.drop_of_length_le (by rw [List.length_take]; omega), List.getD_eq_getElem?_getD, List.getElem?_eq_getElem h]; rfl

def rside_J (neg : Bool) (ds : List UInt8) (e p : Int) (H : Heap) : Nat → Env → Heap → Prop := fun k env H1 => ∃ i : Nat, (i : Int) ≤ max p 0 ∧ env = [(1, .iptr [.bool neg, .str ds, .int .i64 e]), (5, .int .i64 p), (6, .int .i64 (ds.length : Int)), (7, .str (wholeN ds i)), (8, .str []), (9, .int .i64 (i : Int))] ∧ H = H1 ∧ k = p.toNat - i

def rsideR_J (neg : Bool) (ds w : List UInt8) (e p : Int) (H : Heap) : Nat → Env → Heap → Prop := fun k env H1 => ∃ j : Nat, (j : Int) ≤ max ((ds.length : Int) - p) 0 ∧ env = [(1, .iptr [.bool neg, .str ds, .int .i64 e]), (5, .int .i64 p), (6, .int .i64 (ds.length : Int)), (7, .str w), (8, .str (restN ds (-p).toNat p.toNat j)), (10, .int .i64 (p + j))] ∧ H = H1 ∧ k = ((ds.length : Int) - p).toNat - j

set_option maxRecDepth 100000 in
theorem rSides_calls (neg : Bool) (ds : List UInt8) (e : Int) (hr : rightB ds e = true) (H : Heap) : ACall Tryz.prog 78 [dA neg ds e] H (fun y H' => y = .tuple [.str (sidesD ds ((ds.length : Int) + e)).1.1, .str (sidesD ds ((ds.length : Int) + e)).1.2, .bool (sidesD ds ((ds.length : Int) + e)).2] ∧ H' = H) := by
  have hpd := point_of hr
  have hrl := rightB_len hr
  have hdd := right_digs hr
  have hml := maxLen_eq
  generalize hpp : (ds.length : Int) + e = p at *
  refine ACall.of_body Tryz.func78 rfl Tryz.ntmps78 Tryz.results78 rfl ?_
  refine .sr ?_
  refine .e rfl (step_boxI (tm rfl) (.inr ⟨_, rfl⟩)) ?_
  refine .p rfl (pure_assign (ev_str rfl)) ?_
  refine .p rfl (pure_assign (ev_str rfl)) ?_
  refine .p rfl (pure_assign ev_bool) ?_
  refine .nr ?_
  refine .p rfl (pure_loadN Tryz.isAgg48 Tryz.sizeOf48 (tm rfl) (Nat.le_of_ble_eq_true rfl)) ?_
  refine .cl rfl Tryz.call45 (evs1 rfl) (rPoint_calls neg ds e (by omega) _) ?_
  rw [hpd]
  refine .as rfl rfl ?_
  refine .nr ?_
  refine .p rfl (pure_fieldI Tryz.underlying48 rfl Tryz.sizeOf9 (tm rfl)) ?_
  refine .p rfl (pure_load1 Tryz.isAgg9 (tm rfl)) ?_
  refine .p rfl (pure_lenStr Tryz.underlying9 (tm rfl)) ?_
  refine .as rfl rfl ?_
  refine .ng ?_
  refine .seq ?_
  refine AWP.seqTo 27 (.bool (decide ((400 : Int) < p) || (decide ((400 : Int) < (ds.length : Int) - p) && decide ((0 : Int) < (ds.length : Int))))) [1, 2, 3, 4, 5, 6] ?_ ?_
  · -- region 3
    refine .region ?_
    refine .mv rfl rfl ?_
    refine .p rfl (pure_gtr (tm rfl) ev_int) ?_
    refine .mv rfl rfl ?_
    refine bool_casesL (t := 18) rfl (fun hg18 => ?_) (fun hg18 => ?_)
    · have hh18 := hg18; try simp only [decide_eq_true_eq] at hh18
      refine .gn rfl rfl rfl (by assumption) ?_
      refine .gn rfl rfl rfl (by assumption) ?_
      refine .gn rfl rfl rfl (by assumption) ?_
      refine .gn rfl rfl rfl (by assumption) ?_
      refine .gn rfl rfl rfl (by assumption) ?_
      refine AList.gdead rfl rfl rfl ?_
      refine AList.gdead rfl rfl rfl ?_
      refine .gn rfl rfl rfl (by assumption) ?_
      refine .p rfl (pure_pickT (tm rfl) (by assumption) ev_bool) ?_
      refine .nil ?_
      exact ⟨rfl, sub_b rfl (by (rw [show decide ((400 : Int) < p) = _ from hg18]; rfl)) (sub_c rfl (sub_c rfl (sub_c rfl (sub_c rfl (sub_c rfl (sub_c rfl sub_n)))))), rfl⟩
    · have hh18 := hg18; try simp only [decide_eq_false_iff_not, Int.not_lt] at hh18
      refine .gp rfl rfl rfl (by assumption) (pure_move (tm rfl)) ?_
      refine .gp rfl rfl rfl (by assumption) (pure_move (tm rfl)) ?_
      refine .gp rfl rfl rfl (by assumption) (pure_sub (tm rfl) (tm rfl) (by omega)) ?_
      refine .gp rfl rfl rfl (by assumption) (pure_gtr (tm rfl) ev_int) ?_
      refine .gp rfl rfl rfl (by assumption) (pure_move (tm rfl)) ?_
      refine bool_casesL (t := 23) rfl (fun hg23 => ?_) (fun hg23 => ?_)
      · have hh23 := hg23; try simp only [decide_eq_true_eq] at hh23
        refine .gp rfl rfl rfl (by assumption) (pure_move (tm rfl)) ?_
        refine .gp rfl rfl rfl (by assumption) (pure_gtr (tm rfl) ev_int) ?_
        refine .gp rfl rfl rfl (by assumption) (pure_pickT (tm rfl) (by assumption) (tm rfl)) ?_
        refine .p rfl (pure_pickF (tm rfl) (by assumption) (tm rfl)) ?_
        refine .nil ?_
        exact ⟨rfl, sub_b rfl (by (rw [show decide ((400 : Int) < p) = _ from hg18, show decide ((400 : Int) < (ds.length : Int) - p) = _ from hg23]; rfl)) (sub_c rfl (sub_c rfl (sub_c rfl (sub_c rfl (sub_c rfl (sub_c rfl sub_n)))))), rfl⟩
      · have hh23 := hg23; try simp only [decide_eq_false_iff_not, Int.not_lt] at hh23
        refine .gn rfl rfl rfl (by assumption) ?_
        refine .gn rfl rfl rfl (by assumption) ?_
        refine .gp rfl rfl rfl (by assumption) (pure_pickF (tm rfl) (by assumption) ev_bool) ?_
        refine .p rfl (pure_pickF (tm rfl) (by assumption) (tm rfl)) ?_
        refine .nil ?_
        exact ⟨rfl, sub_b rfl (by (rw [show decide ((400 : Int) < p) = _ from hg18, show decide ((400 : Int) < (ds.length : Int) - p) = _ from hg23]; rfl)) (sub_c rfl (sub_c rfl (sub_c rfl (sub_c rfl (sub_c rfl (sub_c rfl sub_n)))))), rfl⟩
  · refine AWP.sub [(27, _), (1, _), (2, _), (3, _), (4, _), (5, _), (6, _)] (sub_c rfl (sub_c rfl (sub_c rfl (sub_c rfl (sub_c rfl (sub_c rfl (sub_c rfl sub_n))))))) ?_
    refine AWP.cond (tm rfl) (fun hc27 => ?_) (fun hc27 => ?_)
    · try simp only [decide_eq_true_eq, decide_eq_false_iff_not, Bool.not_eq_true', Bool.not_eq_false', Int.not_lt, Int.not_le, ne_eq, Decidable.not_not] at hc27
      simp only [Bool.or_eq_true, Bool.and_eq_true, decide_eq_true_eq] at hc27
      refine .sr ?_
      refine .p rfl (pure_assign (ev_str rfl)) ?_
      refine .p rfl (pure_assign (ev_str rfl)) ?_
      refine .p rfl (pure_assign ev_bool) ?_
      refine .ng ?_
      refine .ret ?_
      refine Next.rt ?_
      refine Ret.go (.cons (.tmp _ _ rfl) (.cons (.tmp _ _ rfl) (.cons (.tmp _ _ rfl) .nil))) _ (Heap.le.refl _) ?_
      refine ⟨?_, rfl⟩
      unfold sidesD
      rw [if_pos (by omega)]; rfl
    · try simp only [decide_eq_true_eq, decide_eq_false_iff_not, Bool.not_eq_true', Bool.not_eq_false', Int.not_lt, Int.not_le, ne_eq, Decidable.not_not] at hc27
      simp only [Bool.or_eq_false_iff, Bool.and_eq_false_iff, decide_eq_false_iff_not] at hc27
      have hb4 : ¬ (400 < (ds.length : Int) - p) := by
        intro q
        by_cases hn0 : 0 < ds.length
        · omega
        · have hn1 : ds = [] := List.length_eq_zero_iff.1 (by omega)
          have he := hr
          rw [hn1] at he
          unfold rightB at he
          rw [if_pos rfl] at he
          have := of_decide_eq_true he
          rw [hn1] at hpp q
          simp only [List.length_nil] at hpp q
          omega
      refine .skip ?_
      refine Next.go ?_
      refine .sr ?_
      refine .p rfl (pure_assign (ev_str rfl)) ?_
      refine .nr ?_
      refine .p rfl (pure_assign (ev_str rfl)) ?_
      refine .ng ?_
      refine .seq ?_
      refine .sr ?_
      refine .p rfl (pure_assign ev_int) ?_
      refine .ng ?_
      refine .block ?_
      refine AWP.loopW (rside_J neg ds e p H) (p.toNat) ⟨0, by omega, rfl, rfl, rfl⟩ (sub_c rfl (sub_c rfl (sub_c rfl (sub_e rfl (by unfold wholeN; simp) (sub_c rfl (sub_c rfl sub_n)))))) (Heap.le.refl _) ?_
      rintro _ _ _ ⟨i, hi, rfl, rfl, hk⟩
      refine .seq ?_
      refine .sr ?_
      refine .mv rfl rfl ?_
      refine .mv rfl rfl ?_
      refine .p rfl (pure_lss (tm rfl) (tm rfl)) ?_
      refine .ng ?_
      refine AWP.cond (tm rfl) (fun hc30 => ?_) (fun hc30 => ?_)
      · try simp only [decide_eq_true_eq] at hc30
        refine .skip ?_
        refine Next.go ?_
        refine AWP.seqToL [(7, .str (wholeN ds (i + 1)))] [1, 5, 6, 8, 9, 30] ?_ ?_
        · refine .block ?_
          refine .sr ?_
          refine .mv rfl rfl ?_
          refine .mv rfl rfl ?_
          refine .p rfl (pure_lss (tm rfl) (tm rfl)) ?_
          refine .ng ?_
          refine AWP.cond (tm rfl) (fun hc35 => ?_) (fun hc35 => ?_)
          · try simp only [decide_eq_true_eq] at hc35
            refine .region ?_
            refine .mv rfl rfl ?_
            refine .p rfl (pure_fieldI Tryz.underlying48 rfl Tryz.sizeOf9 (tm rfl)) ?_
            refine .p rfl (pure_load1 Tryz.isAgg9 (tm rfl)) ?_
            refine .mv rfl rfl ?_
            refine .mv rfl rfl ?_
            refine .p rfl (pure_add (tm rfl) ev_int (by omega)) ?_
            refine .p rfl (pure_sliceStr Tryz.underlying9 (tm rfl) (tm rfl) (tm rfl) (by omega) (by omega) (by omega)) ?_
            refine .p rfl (pure_addStr (tm rfl) (tm rfl) (by rw [maxLen_eq, wholeN_len]; simp only [List.length_drop, List.length_take]; omega)) ?_
            refine .as rfl rfl ?_
            refine .nil ?_
            refine Block.go ?_
            exact ⟨rfl, (sub_e rfl (by (rw [show ((i : Int)).toNat = i from rfl, show ((i : Int) + 1).toNat = i + 1 by omega, slice_one (by omega)]; congr 1; exact wholeN_next (by omega))) (sub_c rfl (sub_c rfl (sub_c rfl (sub_c rfl (sub_c rfl (sub_c rfl sub_n))))))), rfl⟩
          · try simp only [decide_eq_false_iff_not, Int.not_lt] at hc35
            refine .region ?_
            refine .mv rfl rfl ?_
            refine .p rfl (pure_addStr (tm rfl) (ev_str rfl) (by rw [maxLen_eq, wholeN_len]; simp only [List.length_cons, List.length_nil]; omega)) ?_
            refine .as rfl rfl ?_
            refine .nil ?_
            refine Block.go ?_
            exact ⟨rfl, (sub_e rfl (by (congr 1; exact wholeN_more (by omega))) (sub_c rfl (sub_c rfl (sub_c rfl (sub_c rfl (sub_c rfl (sub_c rfl sub_n))))))), rfl⟩
        · refine AWP.sub [(7, _), (1, _), (5, _), (6, _), (8, _), (9, _), (30, _)] (sub_c rfl (sub_c rfl (sub_c rfl (sub_c rfl (sub_c rfl (sub_c rfl (sub_c rfl sub_n))))))) ?_
          refine .region ?_
          refine .mv rfl rfl ?_
          refine .p rfl (pure_add (tm rfl) ev_int (by omega)) ?_
          refine .as rfl rfl ?_
          refine .ng ?_
          refine Round.mk (J := rside_J neg ds e p H) ⟨i + 1, by omega, rfl, rfl, rfl⟩ (sub_c rfl (sub_c rfl (sub_c rfl (sub_c rfl (sub_c rfl (sub_c rfl sub_n)))))) (Heap.le.refl _) (by omega)
      · try simp only [decide_eq_false_iff_not, Int.not_lt] at hc30
        refine .exit ?_
        refine Next.ex ?_
        refine Next.ex ?_
        refine Block.hit ?_
        refine Next.go ?_
        refine AWP.seqToL [(7, .str (if p ≤ 0 then [48] else wholeN ds p.toNat))] [1, 5, 6, 8] ?_ ?_
        · refine .sr ?_
          refine .mv rfl rfl ?_
          refine .p rfl (pure_eqlStr (tm rfl) (ev_str rfl)) ?_
          refine .ng ?_
          refine AWP.cond (tm rfl) (fun hc47 => ?_) (fun hc47 => ?_)
          · try simp only [decide_eq_true_eq] at hc47
            refine .region ?_
            refine .p rfl (pure_assign (ev_str rfl)) ?_
            refine .nil ?_
            exact ⟨rfl, (sub_e rfl (by (rw [if_pos (by rcases Int.lt_or_le 0 p with q | q; have := congrArg List.length (show wholeN ds i = [] from hc47); rw [wholeN_len] at this; simp at this; omega; exact q)]; done)) (sub_c rfl (sub_c rfl (sub_c rfl (sub_c rfl sub_n))))), rfl⟩
          · try simp only [decide_eq_false_iff_not] at hc47
            refine .skip ?_
            exact ⟨rfl, (sub_e rfl (by (rw [if_neg (by intro q; exact hc47 (List.length_eq_zero_iff.1 (by rw [wholeN_len]; omega))), show i = p.toNat by omega]; done)) (sub_c rfl (sub_c rfl (sub_c rfl (sub_c rfl sub_n))))), rfl⟩
        · refine AWP.sub [(7, _), (1, _), (5, _), (6, _), (8, _)] (sub_c rfl (sub_c rfl (sub_c rfl (sub_c rfl (sub_c rfl sub_n))))) ?_
          generalize hw : (if p ≤ 0 then [48] else wholeN ds p.toNat) = w at *
          refine .seq ?_
          refine .sr ?_
          refine .mv rfl rfl ?_
          refine .as rfl rfl ?_
          refine .ng ?_
          refine .block ?_
          refine AWP.loopW (rsideR_J neg ds w e p H) (((ds.length : Int) - p).toNat) ⟨0, by omega, rfl, rfl, rfl⟩ (sub_c rfl (sub_c rfl (sub_c rfl (sub_c rfl (sub_e rfl (by unfold restN; simp) (sub_e rfl (by simp) sub_n)))))) (Heap.le.refl _) ?_
          rintro _ _ _ ⟨j, hj, rfl, rfl, hk⟩
          refine .seq ?_
          refine .sr ?_
          refine .mv rfl rfl ?_
          refine .mv rfl rfl ?_
          refine .p rfl (pure_lss (tm rfl) (tm rfl)) ?_
          refine .ng ?_
          refine AWP.cond (tm rfl) (fun hc51 => ?_) (fun hc51 => ?_)
          · try simp only [decide_eq_true_eq] at hc51
            refine .skip ?_
            refine Next.go ?_
            refine AWP.seqToL [(8, .str (restN ds (-p).toNat p.toNat (j + 1)))] [1, 5, 6, 7, 10, 51] ?_ ?_
            · refine .block ?_
              refine .sr ?_
              refine .mv rfl rfl ?_
              refine .p rfl (pure_lss (tm rfl) ev_int) ?_
              refine .ng ?_
              refine AWP.cond (tm rfl) (fun hc55 => ?_) (fun hc55 => ?_)
              · try simp only [decide_eq_true_eq] at hc55
                refine .region ?_
                refine .mv rfl rfl ?_
                refine .p rfl (pure_addStr (tm rfl) (ev_str rfl) (by have := restN_len ds (-p).toNat p.toNat j; rw [maxLen_eq]; simp only [List.length_cons, List.length_nil]; omega)) ?_
                refine .as rfl rfl ?_
                refine .nil ?_
                refine Block.go ?_
                exact ⟨rfl, (sub_e rfl (by (congr 1; exact restN_zero (by omega))) (sub_c rfl (sub_c rfl (sub_c rfl (sub_c rfl (sub_c rfl (sub_c rfl sub_n))))))), rfl⟩
              · try simp only [decide_eq_false_iff_not, Int.not_lt] at hc55
                refine .region ?_
                refine .mv rfl rfl ?_
                refine .p rfl (pure_fieldI Tryz.underlying48 rfl Tryz.sizeOf9 (tm rfl)) ?_
                refine .p rfl (pure_load1 Tryz.isAgg9 (tm rfl)) ?_
                refine .mv rfl rfl ?_
                refine .mv rfl rfl ?_
                refine .p rfl (pure_add (tm rfl) ev_int (by omega)) ?_
                refine .p rfl (pure_sliceStr Tryz.underlying9 (tm rfl) (tm rfl) (tm rfl) (by omega) (by omega) (by omega)) ?_
                refine .p rfl (pure_addStr (tm rfl) (tm rfl) (by have := restN_len ds (-p).toNat p.toNat j; rw [maxLen_eq]; simp only [List.length_drop, List.length_take]; omega)) ?_
                refine .as rfl rfl ?_
                refine .nil ?_
                refine Block.go ?_
                exact ⟨rfl, (sub_e rfl (by (rw [show (p + (j : Int) + 1).toNat = (p + (j : Int)).toNat + 1 by omega, slice_one (by omega)]; congr 1; exact restN_next (by omega) (by omega) (by omega))) (sub_c rfl (sub_c rfl (sub_c rfl (sub_c rfl (sub_c rfl (sub_c rfl sub_n))))))), rfl⟩
            · refine AWP.sub [(8, _), (1, _), (5, _), (6, _), (7, _), (10, _), (51, _)] (sub_c rfl (sub_c rfl (sub_c rfl (sub_c rfl (sub_c rfl (sub_c rfl (sub_c rfl sub_n))))))) ?_
              refine .region ?_
              refine .mv rfl rfl ?_
              refine .p rfl (pure_add (tm rfl) ev_int (by omega)) ?_
              refine .as rfl rfl ?_
              refine .ng ?_
              refine Round.mk (J := rsideR_J neg ds w e p H) ⟨j + 1, by omega, rfl, rfl, rfl⟩ (sub_c rfl (sub_c rfl (sub_c rfl (sub_c rfl (sub_c rfl (sub_e rfl (by congr 1; omega) sub_n)))))) (Heap.le.refl _) (by omega)
          · try simp only [decide_eq_false_iff_not, Int.not_lt] at hc51
            refine .exit ?_
            refine Next.ex ?_
            refine Next.ex ?_
            refine Block.hit ?_
            refine Next.go ?_
            refine .sr ?_
            refine .mv rfl rfl ?_
            refine .mv rfl rfl ?_
            refine .as rfl rfl ?_
            refine .as rfl rfl ?_
            refine .p rfl (pure_assign ev_bool) ?_
            refine .ng ?_
            refine .ret ?_
            refine Ret.go (.cons (.tmp _ _ rfl) (.cons (.tmp _ _ rfl) (.cons (.tmp _ _ rfl) .nil))) _ (Heap.le.refl _) ?_
            refine ⟨?_, rfl⟩
            unfold sidesD
            rw [if_neg (by omega)]
            have hj2 : j = ((ds.length : Int) - p).toNat := by omega
            rw [hj2, ← hw]
            unfold restN wholeN
            by_cases hp0 : p ≤ 0
            · rw [if_pos hp0, if_pos hp0, show p.toNat = 0 by omega, List.drop_zero, Nat.min_eq_right (by omega), List.take_of_length_le (by omega)]; rfl
            · rw [if_neg hp0, if_neg hp0, show (-p).toNat = 0 by omega, Nat.min_eq_right (Nat.zero_le _), Nat.sub_zero, List.replicate_zero, List.nil_append]
              by_cases hp1 : (ds.length : Int) ≤ p
              · rw [if_pos hp1, List.take_of_length_le (by omega), show ((ds.length : Int) - p).toNat = 0 by omega, List.take_zero, show (p - (ds.length : Int)).toNat = p.toNat - ds.length by omega]; rfl
              · rw [if_neg hp1, show p.toNat - ds.length = 0 by omega, List.replicate_zero, List.append_nil, List.take_of_length_le (l := ds.drop p.toNat) (by rw [List.length_drop]; omega)]; rfl

end Go.Proofs.YtfkeflcdadlmdaaGreatDoor

namespace Go.Proofs.YtfkeflcdadlmdaaGreatDoor
open Go Go.RowKit

set_option maxRecDepth 100000 in
theorem rWrite_calls (l : Loc) (hk : l.ok) (neg : Bool) (ds : List UInt8) (e : Int) (hr : rightB ds e = true) (H : Heap) : ACall Tryz.prog 46 [rL l, dA neg ds e, .bool false] H (fun y H' => y = .str (writeD l neg ds ((ds.length : Int) + e)) ∧ H' = H) := by
  have hsl := sides_len (ds := ds) (p := (ds.length : Int) + e) (rightB_len hr).1
  have hml := maxLen_eq
  have hdd := right_digs hr
  have hrl := rightB_len hr
  obtain ⟨hk1, hk2, hk3, hk4, hk5⟩ := hk
  generalize hsv : sidesD ds ((ds.length : Int) + e) = sv at *
  obtain ⟨⟨w, r⟩, ok⟩ := sv
  obtain ⟨hsl1, hsl2⟩ := hsl
  simp only [] at hsl1 hsl2
  refine ACall.of_body Tryz.func46 rfl Tryz.ntmps46 Tryz.results46 rfl ?_
  refine .sr ?_
  refine .e rfl (step_boxI (tm rfl) (.inr ⟨_, rfl⟩)) ?_
  refine .e rfl (step_boxI (tm rfl) (.inr ⟨_, rfl⟩)) ?_
  refine .p rfl (pure_assign (ev_str rfl)) ?_
  refine .nr ?_
  refine .p rfl (pure_loadN Tryz.isAgg48 Tryz.sizeOf48 (tm rfl) (Nat.le_of_ble_eq_true rfl)) ?_
  refine .cl rfl Tryz.call19 (evs1 rfl) (rRight_calls neg ds e (by omega) _) ?_
  rw [hr]
  refine .as rfl rfl ?_
  refine .ng ?_
  refine .seq ?_
  refine .sr ?_
  refine .mv rfl rfl ?_
  refine .p rfl (pure_not (tm rfl)) ?_
  refine .ng ?_
  refine AWP.cond_false (tm rfl) (by rfl) ?_
  refine .skip ?_
  refine Next.go ?_
  refine .sr ?_
  refine .p rfl (pure_loadN Tryz.isAgg48 Tryz.sizeOf48 (tm rfl) (Nat.le_of_ble_eq_true rfl)) ?_
  refine .cl rfl Tryz.call78 (evs1 rfl) (rSides_calls neg ds e hr _) ?_
  rw [hsv]
  dsimp only
  refine .mv rfl rfl ?_
  refine .p rfl (pure_extract (tm rfl) rfl) ?_
  refine .p rfl (pure_extract (tm rfl) rfl) ?_
  refine .p rfl (pure_extract (tm rfl) rfl) ?_
  refine .as rfl rfl ?_
  refine .as rfl rfl ?_
  refine .as rfl rfl ?_
  refine .ng ?_
  refine .seq ?_
  refine .sr ?_
  refine .mv rfl rfl ?_
  refine .p rfl (pure_not (tm rfl)) ?_
  refine .ng ?_
  refine AWP.cond (tm rfl) (fun hc23 => ?_) (fun hc23 => ?_)
  · try simp only [Bool.not_eq_true'] at hc23
    refine .sr ?_
    refine .p rfl (pure_assign (ev_str rfl)) ?_
    refine .ng ?_
    refine .ret ?_
    refine Next.rt ?_
    refine Ret.go (.cons (.tmp _ _ rfl) .nil) _ (Heap.le.refl _) ?_
    refine ⟨?_, rfl⟩
    unfold writeD
    rw [hsv]
    simp only []
    rw [if_neg (show ¬ ok = true by simpa using hc23)]; rfl
  · try simp only [Bool.not_eq_false'] at hc23
    refine .skip ?_
    refine Next.go ?_
    refine .sr ?_
    refine .p rfl (pure_assign (ev_str rfl)) ?_
    refine .ng ?_
    refine AWP.seqToL [(11, .str (if neg = true then l.minus else []))] [2, 3, 6, 8, 9] ?_ ?_
    · refine .sr ?_
      refine .p rfl (pure_fieldI Tryz.underlying48 rfl Tryz.sizeOf4 (tm rfl)) ?_
      refine .p rfl (pure_load1 Tryz.isAgg4 (tm rfl)) ?_
      refine .ng ?_
      refine AWP.cond (tm rfl) (fun hc25 => ?_) (fun hc25 => ?_)
      · try simp only [decide_eq_true_eq, decide_eq_false_iff_not, Bool.not_eq_true', Bool.not_eq_false', Int.not_lt, Int.not_le, ne_eq, Decidable.not_not] at hc25
        refine .region ?_
        refine .p rfl (pure_fieldI Tryz.underlying27 rfl Tryz.sizeOf9 (tm rfl)) ?_
        refine .p rfl (pure_load1 Tryz.isAgg9 (tm rfl)) ?_
        refine .as rfl rfl ?_
        refine .nil ?_
        exact ⟨rfl, (sub_e rfl (by (rw [if_pos (by assumption)]; done)) (sub_c rfl (sub_c rfl (sub_c rfl (sub_c rfl (sub_c rfl sub_n)))))), rfl⟩
      · try simp only [decide_eq_true_eq, decide_eq_false_iff_not, Bool.not_eq_true', Bool.not_eq_false', Int.not_lt, Int.not_le, ne_eq, Decidable.not_not] at hc25
        refine .skip ?_
        exact ⟨rfl, (sub_e rfl (by (rw [if_neg (by (rw [hc25]; decide))]; done)) (sub_c rfl (sub_c rfl (sub_c rfl (sub_c rfl (sub_c rfl sub_n)))))), rfl⟩
    · refine AWP.sub [(11, _), (2, _), (3, _), (6, _), (8, _), (9, _)] (sub_c rfl (sub_c rfl (sub_c rfl (sub_c rfl (sub_c rfl (sub_c rfl sub_n)))))) ?_
      have hmw : (if neg = true then l.minus else []).length ≤ 10 := by split <;> first | omega | (simp; done)
      refine .seq ?_
      refine .sr ?_
      refine .mv rfl rfl ?_
      refine .ng ?_
      refine AWP.cond_false (tm rfl) (by rfl) ?_
      refine .skip ?_
      refine Next.go ?_
      refine .sr ?_
      refine .mv rfl rfl ?_
      refine .mv rfl rfl ?_
      refine .p rfl (pure_addStr (tm rfl) (tm rfl) (by rw [maxLen_eq]; omega)) ?_
      refine .as rfl rfl ?_
      refine .ng ?_
      refine .seq ?_
      refine .sr ?_
      refine .mv rfl rfl ?_
      refine .p rfl (pure_neqStr (tm rfl) (ev_str rfl)) ?_
      refine .ng ?_
      refine AWP.cond (tm rfl) (fun hc36 => ?_) (fun hc36 => ?_)
      · try simp only [decide_eq_false_iff_not, Bool.not_eq_true'] at hc36
        refine .region ?_
        refine .mv rfl rfl ?_
        refine .p rfl (pure_fieldI Tryz.underlying27 rfl Tryz.sizeOf9 (tm rfl)) ?_
        refine .p rfl (pure_load1 Tryz.isAgg9 (tm rfl)) ?_
        refine .p rfl (pure_addStr (tm rfl) (tm rfl) (by rw [maxLen_eq, List.length_append]; omega)) ?_
        refine .mv rfl rfl ?_
        refine .p rfl (pure_addStr (tm rfl) (tm rfl) (by rw [maxLen_eq, List.length_append, List.length_append]; omega)) ?_
        refine .as rfl rfl ?_
        refine .nr ?_
        refine .mv rfl rfl ?_
        refine .as rfl rfl ?_
        refine .ng ?_
        refine .ret ?_
        refine Ret.go (.cons (.tmp _ _ rfl) .nil) _ (Heap.le.refl _) ?_
        refine ⟨?_, rfl⟩
        unfold writeD
        rw [hsv]
        simp only []
        rw [if_pos (show ok = true by simpa using hc23), if_neg (show ¬ r = [] by simpa using hc36), List.append_assoc, List.append_assoc]; rfl
      · try simp only [decide_eq_true_eq, Bool.not_eq_false'] at hc36
        refine .skip ?_
        refine Next.go ?_
        refine .sr ?_
        refine .mv rfl rfl ?_
        refine .as rfl rfl ?_
        refine .ng ?_
        refine .ret ?_
        refine Ret.go (.cons (.tmp _ _ rfl) .nil) _ (Heap.le.refl _) ?_
        refine ⟨?_, rfl⟩
        unfold writeD
        rw [hsv]
        simp only []
        rw [if_pos (show ok = true by simpa using hc23), if_pos (show r = [] by simpa using hc36), List.append_nil]; rfl

theorem digit_piece {n : Nat} (h : n < 10) : ((([48, 49, 50, 51, 52, 53, 54, 55, 56, 57] : List UInt8).take (n + 1)).drop n) = dec n := by
  rw [dec_lt h]
  have : n = 0 ∨ n = 1 ∨ n = 2 ∨ n = 3 ∨ n = 4 ∨ n = 5 ∨ n = 6 ∨ n = 7 ∨ n = 8 ∨ n = 9 := by omega
  rcases this with rfl | rfl | rfl | rfl | rfl | rfl | rfl | rfl | rfl | rfl <;> rfl

set_option maxRecDepth 100000 in
theorem rnumber_step (n : Nat) (hn : n ≤ 1000000000) (ih : ∀ m, m < n → ∀ H, ACall Tryz.prog 47 [.int .i64 (m : Int)] H (fun y H' => y = .str (dec m) ∧ H' = H)) (H : Heap) : ACall Tryz.prog 47 [.int .i64 (n : Int)] H (fun y H' => y = .str (dec n) ∧ H' = H) := by
  have hml := maxLen_eq
  have hl1 := (dec_len (n := n / 10) (k := 10) (by decide)).2 (by omega)
  have hl2 := (dec_len (n := n % 10) (k := 10) (by decide)).2 (by omega)
  refine ACall.of_body Tryz.func47 rfl Tryz.ntmps47 Tryz.results47 rfl ?_
  refine .sr ?_
  refine .p rfl (pure_assign (ev_str rfl)) ?_
  refine .ng ?_
  refine .seq ?_
  refine .sr ?_
  refine .mv rfl rfl ?_
  refine .p rfl (pure_lss (tm rfl) (ev_nat 10)) ?_
  refine .ng ?_
  refine AWP.cond (tm rfl) (fun hc4 => ?_) (fun hc4 => ?_)
  · try simp only [decide_eq_true_eq] at hc4
    refine .sr ?_
    refine .mv rfl rfl ?_
    refine .mv rfl rfl ?_
    refine .p rfl (pure_add (tm rfl) (ev_nat 1) (by omega)) ?_
    refine .p rfl (pure_sliceStr Tryz.underlying9 (ev_str rfl) (tm rfl) (tm rfl) (by omega) (by omega) (by simp only [List.length_cons, List.length_nil]; omega)) ?_
    refine .as rfl rfl ?_
    refine .ng ?_
    refine .ret ?_
    refine Next.rt ?_
    refine Ret.go (.cons (.tmp _ _ rfl) .nil) _ (Heap.le.refl _) ?_
    refine ⟨?_, rfl⟩
    rw [← digit_piece (show n < 10 by omega)]; rfl
  · try simp only [decide_eq_false_iff_not, Int.not_lt] at hc4
    refine .skip ?_
    refine Next.go ?_
    refine .sr ?_
    refine .mv rfl rfl ?_
    refine .p rfl (pure_quoI64 (tm rfl) (ev_nat 10) (by omega) (by omega)) ?_
    refine .cl rfl Tryz.call47 (evs1 rfl) (ih (n / 10) (by omega) _) ?_
    refine .mv rfl rfl ?_
    refine .p rfl (pure_remI64 (tm rfl) (ev_nat 10) (by omega)) ?_
    refine .cl rfl Tryz.call47 (evs1 rfl) (ih (n % 10) (by omega) _) ?_
    refine .p rfl (pure_addStr (tm rfl) (tm rfl) (by rw [maxLen_eq]; omega)) ?_
    refine .as rfl rfl ?_
    refine .ng ?_
    refine .ret ?_
    refine Ret.go (.cons (.tmp _ _ rfl) .nil) _ (Heap.le.refl _) ?_
    refine ⟨?_, rfl⟩
    rw [dec_ge (show 10 ≤ n by omega), dec_lt (Nat.mod_lt n (by decide))]; rfl

theorem rnumber_calls (n : Nat) (hn : n ≤ 1000000000) (H : Heap) : ACall Tryz.prog 47 [.int .i64 (n : Int)] H (fun y H' => y = .str (dec n) ∧ H' = H) := by
  induction n using Nat.strongRecOn generalizing H with
  | ind n ih => exact rnumber_step n hn (fun m hm H => ih m hm (by omega) H) H
theorem rnumberZ (q : Int) (n : Nat) (hq : q = (n : Int)) (hn : n ≤ 1000000000) (H : Heap) : ACall Tryz.prog 47 [.int .i64 q] H (fun y H' => y = .str (dec n) ∧ H' = H) := by
  subst hq; exact rnumber_calls n hn H
theorem itoaZ (q : Int) (n : Nat) (hq : q = (n : Int)) (hn : n ≤ 9223372036854775807) (H : Heap) : ACall Tryz.prog 44 [.int .i64 q] H (fun y H' => y = .str (dec n) ∧ H' = H) := by
  subst hq; exact itoaA n hn H
def mantD (l : Loc) (neg : Bool) (ds : List UInt8) : List UInt8 := (if neg = true then l.minus else []) ++ ds.take 1 ++ (if (1 : Int) < (ds.length : Int) then l.dc ++ ds.drop 1 else [])
def expN (p : Int) : Nat := (if p < 1 then 1 - p else p - 1).toNat
def genD (l : Loc) (s : (Bool × List UInt8 × Int) × Int) : List UInt8 :=
  if s.2 ≠ 0 then []
  else if s.1.2.1 = [] ∨ (-4 ≤ (s.1.2.1.length : Int) + s.1.2.2 ∧ (s.1.2.1.length : Int) + s.1.2.2 ≤ 15) then writeD l s.1.1 s.1.2.1 ((s.1.2.1.length : Int) + s.1.2.2)
  else mantD l s.1.1 s.1.2.1 ++ [69] ++ [if (s.1.2.1.length : Int) + s.1.2.2 < 1 then 45 else 43] ++ (if (dec (expN ((s.1.2.1.length : Int) + s.1.2.2))).length < 2 then [48] else []) ++ dec (expN ((s.1.2.1.length : Int) + s.1.2.2))
theorem write_one {l : Loc} {neg : Bool} {ds : List UInt8} (h : ds ≠ []) (hl : ds.length ≤ 300) : writeD l neg ds 1 = mantD l neg ds := by
  have hp := List.length_pos_iff.2 h
  unfold writeD mantD sidesD
  rw [if_neg (show ¬ ((400 : Int) < 1 ∨ 400 < (ds.length : Int) - 1) by omega), if_neg (show ¬ (1 : Int) ≤ 0 by decide)]
  by_cases h1 : (ds.length : Int) ≤ 1
  · rw [if_pos h1, if_neg (show ¬ (1 : Int) < (ds.length : Int) by omega), List.take_of_length_le (show ds.length ≤ 1 by omega)]
    rw [show ((1 : Int) - (ds.length : Int)).toNat = 0 by omega]
    simp
  · rw [if_neg h1, if_pos (show (1 : Int) < (ds.length : Int) by omega)]
    have hd : ds.drop 1 ≠ [] := fun q => by have := congrArg List.length q; rw [List.length_drop] at this; simp only [List.length_nil] at this; omega
    show (if true = true then _ ++ (ds.take 1 ++ (if ds.drop 1 = [] then [] else l.dc ++ ds.drop 1)) else []) = _
    rw [if_pos rfl, if_neg hd, List.append_assoc]
theorem dec_two {n : Nat} : (dec n).length < 2 ↔ n < 10 := by
  have := dec_len (n := n) (k := 1) (by decide)
  rw [Nat.pow_one] at this
  omega
theorem sigX_right (x n : Nat) : rightB (sigX x n).1.2.1 (sigX x n).1.2.2 = true := by
  unfold sigX
  split
  · rfl
  · unfold sigD
    split
    · exact decX_right x
    · unfold cutD
      have hd := right_digs (decX_right x)
      exact mk_right (by split; exact incD_digs (hd.take _); exact hd.take _)
theorem mk_len (neg : Bool) (ds : List UInt8) (e : Int) : (mkN neg ds e).1.2.1.length ≤ ds.length := by
  have h : (coreD ds).length ≤ ds.length := Nat.le_trans (trimR_len _ _) (dropW_len _ _)
  unfold mkN
  split
  · simp
  · split
    · exact h
    · simp
theorem sigX_len (x n : Nat) : (sigX x n).1.2.1.length ≤ n + 1 := by
  unfold sigX
  split
  · simp
  · unfold sigD
    split
    · rename_i h; exact Nat.le_succ_of_le h
    · unfold cutD
      refine Nat.le_trans (mk_len _ _ _) ?_
      split
      · refine Nat.le_trans (incD_len _) ?_
        rw [List.length_take]; omega
      · rw [List.length_take]; omega

set_option maxRecDepth 100000 in
theorem General_calls (l : Loc) (hk : l.ok) (sz : AV) (x : Nat) (hx : x < 18446744073709551616) (H : Heap) : ACall Tryz.prog 14 [.int .u64 (x : Int), pL l sz] H (fun y H' => y = .str (genD l (sigX x 15)) ∧ H' = H) := by
  have hsr := sigX_right x 15
  have hsl := sigX_len x 15
  generalize hs : sigX x 15 = s at *
  obtain ⟨⟨neg, ds, e⟩, er⟩ := s
  dsimp only at hsr hsl
  have hml := maxLen_eq
  have hrl := rightB_len hsr
  have hdd := right_digs hsr
  have hpd := point_of hsr
  have hwl := write_len (l := l) (neg := neg) (ds := ds) (p := (ds.length : Int) + e) (by omega) hk
  have hkk := hk
  obtain ⟨hk1, hk2, hk3, hk4, hk5⟩ := hkk
  have hel : (dec (expN ((ds.length : Int) + e))).length ≤ 10 := (dec_len (by decide)).2 (by unfold expN; split <;> omega)
  have hmn : (mantD l neg ds).length ≤ 200 := by
    unfold mantD
    have a1 : (if neg = true then l.minus else []).length ≤ 10 := by split <;> first | omega | (simp; done)
    have a2 : (if (1 : Int) < (ds.length : Int) then l.dc ++ ds.drop 1 else []).length ≤ 110 := by split <;> simp only [List.length_append, List.length_drop, List.length_nil] <;> omega
    simp only [List.length_append, List.length_take]; omega
  have hzl : (if (dec (expN ((ds.length : Int) + e))).length < 2 then ([48] : List UInt8) else []).length ≤ 1 := by split <;> simp
  refine ACall.of_body Tryz.func14 rfl Tryz.ntmps14 Tryz.results14 rfl ?_
  refine .sr ?_
  refine .e rfl (step_boxI (tm rfl) (.inr ⟨_, rfl⟩)) ?_
  refine .p rfl (pure_assign (ev_str rfl)) ?_
  refine .nr ?_
  refine .mv rfl rfl ?_
  refine .cl rfl Tryz.call42 (.cons (tm rfl) (.cons ev_int (.cons ev_int .nil))) (xSig_calls x hx 15 (by decide) (by decide) _) ?_
  rw [hs]
  unfold dT
  dsimp only
  refine .mv rfl rfl ?_
  refine .p rfl (pure_extract (tm rfl) rfl) ?_
  refine .p rfl (pure_extract (tm rfl) rfl) ?_
  refine .s rfl (step_alloc Tryz.zeroValue48 (zr48)) ?_
  rintro _ _ ⟨b5, hb5, rfl, hH⟩
  obtain rfl := hH.symm
  refine .e0 (step_store Tryz.sizeOf48 (tm rfl) (tm rfl) rfl rfl (.inr ⟨_, rfl⟩) (Heap.objs_set_same _ _ _) (Nat.le_of_ble_eq_true rfl)) ?_
  try first | rw [Heap.set_set] | rw [Heap.set_under (by assumption)]
  refine .as rfl rfl ?_
  refine .ng ?_
  refine AWP.frz (t := 5) rfl (hb5) ?_
  refine .seq ?_
  refine .sr ?_
  refine .mv rfl rfl ?_
  refine .p rfl (pure_neq (tm rfl) ev_int) ?_
  refine .ng ?_
  refine AWP.cond (tm rfl) (fun hc16 => ?_) (fun hc16 => ?_)
  · try simp only [decide_eq_true_eq, ne_eq] at hc16
    refine .sr ?_
    refine .p rfl (pure_assign (ev_str rfl)) ?_
    refine .ng ?_
    refine .ret ?_
    refine Next.rt ?_
    refine Ret.go (.cons (.tmp _ _ rfl) .nil) _ (Heap.le.refl _) ?_
    refine ⟨?_, rfl⟩
    unfold genD
    dsimp only
    rw [if_pos (show er ≠ 0 by simpa using hc16)]; rfl
  · try simp only [decide_eq_false_iff_not, ne_eq, Decidable.not_not] at hc16
    have her : er = 0 := by simpa using hc16
    subst her
    refine .skip ?_
    refine Next.go ?_
    refine .sr ?_
    refine .p rfl (pure_loadN Tryz.isAgg48 Tryz.sizeOf48 (tm rfl) (Nat.le_of_ble_eq_true rfl)) ?_
    refine .cl rfl Tryz.call43 (evs1 rfl) (Point_calls neg ds e hdd _) ?_
    rw [hpd]
    refine .as rfl rfl ?_
    refine .ng ?_
    refine .seq ?_
    refine AWP.seqTo 29 (.bool (decide (ds = []) || (decide (-4 ≤ ((ds.length : Int) + e)) && decide (((ds.length : Int) + e) ≤ 15)))) [3, 4, 5, 7] ?_ ?_
    · -- region 5
      refine .region ?_
      refine .p rfl (pure_fieldI Tryz.underlying48 rfl Tryz.sizeOf9 (tm rfl)) ?_
      refine .p rfl (pure_load1 Tryz.isAgg9 (tm rfl)) ?_
      refine .p rfl (pure_eqlStr (tm rfl) (ev_str rfl)) ?_
      refine .mv rfl rfl ?_
      refine bool_casesL (t := 22) rfl (fun hg22 => ?_) (fun hg22 => ?_)
      · have hh22 := hg22; try simp only [decide_eq_true_eq] at hh22
        refine .gn rfl rfl rfl (by assumption) ?_
        refine .gn rfl rfl rfl (by assumption) ?_
        refine .gn rfl rfl rfl (by assumption) ?_
        refine AList.gdead rfl rfl rfl ?_
        refine AList.gdead rfl rfl rfl ?_
        refine .gn rfl rfl rfl (by assumption) ?_
        refine .p rfl (pure_pickT (tm rfl) (by assumption) ev_bool) ?_
        refine .nil ?_
        exact ⟨rfl, sub_b rfl (by (rw [show decide (ds = []) = _ from hg22]; rfl)) (sub_c rfl (sub_c rfl (sub_c rfl (sub_c rfl sub_n)))), rfl⟩
      · have hh22 := hg22; try simp only [decide_eq_false_iff_not] at hh22
        refine .gp rfl rfl rfl (by assumption) (pure_move (tm rfl)) ?_
        refine .gp rfl rfl rfl (by assumption) (pure_geq (tm rfl) ev_int) ?_
        refine .gp rfl rfl rfl (by assumption) (pure_move (tm rfl)) ?_
        refine bool_casesL (t := 25) rfl (fun hg25 => ?_) (fun hg25 => ?_)
        · have hh25 := hg25; try simp only [decide_eq_true_eq] at hh25
          refine .gp rfl rfl rfl (by assumption) (pure_move (tm rfl)) ?_
          refine .gp rfl rfl rfl (by assumption) (pure_leq (tm rfl) ev_int) ?_
          refine .gp rfl rfl rfl (by assumption) (pure_pickT (tm rfl) (by assumption) (tm rfl)) ?_
          refine .p rfl (pure_pickF (tm rfl) (by assumption) (tm rfl)) ?_
          refine .nil ?_
          exact ⟨rfl, sub_b rfl (by (rw [show decide (ds = []) = _ from hg22, show decide (-4 ≤ ((ds.length : Int) + e)) = _ from hg25]; rfl)) (sub_c rfl (sub_c rfl (sub_c rfl (sub_c rfl sub_n)))), rfl⟩
        · have hh25 := hg25; try simp only [decide_eq_false_iff_not, Int.not_le] at hh25
          refine .gn rfl rfl rfl (by assumption) ?_
          refine .gn rfl rfl rfl (by assumption) ?_
          refine .gp rfl rfl rfl (by assumption) (pure_pickF (tm rfl) (by assumption) ev_bool) ?_
          refine .p rfl (pure_pickF (tm rfl) (by assumption) (tm rfl)) ?_
          refine .nil ?_
          exact ⟨rfl, sub_b rfl (by (rw [show decide (ds = []) = _ from hg22, show decide (-4 ≤ ((ds.length : Int) + e)) = _ from hg25]; rfl)) (sub_c rfl (sub_c rfl (sub_c rfl (sub_c rfl sub_n)))), rfl⟩
    · refine AWP.sub [(29, _), (3, _), (4, _), (5, _), (7, _)] (sub_c rfl (sub_c rfl (sub_c rfl (sub_c rfl (sub_c rfl sub_n))))) ?_
      refine AWP.cond (tm rfl) (fun hc29 => ?_) (fun hc29 => ?_)
      · try simp only [decide_eq_true_eq, decide_eq_false_iff_not, Bool.not_eq_true', Bool.not_eq_false', Int.not_lt, Int.not_le, ne_eq, Decidable.not_not] at hc29
        simp only [Bool.or_eq_true, Bool.and_eq_true, decide_eq_true_eq] at hc29
        refine .sr ?_
        refine .p rfl (pure_loadN Tryz.isAgg25 Tryz.sizeOf25 (tm rfl) (Nat.le_of_ble_eq_true rfl)) ?_
        refine .p rfl (pure_loadN Tryz.isAgg48 Tryz.sizeOf48 (tm rfl) (Nat.le_of_ble_eq_true rfl)) ?_
        refine .cl rfl Tryz.call20 (.cons (tm rfl) (.cons (tm rfl) (.cons ev_bool .nil))) (Write_calls l hk sz neg ds e hsr _) ?_
        refine .as rfl rfl ?_
        refine .ng ?_
        refine .ret ?_
        refine Next.rt ?_
        refine Ret.go (.cons (.tmp _ _ rfl) .nil) _ (Heap.le.refl _) ?_
        refine ⟨?_, rfl⟩
        unfold genD
        dsimp only
        rw [if_neg (show ¬ ((0 : Int) ≠ 0) by simp), if_pos hc29]; rfl
      · try simp only [decide_eq_true_eq, decide_eq_false_iff_not, Bool.not_eq_true', Bool.not_eq_false', Int.not_lt, Int.not_le, ne_eq, Decidable.not_not] at hc29
        simp only [Bool.or_eq_false_iff, Bool.and_eq_false_iff, decide_eq_false_iff_not] at hc29
        have hdn : ds ≠ [] := hc29.1
        have hdp := List.length_pos_iff.2 hdn
        have hr1 : rightB ds (1 - (ds.length : Int)) = true := by
          have h := hsr
          rw [rightC_eq hdn] at h ⊢
          unfold rightC at h ⊢
          simp only [Bool.and_eq_true, decide_eq_true_eq] at h ⊢
          refine ⟨⟨⟨⟨⟨h.1.1.1.1.1, by omega⟩, by omega⟩, h.1.1.2⟩, h.1.2⟩, h.2⟩
        refine .skip ?_
        refine Next.go ?_
        refine .sr ?_
        refine .p rfl (pure_loadN Tryz.isAgg25 Tryz.sizeOf25 (tm rfl) (Nat.le_of_ble_eq_true rfl)) ?_
        refine .p rfl (pure_fieldI Tryz.underlying48 rfl Tryz.sizeOf4 (tm rfl)) ?_
        refine .p rfl (pure_load1 Tryz.isAgg4 (tm rfl)) ?_
        refine .p rfl (pure_fieldI Tryz.underlying48 rfl Tryz.sizeOf9 (tm rfl)) ?_
        refine .p rfl (pure_load1 Tryz.isAgg9 (tm rfl)) ?_
        refine .p rfl (pure_fieldI Tryz.underlying48 rfl Tryz.sizeOf9 (tm rfl)) ?_
        refine .p rfl (pure_load1 Tryz.isAgg9 (tm rfl)) ?_
        refine .p rfl (pure_lenStr Tryz.underlying9 (tm rfl)) ?_
        refine .p rfl (pure_sub ev_int (tm rfl) (by omega)) ?_
        refine .p rfl (pure_build [(0, 1), (1, 1), (2, 1)] Tryz.underlying48 Tryz.zeroValue48 (zr48) rfl (pl48 _ Tryz.underlying48) (.cons (tm rfl) (.inl rfl) (.cons (tm rfl) (.inl rfl) (.cons (tm rfl) (.inl rfl) .nil))) rfl) ?_
        refine .cl rfl Tryz.call20 (.cons (tm rfl) (.cons (tm rfl) (.cons ev_bool .nil))) (Write_calls l hk sz neg ds (1 - (ds.length : Int)) hr1 _) ?_
        rw [show (ds.length : Int) + (1 - (ds.length : Int)) = 1 by omega, write_one hdn (by omega)]
        refine .p rfl (pure_addStr (tm rfl) (ev_str rfl) (by rw [maxLen_eq]; simp only [List.length_cons, List.length_nil]; omega)) ?_
        refine .as rfl rfl ?_
        refine .nr ?_
        refine .mv rfl rfl ?_
        refine .p rfl (pure_sub (tm rfl) ev_int (by omega)) ?_
        refine .mv rfl rfl ?_
        refine .p rfl (pure_sub ev_int (tm rfl) (by omega)) ?_
        refine .p rfl (pure_max2 (tm rfl) (tm rfl)) ?_
        refine .cl rfl Tryz.call44 (evs1 rfl) (itoaZ _ (expN ((ds.length : Int) + e)) (by unfold expN; simp only [imax]; split <;> split <;> omega) (by unfold expN; split <;> omega) _) ?_
        refine .as rfl rfl ?_
        refine .ng ?_
        refine AWP.seqToL [(8, .str (mantD l neg ds ++ [69] ++ [if ((ds.length : Int) + e) < 1 then 45 else 43]))] [4, 9] ?_ ?_
        · refine .sr ?_
          refine .mv rfl rfl ?_
          refine .p rfl (pure_lss (tm rfl) ev_int) ?_
          refine .ng ?_
          refine AWP.cond (tm rfl) (fun hc52 => ?_) (fun hc52 => ?_)
          · try simp only [decide_eq_true_eq] at hc52
            refine .region ?_
            refine .mv rfl rfl ?_
            refine .p rfl (pure_addStr (tm rfl) (ev_str rfl) (by rw [maxLen_eq]; simp only [List.length_append, List.length_cons, List.length_nil]; omega)) ?_
            refine .as rfl rfl ?_
            refine .nil ?_
            exact ⟨rfl, (sub_e rfl (by (rw [if_pos (by assumption)]; done)) (sub_c rfl (sub_c rfl sub_n))), rfl⟩
          · try simp only [decide_eq_false_iff_not, Int.not_lt] at hc52
            refine .region ?_
            refine .mv rfl rfl ?_
            refine .p rfl (pure_addStr (tm rfl) (ev_str rfl) (by rw [maxLen_eq]; simp only [List.length_append, List.length_cons, List.length_nil]; omega)) ?_
            refine .as rfl rfl ?_
            refine .nil ?_
            exact ⟨rfl, (sub_e rfl (by (rw [if_neg (by omega)]; done)) (sub_c rfl (sub_c rfl sub_n))), rfl⟩
        · refine AWP.sub [(8, _), (4, _), (9, _)] (sub_c rfl (sub_c rfl (sub_c rfl sub_n))) ?_
          refine AWP.seqToL [(8, .str (mantD l neg ds ++ [69] ++ [if ((ds.length : Int) + e) < 1 then 45 else 43] ++ (if (dec (expN ((ds.length : Int) + e))).length < 2 then ([48] : List UInt8) else [])))] [4, 9] ?_ ?_
          · refine .sr ?_
            refine .mv rfl rfl ?_
            refine .p rfl (pure_lenStr Tryz.underlying9 (tm rfl)) ?_
            refine .p rfl (pure_lss (tm rfl) ev_int) ?_
            refine .ng ?_
            refine AWP.cond (tm rfl) (fun hc59 => ?_) (fun hc59 => ?_)
            · try simp only [decide_eq_true_eq] at hc59
              refine .region ?_
              refine .mv rfl rfl ?_
              refine .p rfl (pure_addStr (tm rfl) (ev_str rfl) (by rw [maxLen_eq]; simp only [List.length_append, List.length_cons, List.length_nil]; omega)) ?_
              refine .as rfl rfl ?_
              refine .nil ?_
              exact ⟨rfl, (sub_e rfl (by (rw [if_pos (show (dec (expN ((ds.length : Int) + e))).length < 2 by omega)]; done)) (sub_c rfl (sub_c rfl sub_n))), rfl⟩
            · try simp only [decide_eq_false_iff_not, Int.not_lt] at hc59
              refine .skip ?_
              exact ⟨rfl, (sub_e rfl (by (rw [if_neg (show ¬ (dec (expN ((ds.length : Int) + e))).length < 2 by omega), List.append_nil]; done)) (sub_c rfl (sub_c rfl sub_n))), rfl⟩
          · refine AWP.sub [(8, _), (4, _), (9, _)] (sub_c rfl (sub_c rfl (sub_c rfl sub_n))) ?_
            refine .sr ?_
            refine .mv rfl rfl ?_
            refine .mv rfl rfl ?_
            refine .p rfl (pure_addStr (tm rfl) (tm rfl) (by rw [maxLen_eq]; simp only [List.length_append, List.length_cons, List.length_nil]; omega)) ?_
            refine .as rfl rfl ?_
            refine .ng ?_
            refine .ret ?_
            refine Ret.go (.cons (.tmp _ _ rfl) .nil) _ (Heap.le.refl _) ?_
            refine ⟨?_, rfl⟩
            unfold genD
            dsimp only
            rw [if_neg (show ¬ ((0 : Int) ≠ 0) by simp), if_neg (show ¬ (ds = [] ∨ (-4 ≤ ((ds.length : Int) + e) ∧ ((ds.length : Int) + e) ≤ 15)) by rintro (q | q); exact hdn q; omega)]; rfl

set_option maxRecDepth 100000 in
theorem rGeneral_calls (l : Loc) (hk : l.ok) (x : Nat) (hx : x < 18446744073709551616) (H : Heap) : ACall Tryz.prog 15 [.int .u64 (x : Int), rL l] H (fun y H' => y = .str (genD l (sigX x 15)) ∧ H' = H) := by
  have hsr := sigX_right x 15
  have hsl := sigX_len x 15
  generalize hs : sigX x 15 = s at *
  obtain ⟨⟨neg, ds, e⟩, er⟩ := s
  dsimp only at hsr hsl
  have hml := maxLen_eq
  have hrl := rightB_len hsr
  have hdd := right_digs hsr
  have hpd := point_of hsr
  have hwl := write_len (l := l) (neg := neg) (ds := ds) (p := (ds.length : Int) + e) (by omega) hk
  have hkk := hk
  obtain ⟨hk1, hk2, hk3, hk4, hk5⟩ := hkk
  have hel : (dec (expN ((ds.length : Int) + e))).length ≤ 10 := (dec_len (by decide)).2 (by unfold expN; split <;> omega)
  have hmn : (mantD l neg ds).length ≤ 200 := by
    unfold mantD
    have a1 : (if neg = true then l.minus else []).length ≤ 10 := by split <;> first | omega | (simp; done)
    have a2 : (if (1 : Int) < (ds.length : Int) then l.dc ++ ds.drop 1 else []).length ≤ 110 := by split <;> simp only [List.length_append, List.length_drop, List.length_nil] <;> omega
    simp only [List.length_append, List.length_take]; omega
  have hzl : (if (dec (expN ((ds.length : Int) + e))).length < 2 then ([48] : List UInt8) else []).length ≤ 1 := by split <;> simp
  refine ACall.of_body Tryz.func15 rfl Tryz.ntmps15 Tryz.results15 rfl ?_
  refine .sr ?_
  refine .e rfl (step_boxI (tm rfl) (.inr ⟨_, rfl⟩)) ?_
  refine .p rfl (pure_assign (ev_str rfl)) ?_
  refine .nr ?_
  refine .mv rfl rfl ?_
  refine .cl rfl Tryz.call17 (.cons (tm rfl) (.cons ev_int (.cons ev_int .nil))) (rxSig_calls x hx 15 (by decide) (by decide) _) ?_
  rw [hs]
  unfold dT
  dsimp only
  refine .mv rfl rfl ?_
  refine .p rfl (pure_extract (tm rfl) rfl) ?_
  refine .p rfl (pure_extract (tm rfl) rfl) ?_
  refine .s rfl (step_alloc Tryz.zeroValue48 (zr48)) ?_
  rintro _ _ ⟨b5, hb5, rfl, hH⟩
  obtain rfl := hH.symm
  refine .e0 (step_store Tryz.sizeOf48 (tm rfl) (tm rfl) rfl rfl (.inr ⟨_, rfl⟩) (Heap.objs_set_same _ _ _) (Nat.le_of_ble_eq_true rfl)) ?_
  try first | rw [Heap.set_set] | rw [Heap.set_under (by assumption)]
  refine .as rfl rfl ?_
  refine .ng ?_
  refine AWP.frz (t := 5) rfl (hb5) ?_
  refine .seq ?_
  refine .sr ?_
  refine .mv rfl rfl ?_
  refine .p rfl (pure_neq (tm rfl) ev_int) ?_
  refine .ng ?_
  refine AWP.cond (tm rfl) (fun hc16 => ?_) (fun hc16 => ?_)
  · try simp only [decide_eq_true_eq, ne_eq] at hc16
    refine .sr ?_
    refine .p rfl (pure_assign (ev_str rfl)) ?_
    refine .ng ?_
    refine .ret ?_
    refine Next.rt ?_
    refine Ret.go (.cons (.tmp _ _ rfl) .nil) _ (Heap.le.refl _) ?_
    refine ⟨?_, rfl⟩
    unfold genD
    dsimp only
    rw [if_pos (show er ≠ 0 by simpa using hc16)]; rfl
  · try simp only [decide_eq_false_iff_not, ne_eq, Decidable.not_not] at hc16
    have her : er = 0 := by simpa using hc16
    subst her
    refine .skip ?_
    refine Next.go ?_
    refine .sr ?_
    refine .p rfl (pure_loadN Tryz.isAgg48 Tryz.sizeOf48 (tm rfl) (Nat.le_of_ble_eq_true rfl)) ?_
    refine .cl rfl Tryz.call45 (evs1 rfl) (rPoint_calls neg ds e (by omega) _) ?_
    rw [hpd]
    refine .as rfl rfl ?_
    refine .ng ?_
    refine .seq ?_
    refine AWP.seqTo 30 (.bool (decide ((ds.length : Int) = 0) || (decide (-4 ≤ ((ds.length : Int) + e)) && decide (((ds.length : Int) + e) ≤ 15)))) [3, 4, 5, 7] ?_ ?_
    · -- region 5
      refine .region ?_
      refine .p rfl (pure_fieldI Tryz.underlying48 rfl Tryz.sizeOf9 (tm rfl)) ?_
      refine .p rfl (pure_load1 Tryz.isAgg9 (tm rfl)) ?_
      refine .p rfl (pure_lenStr Tryz.underlying9 (tm rfl)) ?_
      refine .p rfl (pure_eql (tm rfl) ev_int) ?_
      refine .mv rfl rfl ?_
      refine bool_casesL (t := 23) rfl (fun hg23 => ?_) (fun hg23 => ?_)
      · have hh23 := hg23; try simp only [decide_eq_true_eq] at hh23
        refine .gn rfl rfl rfl (by assumption) ?_
        refine .gn rfl rfl rfl (by assumption) ?_
        refine .gn rfl rfl rfl (by assumption) ?_
        refine AList.gdead rfl rfl rfl ?_
        refine AList.gdead rfl rfl rfl ?_
        refine .gn rfl rfl rfl (by assumption) ?_
        refine .p rfl (pure_pickT (tm rfl) (by assumption) ev_bool) ?_
        refine .nil ?_
        exact ⟨rfl, sub_b rfl (by (rw [show decide ((ds.length : Int) = 0) = _ from hg23]; rfl)) (sub_c rfl (sub_c rfl (sub_c rfl (sub_c rfl sub_n)))), rfl⟩
      · have hh23 := hg23; try simp only [decide_eq_false_iff_not] at hh23
        refine .gp rfl rfl rfl (by assumption) (pure_move (tm rfl)) ?_
        refine .gp rfl rfl rfl (by assumption) (pure_geq (tm rfl) ev_int) ?_
        refine .gp rfl rfl rfl (by assumption) (pure_move (tm rfl)) ?_
        refine bool_casesL (t := 26) rfl (fun hg26 => ?_) (fun hg26 => ?_)
        · have hh26 := hg26; try simp only [decide_eq_true_eq] at hh26
          refine .gp rfl rfl rfl (by assumption) (pure_move (tm rfl)) ?_
          refine .gp rfl rfl rfl (by assumption) (pure_leq (tm rfl) ev_int) ?_
          refine .gp rfl rfl rfl (by assumption) (pure_pickT (tm rfl) (by assumption) (tm rfl)) ?_
          refine .p rfl (pure_pickF (tm rfl) (by assumption) (tm rfl)) ?_
          refine .nil ?_
          exact ⟨rfl, sub_b rfl (by (rw [show decide ((ds.length : Int) = 0) = _ from hg23, show decide (-4 ≤ ((ds.length : Int) + e)) = _ from hg26]; rfl)) (sub_c rfl (sub_c rfl (sub_c rfl (sub_c rfl sub_n)))), rfl⟩
        · have hh26 := hg26; try simp only [decide_eq_false_iff_not, Int.not_le] at hh26
          refine .gn rfl rfl rfl (by assumption) ?_
          refine .gn rfl rfl rfl (by assumption) ?_
          refine .gp rfl rfl rfl (by assumption) (pure_pickF (tm rfl) (by assumption) ev_bool) ?_
          refine .p rfl (pure_pickF (tm rfl) (by assumption) (tm rfl)) ?_
          refine .nil ?_
          exact ⟨rfl, sub_b rfl (by (rw [show decide ((ds.length : Int) = 0) = _ from hg23, show decide (-4 ≤ ((ds.length : Int) + e)) = _ from hg26]; rfl)) (sub_c rfl (sub_c rfl (sub_c rfl (sub_c rfl sub_n)))), rfl⟩
    · refine AWP.sub [(30, _), (3, _), (4, _), (5, _), (7, _)] (sub_c rfl (sub_c rfl (sub_c rfl (sub_c rfl (sub_c rfl sub_n))))) ?_
      refine AWP.cond (tm rfl) (fun hc30 => ?_) (fun hc30 => ?_)
      · try simp only [decide_eq_true_eq, decide_eq_false_iff_not, Bool.not_eq_true', Bool.not_eq_false', Int.not_lt, Int.not_le, ne_eq, Decidable.not_not] at hc30
        simp only [Bool.or_eq_true, Bool.and_eq_true, decide_eq_true_eq] at hc30
        have hc30b : ds = [] ∨ (-4 ≤ ((ds.length : Int) + e) ∧ ((ds.length : Int) + e) ≤ 15) := hc30.imp (fun q => List.length_eq_zero_iff.1 (by omega)) id
        refine .sr ?_
        refine .p rfl (pure_loadN Tryz.isAgg27 Tryz.sizeOf27 (tm rfl) (Nat.le_of_ble_eq_true rfl)) ?_
        refine .p rfl (pure_loadN Tryz.isAgg48 Tryz.sizeOf48 (tm rfl) (Nat.le_of_ble_eq_true rfl)) ?_
        refine .cl rfl Tryz.call46 (.cons (tm rfl) (.cons (tm rfl) (.cons ev_bool .nil))) (rWrite_calls l hk neg ds e hsr _) ?_
        refine .as rfl rfl ?_
        refine .ng ?_
        refine .ret ?_
        refine Next.rt ?_
        refine Ret.go (.cons (.tmp _ _ rfl) .nil) _ (Heap.le.refl _) ?_
        refine ⟨?_, rfl⟩
        unfold genD
        dsimp only
        rw [if_neg (show ¬ ((0 : Int) ≠ 0) by simp), if_pos hc30b]; rfl
      · try simp only [decide_eq_true_eq, decide_eq_false_iff_not, Bool.not_eq_true', Bool.not_eq_false', Int.not_lt, Int.not_le, ne_eq, Decidable.not_not] at hc30
        simp only [Bool.or_eq_false_iff, Bool.and_eq_false_iff, decide_eq_false_iff_not] at hc30
        have hdp : 0 < ds.length := by omega
        have hdn := List.length_pos_iff.1 hdp
        refine .skip ?_
        refine Next.go ?_
        refine .sr ?_
        refine .p rfl (pure_assign (ev_str rfl)) ?_
        refine .ng ?_
        refine AWP.seqToL [(8, .str (if neg = true then l.minus else []))] [3, 4, 5, 7] ?_ ?_
        · refine .sr ?_
          refine .p rfl (pure_fieldI Tryz.underlying48 rfl Tryz.sizeOf4 (tm rfl)) ?_
          refine .p rfl (pure_load1 Tryz.isAgg4 (tm rfl)) ?_
          refine .ng ?_
          refine AWP.cond (tm rfl) (fun hc35 => ?_) (fun hc35 => ?_)
          · try simp only [decide_eq_true_eq, decide_eq_false_iff_not, Bool.not_eq_true', Bool.not_eq_false', Int.not_lt, Int.not_le, ne_eq, Decidable.not_not] at hc35
            refine .region ?_
            refine .p rfl (pure_fieldI Tryz.underlying27 rfl Tryz.sizeOf9 (tm rfl)) ?_
            refine .p rfl (pure_load1 Tryz.isAgg9 (tm rfl)) ?_
            refine .as rfl rfl ?_
            refine .nil ?_
            exact ⟨rfl, (sub_e rfl (by (rw [if_pos (by assumption)]; done)) (sub_c rfl (sub_c rfl (sub_c rfl (sub_c rfl sub_n))))), rfl⟩
          · try simp only [decide_eq_true_eq, decide_eq_false_iff_not, Bool.not_eq_true', Bool.not_eq_false', Int.not_lt, Int.not_le, ne_eq, Decidable.not_not] at hc35
            refine .skip ?_
            exact ⟨rfl, (sub_e rfl (by (rw [if_neg (by (rw [hc35]; decide))]; done)) (sub_c rfl (sub_c rfl (sub_c rfl (sub_c rfl sub_n))))), rfl⟩
        · refine AWP.sub [(8, _), (3, _), (4, _), (5, _), (7, _)] (sub_c rfl (sub_c rfl (sub_c rfl (sub_c rfl (sub_c rfl sub_n))))) ?_
          have hmw : (if neg = true then l.minus else []).length ≤ 10 := by split <;> first | omega | (simp; done)
          refine .sr ?_
          refine .mv rfl rfl ?_
          refine .p rfl (pure_fieldI Tryz.underlying48 rfl Tryz.sizeOf9 (tm rfl)) ?_
          refine .p rfl (pure_load1 Tryz.isAgg9 (tm rfl)) ?_
          refine .p rfl (pure_sliceStrH Tryz.underlying9 (tm rfl) ev_int (by omega) (by omega)) ?_
          refine .p rfl (pure_addStr (tm rfl) (tm rfl) (by rw [maxLen_eq]; simp only [List.length_take]; omega)) ?_
          refine .as rfl rfl ?_
          refine .ng ?_
          refine AWP.seqToL [(8, .str (mantD l neg ds))] [4, 7] ?_ ?_
          · refine .sr ?_
            refine .p rfl (pure_fieldI Tryz.underlying48 rfl Tryz.sizeOf9 (tm rfl)) ?_
            refine .p rfl (pure_load1 Tryz.isAgg9 (tm rfl)) ?_
            refine .p rfl (pure_lenStr Tryz.underlying9 (tm rfl)) ?_
            refine .p rfl (pure_gtr (tm rfl) ev_int) ?_
            refine .ng ?_
            refine AWP.cond (tm rfl) (fun hc46 => ?_) (fun hc46 => ?_)
            · try simp only [decide_eq_true_eq] at hc46
              refine AWP.draw [(0, true), (1, true), (2, true), (3, true), (4, true), (5, true), (6, true), (7, true), (8, true)] rfl (by decide +kernel) ?_
              refine .p rfl rfl (pure_move (tm rfl)) ?_
              refine .p rfl rfl (pure_fieldI Tryz.underlying27 rfl Tryz.sizeOf9 (tm rfl)) ?_
              refine .p rfl rfl (pure_load1 Tryz.isAgg9 (tm rfl)) ?_
              refine .p rfl rfl (pure_addStr (tm rfl) (tm rfl) (by rw [maxLen_eq]; simp only [List.length_append, List.length_take]; omega)) ?_
              refine .p rfl rfl (pure_fieldI Tryz.underlying48 rfl Tryz.sizeOf9 (tm rfl)) ?_
              refine .p rfl rfl (pure_load1 Tryz.isAgg9 (tm rfl)) ?_
              refine .p rfl rfl (pure_sliceStrL Tryz.underlying9 (tm rfl) ev_int (by omega) (by omega)) ?_
              refine .p rfl rfl (pure_addStr (tm rfl) (tm rfl) (by rw [maxLen_eq]; simp only [List.length_append, List.length_take, List.length_drop]; omega)) ?_
              refine .p rfl rfl (pure_assign (tm rfl)) ?_
              refine .nil ?_
              exact ⟨rfl, (sub_e rfl (by unfold mantD; first | (rw [if_pos (show (1 : Int) < (ds.length : Int) by omega), List.append_assoc]; first | done | (simp only [List.append_assoc]; rfl)) | (rw [if_neg (show ¬ (1 : Int) < (ds.length : Int) by omega), List.append_nil]; rfl)) (sub_c rfl (sub_c rfl sub_n))), rfl⟩
            · try simp only [decide_eq_false_iff_not, Int.not_lt] at hc46
              refine .skip ?_
              exact ⟨rfl, (sub_e rfl (by unfold mantD; first | (rw [if_pos (show (1 : Int) < (ds.length : Int) by omega), List.append_assoc]; first | done | (simp only [List.append_assoc]; rfl)) | (rw [if_neg (show ¬ (1 : Int) < (ds.length : Int) by omega), List.append_nil]; rfl)) (sub_c rfl (sub_c rfl sub_n))), rfl⟩
          · refine AWP.sub [(8, _), (4, _), (7, _)] (sub_c rfl (sub_c rfl (sub_c rfl sub_n))) ?_
            refine .sr ?_
            refine .mv rfl rfl ?_
            refine .p rfl (pure_sub (tm rfl) ev_int (by omega)) ?_
            refine .as rfl rfl ?_
            refine .nr ?_
            refine .mv rfl rfl ?_
            refine .p rfl (pure_addStr (tm rfl) (ev_str rfl) (by rw [maxLen_eq]; simp only [List.length_cons, List.length_nil]; omega)) ?_
            refine .as rfl rfl ?_
            refine .ng ?_
            refine AWP.seqToL [(9, .int .i64 ((expN ((ds.length : Int) + e) : Nat) : Int)), (8, .str (mantD l neg ds ++ [69] ++ [if ((ds.length : Int) + e) < 1 then 45 else 43]))] [4] ?_ ?_
            · refine .sr ?_
              refine .mv rfl rfl ?_
              refine .p rfl (pure_lss (tm rfl) ev_int) ?_
              refine .ng ?_
              refine AWP.cond (tm rfl) (fun hc60 => ?_) (fun hc60 => ?_)
              · try simp only [decide_eq_true_eq] at hc60
                refine .sr ?_
                refine .mv rfl rfl ?_
                refine .p rfl (pure_neg (tm rfl) (by omega)) ?_
                refine .as rfl rfl ?_
                refine .ng ?_
                refine .region ?_
                refine .mv rfl rfl ?_
                refine .p rfl (pure_addStr (tm rfl) (ev_str rfl) (by rw [maxLen_eq]; simp only [List.length_append, List.length_cons, List.length_nil]; omega)) ?_
                refine .as rfl rfl ?_
                refine .nil ?_
                exact ⟨rfl, (sub_e rfl (by (congr 1; unfold expN; rw [if_pos (by omega)]; omega)) (sub_e rfl (by (rw [if_pos (by omega)]; done)) (sub_c rfl sub_n))), rfl⟩
              · try simp only [decide_eq_false_iff_not, Int.not_lt] at hc60
                refine .region ?_
                refine .mv rfl rfl ?_
                refine .p rfl (pure_addStr (tm rfl) (ev_str rfl) (by rw [maxLen_eq]; simp only [List.length_append, List.length_cons, List.length_nil]; omega)) ?_
                refine .as rfl rfl ?_
                refine .nil ?_
                exact ⟨rfl, (sub_e rfl (by (congr 1; unfold expN; rw [if_neg (by omega)]; omega)) (sub_e rfl (by (rw [if_neg (by omega)]; done)) (sub_c rfl sub_n))), rfl⟩
            · refine AWP.sub [(9, _), (8, _), (4, _)] (sub_c rfl (sub_c rfl (sub_c rfl sub_n))) ?_
              have hen : expN ((ds.length : Int) + e) ≤ 200000 := by unfold expN; split <;> omega
              have hd2 := dec_two (n := expN ((ds.length : Int) + e))
              refine AWP.seqToL [(8, .str (mantD l neg ds ++ [69] ++ [if ((ds.length : Int) + e) < 1 then 45 else 43] ++ (if (dec (expN ((ds.length : Int) + e))).length < 2 then ([48] : List UInt8) else [])))] [9, 4] ?_ ?_
              · refine .sr ?_
                refine .mv rfl rfl ?_
                refine .p rfl (pure_lss (tm rfl) ev_int) ?_
                refine .ng ?_
                refine AWP.cond (tm rfl) (fun hc68 => ?_) (fun hc68 => ?_)
                · try simp only [decide_eq_true_eq] at hc68
                  refine .region ?_
                  refine .mv rfl rfl ?_
                  refine .p rfl (pure_addStr (tm rfl) (ev_str rfl) (by rw [maxLen_eq]; simp only [List.length_append, List.length_cons, List.length_nil]; omega)) ?_
                  refine .as rfl rfl ?_
                  refine .nil ?_
                  exact ⟨rfl, (sub_e rfl (by (rw [if_pos (show (dec (expN ((ds.length : Int) + e))).length < 2 by omega)]; done)) (sub_c rfl (sub_c rfl sub_n))), rfl⟩
                · try simp only [decide_eq_false_iff_not, Int.not_lt] at hc68
                  refine .skip ?_
                  exact ⟨rfl, (sub_e rfl (by (rw [if_neg (show ¬ (dec (expN ((ds.length : Int) + e))).length < 2 by omega), List.append_nil]; done)) (sub_c rfl (sub_c rfl sub_n))), rfl⟩
              · refine AWP.sub [(8, _), (9, _), (4, _)] (sub_c rfl (sub_c rfl (sub_c rfl sub_n))) ?_
                refine .sr ?_
                refine .mv rfl rfl ?_
                refine .mv rfl rfl ?_
                refine .cl rfl Tryz.call47 (evs1 rfl) (rnumberZ _ (expN ((ds.length : Int) + e)) (by omega) (by omega) _) ?_
                refine .p rfl (pure_addStr (tm rfl) (tm rfl) (by rw [maxLen_eq]; simp only [List.length_append, List.length_cons, List.length_nil]; omega)) ?_
                refine .as rfl rfl ?_
                refine .ng ?_
                refine .ret ?_
                refine Ret.go (.cons (.tmp _ _ rfl) .nil) _ (Heap.le.refl _) ?_
                refine ⟨?_, rfl⟩
                unfold genD
                dsimp only
                rw [if_neg (show ¬ ((0 : Int) ≠ 0) by simp), if_neg (show ¬ (ds = [] ∨ (-4 ≤ ((ds.length : Int) + e) ∧ ((ds.length : Int) + e) ≤ 15)) by rintro (q | q); exact hdn q; omega)]; rfl

end Go.Proofs.YtfkeflcdadlmdaaGreatDoor
