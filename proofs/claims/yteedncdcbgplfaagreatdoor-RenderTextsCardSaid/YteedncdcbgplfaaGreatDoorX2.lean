import Derived.Test.YteedncdcbgplfaaGreatDoorZa
import Derived.Test.YteedncdcbgplfaaGreatDoorD2
set_option maxHeartbeats 1000000
namespace Go.Proofs.YteedncdcbgplfaaGreatDoor
open Go Go.RowKit
variable {k m : Nat} {ds : List UInt8}
section
set_option maxRecDepth 100000

def aeX : Nat → Nat → Nat × Nat
 | m, 0 => (m, 0)
 | m, k + 1 => if m % 2 = 0 ∧ 0 < m then aeX (m / 2) k else (m, k + 1)
theorem ajR : ∀ (k m : Nat), (aeX m k).1 ≤ m ∧ (aeX m k).2 ≤ k
 | 0, m => ⟨Nat.le_refl _, Nat.le_refl _⟩
 | k + 1, m => by
  unfold aeX
  split
  ·have := ajR k (m / 2)
   omega
  exact ⟨Nat.le_refl _, Nat.le_refl _⟩
theorem bgB (h : m % 2 = 0) (hm : 0 < m) (hk : 0 < k) : aeX m k = aeX (m / 2) (k - 1) := by
 obtain ⟨k, rfl⟩ : ∃ q, k = q + 1 := ⟨k - 1, by omega⟩
 rw [aeX, if_pos ⟨h, hm⟩]; rfl
theorem bbA (h : k = 0 ∨ m = 0 ∨ m % 2 ≠ 0) : aeX m k = (m, k) := by
 cases k with
 | zero => rfl
 | succ k => rw [aeX, if_neg (by omega)]
def ofN (neg : Bool) (m : Nat) (e : Int) : Bool × List UInt8 × Int :=
 if 0 ≤ e then (mkN neg (dec (m * 2 ^ e.toNat)) 0).1 else (mkN neg (dec ((aeX m (-e).toNat).1 * 5 ^ (aeX m (-e).toNat).2)) (-((aeX m (-e).toNat).2 : Int))).1
def ofR (m : Nat) (e : Int) : Nat := if 0 ≤ e then m * 2 ^ e.toNat else (aeX m (-e).toNat).1 * 5 ^ (aeX m (-e).toNat).2
def ofX (m : Nat) (e : Int) : Int := if 0 ≤ e then 0 else -((aeX m (-e).toNat).2 : Int)
theorem bcZ (neg : Bool) (m : Nat) (e : Int) : ofN neg m e = (mkN neg (dec (ofR m e)) (ofX m e)).1 := by
 unfold ofN ofR ofX
 split <;> rfl
def dD (d : Bool × List UInt8 × Int) : AV := dA d.1 d.2.1 d.2.2
theorem akJ (hk : k ≤ 3300) : 18014398509481984 * 2 ^ k < BIG := by
 obtain ⟨K, hK, hB⟩ : ∃ K, K = 8192 ∧ BIG = 2 ^ K := ⟨32 * 256, rfl, bfI _ rfl⟩
 rw [hB, show (18014398509481984 : Nat) = 2 ^ 54 by decide, ← Nat.pow_add]
 exact Nat.pow_lt_pow_right (by decide) (by omega)
theorem afN (hm : m < 18014398509481984) (hk : k ≤ 1075) : m * 5 ^ k < BIG ∧ 5 ^ k < BIG := by
 have h1 : 5 ^ k ≤ 2 ^ (3 * k) := by rw [Nat.pow_mul]; exact Nat.pow_le_pow_left (by decide) k
 have h0 : 5 ^ k ≤ 18014398509481984 * 5 ^ k := Nat.le_mul_of_pos_left _ (by decide)
 have h2 : 18014398509481984 * 5 ^ k < BIG := Nat.lt_of_le_of_lt (Nat.mul_le_mul_left _ h1) (akJ (by omega))
 exact ⟨Nat.lt_of_le_of_lt (Nat.mul_le_mul_right _ (by omega)) h2, Nat.lt_of_le_of_lt h0 h2⟩
theorem aqK (hm : m < 18014398509481984) (hk : k ≤ 972) : m * 2 ^ k < BIG := by
 exact Nat.lt_of_le_of_lt (Nat.mul_le_mul_right _ (by omega)) (akJ (by omega))
theorem afC (hm : m < 18014398509481984) : m < BIG := Nat.lt_trans hm (by unfold BIG; decide +kernel)
theorem bdO (h : 0 < m) : (zK m).getD 0 0 &&& 1 = m % 2 := by
 rw [aaI h, List.getD_cons_zero, show (1 : Nat) = 2 ^ 1 - 1 by decide, Nat.and_two_pow_sub_one_eq_mod]
 omega
theorem bjP {e : Int} (hm : m < 18014398509481984) (he : -1075 ≤ e ∧ e ≤ 972) : ofR m e < BIG := by
 unfold ofR
 split
 ·exact aqK hm (by omega)
 have h := ajR (-e).toNat m
 exact (afN (by omega) (by omega)).1
theorem bcX {e : Int} (he : -1075 ≤ e ∧ e ≤ 972) : -1075 ≤ ofX m e ∧ ofX m e ≤ 0 := by
 unfold ofX
 have h := ajR (-e).toNat m
 split <;> omega
theorem shlZ (a s : Nat) (q : Int) (hq : q = (s : Int)) (h : a * 2 ^ s < BIG) (hs : s < 1000000000) (H : Heap) : ACall Tryz.prog 168 [aaS a, .int .i64 q] H (fun y H' => y = .tuple [aaS (a * 2 ^ s), .int .i64 0] ∧ H' = H) := by
 subst hq; exact shlB a s h hs H
theorem powZ (b n : Nat) (q : Int) (hq : q = (n : Int)) (hb : 2 ≤ b) (hb2 : b ≤ 1000000) (hn2 : n < 1000000000) (h : b ^ n < BIG) (H : Heap) : ACall Tryz.prog 170 [.int .i64 (b : Int), .int .i64 q] H (fun y H' => y = .tuple [aaS (b ^ n), .int .i64 0] ∧ H' = H) := by
 subst hq; exact asJ b n hb hb2 hn2 h H
def bnA (neg : Bool) (m0 k0 b : Nat) (H : Heap) : Nat → Env → Heap → Prop := fun k env H1 => ∃ m k1 : Nat, m < 18014398509481984 ∧ k1 ≤ 1075 ∧ aeX m k1 = aeX m0 k0 ∧ env = [(0, .bool neg), (1, aaS m), (2, .int .i64 (-(k1 : Int))), (6, .ptr (some ⟨b, 0, none⟩))] ∧ H1 = H.set b (.box 61 [.bool false, .str [], .int .i64 0]) ∧ k = k1

theorem akC (neg : Bool) (m : Nat) (e : Int) (hm : m < 18014398509481984) (he : -1075 ≤ e ∧ e ≤ 972) (H : Heap) : ACall Tryz.prog 92 [.bool neg, aaS m, .int .i64 e] H (fun y H' => y = dD (ofN neg m e) ∧ H' = H) := by
 have hmB := afC hm
 refine ACall.of_body Tryz.func92 rfl Tryz.ntmps92 Tryz.results92 rfl ?_
 iterate 2 refine AX ?_
 refine .al zr61 (fun b6 hb6 => ?_)
 iterate 7 refine AX ?_
 refine AWP.seqToL [(1, aaS (ofR m e)), (7, .int .i64 (ofX m e))] [0, 6] ?_ ?_
 ·iterate 6 refine AX ?_
  refine AWP.cx rfl (fun hc13 => ?_) (fun hc13 => ?_)
  ·iterate 3 refine AX ?_
   refine .cl rfl C168 (evs2 rfl rfl) (shlZ m e.toNat e (by omega) (aqK hm (by omega)) (by omega) _) ?_
   iterate 5 refine AX ?_
   exact ⟨rfl, (yD rfl (by (unfold ofR; rw [if_pos (by omega)]; done)) (yD rfl (by (unfold ofX; rw [if_pos (by omega)]; done)) sX)), rfl⟩
  have hen : e = -(((-e).toNat : Nat) : Int) := by omega
  iterate 2 refine AX ?_
  refine AWP.loopW (bnA neg m (-e).toNat b6 H) ((-e).toNat) ⟨m, (-e).toNat, hm, by omega, rfl, rfl, rfl, rfl⟩ (zJ rfl (zJ rfl (yD rfl (by rw [← hen]) (zJ rfl yF)))) (hRa _) ?_
  rintro _ _ _ ⟨m1, k1, hm1, hk1, hst, rfl, rfl, hk⟩
  have hg0 := Limbs.getD (zS m1) 0
  refine AX ?_
  refine AWP.seqTo 33 (.bool (decide (-(k1 : Int) < 0) && decide ((0 : Int) < ((zK m1).length : Int)) && decide (((((zK m1).getD 0 0 &&& 1 : Nat)) : Int) = ((0 : Nat) : Int)))) [0, 1, 2, 6] ?_ ?_
  ·-- region 4
   iterate 4 refine AX ?_
   refine zB (t := 22) rfl (fun hg22 => ?_) (fun hg22 => ?_)
   ·have hh22 := hg22; try simp only [decide_eq_true_eq] at hh22
    iterate 5 refine AX ?_
    refine zB (t := 27) rfl (fun hg27 => ?_) (fun hg27 => ?_)
    ·have hh27 := hg27; try simp only [decide_eq_true_eq] at hh27
     refine AX ?_
     refine .gp rfl rfl rfl (by assumption) (yW (0) U159 Z210 (tm rfl) zG (by omega) (by omega)) ?_
     refine AX ?_
     refine .gp rfl rfl rfl (by assumption) (afU (tm rfl) (yQ 1) (by assumption) (by omega)) ?_
     iterate 3 refine AM ?_
     exact ⟨rfl, zP rfl (by (rw [show decide (-(k1 : Int) < 0) = _ from hg22, show decide ((0 : Int) < ((zK m1).length : Int)) = _ from hg27]; rfl)) sX, rfl⟩
    have hh27 := hg27; try simp only [decide_eq_false_iff_not, Int.not_lt] at hh27
    iterate 7 refine AX ?_
    exact ⟨rfl, zP rfl (by (rw [show decide (-(k1 : Int) < 0) = _ from hg22, show decide ((0 : Int) < ((zK m1).length : Int)) = _ from hg27]; rfl)) sX, rfl⟩
   have hh22 := hg22; try simp only [decide_eq_false_iff_not, Int.not_lt] at hh22
   iterate 12 refine AX ?_
   exact ⟨rfl, zP rfl (by (rw [show decide (-(k1 : Int) < 0) = _ from hg22]; rfl)) sX, rfl⟩
  refine AWP.sub [(33, _), (0, _), (1, _), (2, _), (6, _)] sX ?_
  refine AWP.cx rfl (fun hc33 => ?_) (fun hc33 => ?_)
  ·simp only [Bool.and_eq_true, decide_eq_true_eq] at hc33
   obtain ⟨⟨hk0, hl0⟩, hb0⟩ := hc33
   have hm0 : 0 < m1 := by rcases Nat.eq_zero_or_pos m1 with h | h; rw [h] at hl0; exact absurd hl0 (by decide); exact h
   rw [bdO hm0] at hb0
   have hst2 := bgB (m := m1) (k := k1) (by omega) hm0 (by omega)
   iterate 6 refine AX ?_
   refine .cl rfl Tryz.call169 (.cons (tm rfl) (.cons zG .nil)) (shrB m1 1 (afC hm1) (by decide) _) ?_
   iterate 14 refine AX ?_
   refine Round.mk (J := bnA neg m (-e).toNat b6 H) ⟨m1 / 2, k1 - 1, by omega, by omega, by rw [← hst2]; exact hst, rfl, rfl, rfl⟩ (zJ rfl (yD rfl (by rw [Nat.pow_one]) (yD rfl (by congr 1; omega) (zJ rfl yF)))) (hRa _) (by omega)
  simp only [Bool.and_eq_false_iff, decide_eq_false_iff_not] at hc33
  have hse : aeX m1 k1 = (m1, k1) := bbA (by
    rcases Nat.eq_zero_or_pos m1 with h | h
    ·exact .inr (.inl h)
    have hnl := bhI h
    rw [bdO h] at hc33
    omega)
  rw [hst] at hse
  iterate 9 refine AX ?_
  refine .cl rfl Tryz.call170 (.cons zG (evs1 rfl)) (powZ 5 k1 _ (by omega) (by decide) (by decide) (by omega) (afN hm1 hk1).2 _) ?_
  iterate 11 refine AX ?_
  refine .cl rfl C106 (evs2 rfl rfl) (mulB m1 (5 ^ k1) (afC hm1) (afN hm1 hk1).2 (afN hm1 hk1).1 _) ?_
  iterate 10 refine AX ?_
  exact ⟨rfl, (yD rfl (by (unfold ofR; rw [if_neg (by omega), hse]; done)) (yD rfl (by (unfold ofX; rw [if_neg (by omega), hse]; done)) sX)), rfl⟩
 refine AWP.sub [(1, _), (7, _), (0, _), (6, _)] sX ?_
 have hRB := bjP hm he
 have hX := bcX (m := m) he
 iterate 4 refine AX ?_
 refine .cl rfl Tryz.call109 (evs1 rfl) (ajL (ofR m e) hRB _) ?_
 refine AX ?_
 refine .cl rfl Tryz.call71 (evs3 rfl rfl rfl) (aiZ neg (dec (ofR m e)) (ofX m e) (apQ _) (Nat.le_trans (beM hRB) (by decide)) (by omega) _) ?_
 iterate 3 refine AX ?_
 refine .al zr61 (fun b10 hb10 => ?_)
 have hn6_10 := Heap.ne_of (oS _ _ _) hb10
 iterate 4 refine AX ?_
 refine AWP.frz (t := 10) rfl (hb10) ?_
 iterate 6 refine AX ?_
 refine AWP.frz (t := 6) rfl (hb6) ?_
 iterate 2 refine AX ?_
 refine ⟨?_, rfl⟩
 rw [bcZ]; rfl

def agY (x : Nat) : (Bool × List UInt8 × Int) × Int := if 3 ≤ yT x then ((false, [], 0), 11) else (ofN (auK x) (zZ x) (zN x), 0)
def aoK (x n : Nat) : (Bool × List UInt8 × Int) × Int := if 3 ≤ yT x then ((false, [], 0), 11) else bkP (agY x).1.1 (agY x).1.2.1 (agY x).1.2.2 n
theorem ahL (neg : Bool) (m : Nat) (e : Int) : yL (ofN neg m e).2.1 (ofN neg m e).2.2 = true := by
 rw [bcZ]
 exact ajW (apQ _)
theorem biA (x : Nat) : (agY x).2 = if 3 ≤ yT x then 11 else 0 := by unfold agY; split <;> rfl
theorem acJ (x : Nat) : yL (agY x).1.2.1 (agY x).1.2.2 = true := by
 unfold agY
 split
 ·rfl
 exact ahL _ _ _

theorem amT (x : Nat) (hx : x < 18446744073709551616) (H : Heap) : ACall Tryz.prog 38 [.int .u64 (x : Int)] H (fun y H' => y = dT (agY x) ∧ H' = H) := by
 have hpm := ahK x
 have hpe := acU x
 refine ACall.of_body Tryz.func38 rfl Tryz.ntmps38 Tryz.results38 rfl ?_
 iterate 2 refine AX ?_
 refine .al zr61 (fun b2 hb2 => ?_)
 iterate 7 refine AX ?_
 refine .cl rfl C31 (evs1 rfl) (acK x hx _) ?_
 iterate 3 refine AX ?_
 refine AWP.cx rfl (fun hc9 => ?_) (fun hc9 => ?_)
 ·iterate 2 refine AX ?_
  refine .p rfl (qN zr61 pl61 .nil rfl) ?_
  iterate 4 refine AX ?_
  refine AWP.frz (t := 2) rfl (hb2) ?_
  iterate 3 refine AX ?_
  refine ⟨?_, rfl⟩
  unfold agY
  rw [if_pos (by omega)]; rfl
 iterate 5 refine AX ?_
 refine .cl rfl Tryz.call91 (evs1 rfl) (amH x hx _) ?_
 iterate 13 refine AX ?_
 refine .cl rfl C93 (evs1 rfl) (acD (zZ x) (by omega) _) ?_
 refine AX ?_
 refine .cl rfl Tryz.call92 (evs3 rfl rfl rfl) (akC (auK x) (zZ x) (zN x) (by omega) hpe _) ?_
 iterate 4 refine AX ?_
 refine AWP.frz (t := 2) rfl (hb2) ?_
 iterate 2 refine AX ?_
 refine ⟨?_, rfl⟩
 unfold agY
 rw [if_neg (by omega)]; rfl

theorem axG (x : Nat) (hx : x < 18446744073709551616) (n : Nat) (hn : 0 < n) (hn2 : n ≤ 100000) (H : Heap) : ACall Tryz.prog 87 [.int .u64 (x : Int), .int .i64 (n : Int), .int .i64 1] H (fun y H' => y = dT (aoK x n) ∧ H' = H) := by
 refine ACall.of_body Tryz.func87 rfl Tryz.ntmps87 Tryz.results87 rfl ?_
 iterate 2 refine AX ?_
 refine .al zr61 (fun b6 hb6 => ?_)
 iterate 6 refine AX ?_
 refine .cl rfl Tryz.call38 (evs1 rfl) (amT x hx _) ?_
 iterate 3 refine AX ?_
 refine .al zr61 (fun b8 hb8 => ?_)
 have hn6_8 := Heap.ne_of (oS _ _ _) hb8
 iterate 4 refine AX ?_
 refine AWP.frz (t := 8) rfl (hb8) ?_
 iterate 7 refine AX ?_
 refine AWP.cx rfl (fun hc16 => ?_) (fun hc16 => ?_)
 ·have hk3 : 3 ≤ yT x := by rcases Nat.lt_or_ge (yT x) 3 with h | h; exact absurd (show (agY x).2 = 0 by unfold agY; rw [if_neg (by omega)]) (by assumption); exact h
  iterate 8 refine AX ?_
  refine AWP.frz (t := 6) rfl (hb6) ?_
  iterate 3 refine AX ?_
  refine ⟨?_, rfl⟩
  unfold aoK
  rw [if_pos hk3]
  rw [show agY x = ((false, [], 0), 11) by unfold agY; rw [if_pos hk3]]; rfl
 have hk3 : ¬ 3 ≤ yT x := fun h => by rw [biA, if_pos h] at hc16; exact absurd hc16 (by decide)
 iterate 7 refine AX ?_
 refine .cl rfl Tryz.call164 (evs3 rfl rfl rfl) (bfA _ _ _ n (acJ x) hn hn2 _) ?_
 iterate 6 refine AX ?_
 refine AWP.frz (t := 6) rfl (hb6) ?_
 iterate 2 refine AX ?_
 refine ⟨?_, rfl⟩
 unfold aoK
 rw [if_neg hk3]; rfl

end
section
open Go Go.RowKit
set_option maxRecDepth 100000

structure Loc where
 name : List UInt8
 dc : List UInt8
 grp : List UInt8
 lst : List UInt8
 minus : List UInt8
 pct : List UInt8
 cur : List UInt8
 first : Bool
 space : Bool
 second : Nat
def pL (l : Loc) (sz : AV) : AV := .agg [.str l.name, .str l.dc, .str l.grp, .str l.lst, .str l.minus, .str l.pct, .str l.cur, .bool l.first, .bool l.space, sz]
def rL (l : Loc) : AV := .agg [.str l.name, .str l.dc, .str l.grp, .str l.lst, .str l.minus, .str l.pct, .str l.cur, .bool l.first, .bool l.space, .int .i64 (l.second : Int)]
def Loc.ok (l : Loc) : Prop := l.dc.length ≤ 10 ∧ l.grp.length ≤ 10 ∧ l.minus.length ≤ 10 ∧ l.cur.length ≤ 10 ∧ l.pct.length ≤ 10
def qX (ds : List UInt8) (p : Int) : (List UInt8 × List UInt8) × Bool :=
 if 400 < p ∨ 400 < (ds.length : Int) - p then (([], []), false)
 else if p ≤ 0 then (([48], List.replicate (-p).toNat 48 ++ ds), true)
 else if (ds.length : Int) ≤ p then ((ds ++ List.replicate (p - ds.length).toNat 48, []), true)
 else ((ds.take p.toNat, ds.drop p.toNat), true)
def agE (l : Loc) (neg : Bool) (ds : List UInt8) (p : Int) : List UInt8 :=
 if (qX ds p).2 = true then (if neg = true then l.minus else []) ++ ((qX ds p).1.1 ++ (if (qX ds p).1.2 = [] then [] else l.dc ++ (qX ds p).1.2)) else []
theorem aqL {p : Int} (hl : ds.length ≤ 1100) : (qX ds p).1.1.length ≤ 2000 ∧ (qX ds p).1.2.length ≤ 2000 := by
 unfold qX
 split
 ·simp
 split
 ·simp only [List.length_append, List.length_replicate, List.length_cons, List.length_nil]; omega
 split
 ·simp only [List.length_append, List.length_replicate, List.length_nil]; omega
 simp only [List.length_take, List.length_drop]; omega
theorem baN {l : Loc} {neg : Bool} {p : Int} (hl : ds.length ≤ 1100) (hk : l.ok) : (agE l neg ds p).length ≤ 5000 := by
 have h := aqL (p := p) hl
 obtain ⟨h1, h2, h3, h4, h5⟩ := hk
 unfold agE
 split
 ·simp only [List.length_append]
  have a1 : (if neg = true then l.minus else []).length ≤ 10 := by split <;> first | omega | (simp; done) | (simp; omega)
  have a2 : (if (qX ds p).1.2 = [] then [] else l.dc ++ (qX ds p).1.2).length ≤ 2010 := by split <;> first | omega | (simp; done) | (simp; omega)
  omega
 simp
theorem qW {e : Int} (h : yL ds e = true) : yC ds e = (ds.length : Int) + e := by unfold yC; rw [if_pos h]

theorem asW (neg : Bool) (ds : List UInt8) (e : Int) (hr : yL ds e = true) (H : Heap) : ACall Tryz.prog 165 [dA neg ds e] H (fun y H' => y = .tuple [.str (qX ds ((ds.length : Int) + e)).1.1, .str (qX ds ((ds.length : Int) + e)).1.2, .bool (qX ds ((ds.length : Int) + e)).2] ∧ H' = H) := by
 have hpd := qW hr
 have hrl := yX hr
 have hdd := qO hr
 have hml := zT
 generalize hpp : (ds.length : Int) + e = p at *
 refine ACall.of_body Tryz.func165 rfl Tryz.ntmps165 Tryz.results165 rfl ?_
 iterate 9 refine AX ?_
 refine AWP.draw [(0, true), (2, true), (3, true), (4, true), (1, false), (5, true), (6, true)] rfl (by decide +kernel) ?_
 refine AX ?_
 refine .p rfl rfl (zA U61 rfl Z9 (tm rfl)) ?_
 iterate 2 refine AX ?_
 refine .s rfl rfl (zE C88 (evs1 rfl) (abU neg ds e hdd _)) ?_
 rintro _ _ ⟨rfl, hH⟩
 obtain rfl := hH.symm
 rw [hpd]
 iterate 13 refine AX ?_
 refine AWP.cx rfl (fun hc12 => ?_) (fun hc12 => ?_)
 ·iterate 11 refine AX ?_
  refine ⟨?_, rfl⟩
  unfold qX
  have hn0 : ds = [] := List.length_eq_zero_iff.1 (by omega)
  have he0 : p = 0 := by rw [hn0] at hpp; have he := hr; rw [hn0] at he; unfold yL at he; rw [if_pos rfl] at he; have := of_decide_eq_true he; simp only [List.length_nil] at hpp; omega
  rw [hn0, he0]; rfl
 refine AWP.seqTo 15 (.bool (decide ((400 : Int) < p) || decide ((400 : Int) < (ds.length : Int) - p))) [1, 2, 3, 4, 5, 6] ?_ ?_
 ·-- region 4
  iterate 4 refine AX ?_
  refine zB (t := 18) rfl (fun hg18 => ?_) (fun hg18 => ?_)
  ·have hh18 := hg18; try simp only [decide_eq_true_eq] at hh18
   iterate 7 refine AX ?_
   exact ⟨rfl, zP rfl (by (rw [show decide ((400 : Int) < p) = _ from hg18]; rfl)) sX, rfl⟩
  have hh18 := hg18; try simp only [decide_eq_false_iff_not, Int.not_lt] at hh18
  iterate 7 refine AX ?_
  exact ⟨rfl, zP rfl (by (rw [show decide ((400 : Int) < p) = _ from hg18]; rfl)) sX, rfl⟩
 refine AWP.sub [(15, _), (1, _), (2, _), (3, _), (4, _), (5, _), (6, _)] sX ?_
 refine AWP.cx rfl (fun hc15 => ?_) (fun hc15 => ?_)
 ·simp only [Bool.or_eq_true, decide_eq_true_eq] at hc15
  iterate 11 refine AX ?_
  refine ⟨?_, rfl⟩
  unfold qX
  rw [if_pos hc15]; rfl
 simp only [Bool.or_eq_false_iff, decide_eq_false_iff_not] at hc15
 iterate 7 refine AX ?_
 refine AWP.cx rfl (fun hc24 => ?_) (fun hc24 => ?_)
 ·refine AX ?_
  refine AWP.draw [(0, true), (1, true), (3, true), (4, true), (2, false), (5, true), (6, true), (7, true), (8, true)] rfl (by decide +kernel) ?_
  iterate 2 refine AX ?_
  refine .p rfl rfl (zA U61 rfl Z9 (tm rfl)) ?_
  refine AX ?_
  refine .s rfl rfl (zE C103 (.cons (zM rfl) (evs1 rfl)) (repeatZ 48 _ (-p).toNat (by omega) (by omega) _)) ?_
  rintro _ _ ⟨rfl, hH⟩
  obtain rfl := hH.symm
  refine .p rfl rfl (zU (tm rfl) (tm rfl) (by rw [zT, List.length_replicate]; omega)) ?_
  iterate 9 refine AX ?_
  refine ⟨?_, rfl⟩
  unfold qX
  rw [if_neg (by omega), if_pos (by omega)]; rfl
 iterate 8 refine AX ?_
 refine AWP.cx rfl (fun hc33 => ?_) (fun hc33 => ?_)
 ·refine AX ?_
  refine AWP.draw [(0, true), (1, true), (2, true), (3, true), (4, true), (5, false), (6, true), (7, true), (8, true), (9, true)] rfl (by decide +kernel) ?_
  refine .p rfl rfl (zA U61 rfl Z9 (tm rfl)) ?_
  iterate 4 refine AX ?_
  refine .s rfl rfl (zE C103 (.cons (zM rfl) (evs1 rfl)) (repeatZ 48 _ (p - ds.length).toNat (by omega) (by omega) _)) ?_
  rintro _ _ ⟨rfl, hH⟩
  obtain rfl := hH.symm
  refine .p rfl rfl (zU (tm rfl) (tm rfl) (by rw [zT, List.length_replicate]; omega)) ?_
  iterate 9 refine AX ?_
  refine ⟨?_, rfl⟩
  unfold qX
  rw [if_neg (by omega), if_neg (by omega), if_pos (by omega)]; rfl
 iterate 4 refine AX ?_
 refine AWP.draw [(0, true), (1, true), (2, true), (3, true), (4, true), (5, true), (6, true), (7, true), (8, true), (9, true), (10, true)] rfl (by decide +kernel) ?_
 refine .p rfl rfl (zA U61 rfl Z9 (tm rfl)) ?_
 iterate 3 refine AX ?_
 refine .p rfl rfl (zA U61 rfl Z9 (tm rfl)) ?_
 iterate 10 refine AX ?_
 refine ⟨?_, rfl⟩
 unfold qX
 rw [if_neg (by omega), if_neg (by omega), if_neg (by omega)]; rfl

theorem amG (l : Loc) (hk : l.ok) (sz : AV) (neg : Bool) (ds : List UInt8) (e : Int) (hr : yL ds e = true) (H : Heap) : ACall Tryz.prog 89 [pL l sz, dA neg ds e, .bool false] H (fun y H' => y = .str (agE l neg ds ((ds.length : Int) + e)) ∧ H' = H) := by
 have hsl := aqL (ds := ds) (p := (ds.length : Int) + e) (yX hr).1
 have hml := zT
 have hdd := qO hr
 obtain ⟨hk1, hk2, hk3, hk4, hk5⟩ := hk
 generalize hsv : qX ds ((ds.length : Int) + e) = sv at *
 obtain ⟨⟨w, r⟩, ok⟩ := sv
 obtain ⟨hsl1, hsl2⟩ := hsl
 simp only [] at hsl1 hsl2
 refine ACall.of_body Tryz.func89 rfl Tryz.ntmps89 Tryz.results89 rfl ?_
 iterate 10 refine AX ?_
 refine .cl rfl Tryz.call165 (evs1 rfl) (asW neg ds e hr _) ?_
 rw [hsv]
 dsimp only
 iterate 10 refine AX ?_
 refine AWP.seqTo 22 (.bool (!ok)) [2, 3, 4, 6, 7, 8] ?_ ?_
 ·-- region 2
  iterate 4 refine AX ?_
  refine zB (t := 18) rfl (fun hg18 => ?_) (fun hg18 => ?_)
  ·have hh18 := hg18; try simp only [Bool.not_eq_true'] at hh18
   iterate 5 refine AX ?_
   exact ⟨rfl, zP rfl (by (cases ok <;> first | rfl | (simp at hg18))) sX, rfl⟩
  have hh18 := hg18; try simp only [Bool.not_eq_false'] at hh18
  refine AX ?_
  refine .gs rfl rfl rfl (by assumption) (zE C152 (evs1 rfl) (acX neg ds e hdd _)) ?_
  rintro _ _ ⟨rfl, hH⟩
  obtain rfl := hH.symm
  rw [hr]
  iterate 3 refine AX ?_
  exact ⟨rfl, zP rfl (by (cases ok <;> first | rfl | (simp at hg18))) sX, rfl⟩
 refine AWP.sub [(22, _), (2, _), (3, _), (4, _), (6, _), (7, _), (8, _)] sX ?_
 refine AWP.cx rfl (fun hc22 => ?_) (fun hc22 => ?_)
 ·iterate 8 refine AX ?_
  refine ⟨?_, rfl⟩
  unfold agE
  rw [hsv]
  simp only []
  rw [if_neg (show ¬ ok = true by simpa using hc22)]; rfl
 iterate 8 refine AX ?_
 refine AWP.cond_false (tm rfl) (by rfl) ?_
 iterate 2 refine AX ?_
 refine AWP.seqToL [(7, .str ((if neg = true then l.minus else []) ++ w))] [3, 6, 8] ?_ ?_
 ·iterate 2 refine AX ?_
  refine .p rfl (zA U61 rfl Z4 (tm rfl)) ?_
  iterate 3 refine AX ?_
  refine AWP.cx rfl (fun hc28 => ?_) (fun hc28 => ?_)
  ·refine AX ?_
   refine .p rfl (zA U32 rfl Z9 (tm rfl)) ?_
   iterate 2 refine AX ?_
   refine .p rfl (zU (tm rfl) (tm rfl) (by rw [zT]; omega)) ?_
   iterate 2 refine AX ?_
   exact ⟨rfl, (yD rfl (by (rw [if_pos (by assumption)]; done)) sX), rfl⟩
  refine AX ?_
  exact ⟨rfl, (yD rfl (by (rw [if_neg (by (rw [hc28]; decide))]; rfl)) sX), rfl⟩
 refine AWP.sub [(7, _), (3, _), (6, _), (8, _)] sX ?_
 have hmw : (if neg = true then l.minus else []).length ≤ 10 := by split <;> first | omega | (simp; done) | (simp; omega)
 iterate 7 refine AX ?_
 refine AWP.cx rfl (fun hc34 => ?_) (fun hc34 => ?_)
 ·iterate 2 refine AX ?_
  refine .p rfl (zA U32 rfl Z9 (tm rfl)) ?_
  iterate 2 refine AX ?_
  refine .p rfl (zU (tm rfl) (tm rfl) (by rw [zT]; omega)) (.p rfl (zU (tm rfl) (tm rfl) (by simp only [zT, List.length_append]; first | omega | (split <;> first | omega | (simp; done) | (simp; omega)))) ?_)
  iterate 11 refine AX ?_
  refine ⟨?_, rfl⟩
  unfold agE
  rw [hsv]
  simp only []
  rw [if_pos (show ok = true by simpa using hc22), if_neg (show ¬ r = [] by simpa using hc34), List.append_assoc]; rfl
 iterate 10 refine AX ?_
 refine ⟨?_, rfl⟩
 unfold agE
 rw [hsv]
 simp only []
 rw [if_pos (show ok = true by simpa using hc22), if_pos (show r = [] by simpa using hc34), List.append_nil]; rfl

end

section
open Go Go.RowKit
set_option maxRecDepth 100000

theorem itoaZ (q : Int) (n : Nat) (hq : q = (n : Int)) (hn : n ≤ 9223372036854775807) (H : Heap) : ACall Tryz.prog 90 [.int .i64 q] H (fun y H' => y = .str (dec n) ∧ H' = H) := by
 subst hq; exact itoaA n hn H
def arN (l : Loc) (neg : Bool) (ds : List UInt8) : List UInt8 := (if neg = true then l.minus else []) ++ ds.take 1 ++ (if (1 : Int) < (ds.length : Int) then l.dc ++ ds.drop 1 else [])
def awU (p : Int) : Nat := (if p < 1 then 1 - p else p - 1).toNat
def bfQ (l : Loc) (s : (Bool × List UInt8 × Int) × Int) : List UInt8 :=
 if s.2 ≠ 0 then []
 else if s.1.2.1 = [] ∨ (-4 ≤ (s.1.2.1.length : Int) + s.1.2.2 ∧ (s.1.2.1.length : Int) + s.1.2.2 ≤ 15) then agE l s.1.1 s.1.2.1 ((s.1.2.1.length : Int) + s.1.2.2)
 else arN l s.1.1 s.1.2.1 ++ [69] ++ [if (s.1.2.1.length : Int) + s.1.2.2 < 1 then 45 else 43] ++ (if (dec (awU ((s.1.2.1.length : Int) + s.1.2.2))).length < 2 then [48] else []) ++ dec (awU ((s.1.2.1.length : Int) + s.1.2.2))
theorem baM {l : Loc} {neg : Bool} (h : ds ≠ []) (hl : ds.length ≤ 300) : agE l neg ds 1 = arN l neg ds := by
 have hp := List.length_pos_iff.2 h
 unfold agE arN qX
 rw [if_neg (show ¬ ((400 : Int) < 1 ∨ 400 < (ds.length : Int) - 1) by omega), if_neg (show ¬ (1 : Int) ≤ 0 by decide)]
 by_cases h1 : (ds.length : Int) ≤ 1
 ·rw [if_pos h1, if_neg (show ¬ (1 : Int) < (ds.length : Int) by omega), List.take_of_length_le (show ds.length ≤ 1 by omega)]
  rw [show ((1 : Int) - (ds.length : Int)).toNat = 0 by omega]
  simp
 rw [if_neg h1, if_pos (show (1 : Int) < (ds.length : Int) by omega)]
 have hd : ds.drop 1 ≠ [] := fun q => by have := congrArg List.length q; rw [List.length_drop] at this; simp only [List.length_nil] at this; omega
 show (if true = true then _ ++ (ds.take 1 ++ (if ds.drop 1 = [] then [] else l.dc ++ ds.drop 1)) else []) = _
 rw [if_pos rfl, if_neg hd, List.append_assoc]
theorem amZ (x n : Nat) : yL (aoK x n).1.2.1 (aoK x n).1.2.2 = true := by
 unfold aoK
 split
 ·rfl
 unfold bkP
 split
 ·exact acJ x
 unfold boG
 have hd := qO (acJ x)
 exact ajW (by split; exact ahT (hd.take _); exact hd.take _)
theorem bnX (neg : Bool) (ds : List UInt8) (e : Int) : (mkN neg ds e).1.2.1.length ≤ ds.length := by
 have h : (abZ ds).length ≤ ds.length := Nat.le_trans (adL _ _) (alX _ _)
 unfold mkN
 split
 ·simp
 split
 ·exact h
 simp
theorem avN (x n : Nat) : (aoK x n).1.2.1.length ≤ n + 1 := by
 unfold aoK
 split
 ·simp
 unfold bkP
 split
 ·rename_i h; exact Nat.le_succ_of_le h
 unfold boG
 refine Nat.le_trans (bnX _ _ _) ?_
 split
 ·refine Nat.le_trans (ajX _) ?_
  rw [List.length_take]; omega
 rw [List.length_take]; omega

theorem aiE (l : Loc) (hk : l.ok) (sz : AV) (x : Nat) (hx : x < 18446744073709551616) (H : Heap) : ACall Tryz.prog 37 [.int .u64 (x : Int), pL l sz] H (fun y H' => y = .str (bfQ l (aoK x 15)) ∧ H' = H) := by
 have hsr := amZ x 15
 have hsl := avN x 15
 generalize hs : aoK x 15 = s at *
 obtain ⟨⟨neg, ds, e⟩, er⟩ := s
 dsimp only at hsr hsl
 have hml := zT
 have hrl := yX hsr
 have hdd := qO hsr
 have hpd := qW hsr
 have hwl := baN (l := l) (neg := neg) (ds := ds) (p := (ds.length : Int) + e) (by omega) hk
 have hkk := hk
 obtain ⟨hk1, hk2, hk3, hk4, hk5⟩ := hkk
 have hel : (dec (awU ((ds.length : Int) + e))).length ≤ 10 := (aeR (by decide)).2 (by unfold awU; split <;> omega)
 have hmn : (arN l neg ds).length ≤ 200 := by
  unfold arN
  have a1 : (if neg = true then l.minus else []).length ≤ 10 := by split <;> first | omega | (simp; done)
  have a2 : (if (1 : Int) < (ds.length : Int) then l.dc ++ ds.drop 1 else []).length ≤ 110 := by split <;> simp only [List.length_append, List.length_drop, List.length_nil] <;> omega
  simp only [List.length_append, List.length_take]; omega
 have hzl : (if (dec (awU ((ds.length : Int) + e))).length < 2 then ([48] : List UInt8) else []).length ≤ 1 := by split <;> simp
 refine ACall.of_body Tryz.func37 rfl Tryz.ntmps37 Tryz.results37 rfl ?_
 iterate 9 refine AX ?_
 refine .cl rfl Tryz.call87 (.cons (tm rfl) (.cons zG (.cons zG .nil))) (axG x hx 15 (by decide) (by decide) _) ?_
 rw [hs]
 unfold dT
 dsimp only
 iterate 3 refine AX ?_
 refine .al zr61 (fun b5 hb5 => ?_)
 iterate 4 refine AX ?_
 refine AWP.frz (t := 5) rfl (hb5) ?_
 iterate 7 refine AX ?_
 refine AWP.cx rfl (fun hc16 => ?_) (fun hc16 => ?_)
 ·iterate 8 refine AX ?_
  refine ⟨?_, rfl⟩
  unfold bfQ
  dsimp only
  rw [if_pos (show er ≠ 0 by simpa using hc16)]; rfl
 have her : er = 0 := by simpa using hc16
 subst her
 iterate 5 refine AX ?_
 refine .cl rfl C88 (evs1 rfl) (abU neg ds e hdd _) ?_
 rw [hpd]
 iterate 4 refine AX ?_
 refine AWP.seqTo 29 (.bool (decide (ds = []) || (decide (-4 ≤ ((ds.length : Int) + e)) && decide (((ds.length : Int) + e) ≤ 15)))) [3, 4, 5, 7] ?_ ?_
 ·-- region 5
  refine AX ?_
  refine .p rfl (zA U61 rfl Z9 (tm rfl)) ?_
  iterate 3 refine AX ?_
  refine zB (t := 22) rfl (fun hg22 => ?_) (fun hg22 => ?_)
  ·have hh22 := hg22; try simp only [decide_eq_true_eq] at hh22
   iterate 8 refine AX ?_
   exact ⟨rfl, zP rfl (by (rw [show decide (ds = []) = _ from hg22]; rfl)) sX, rfl⟩
  have hh22 := hg22; try simp only [decide_eq_false_iff_not] at hh22
  iterate 3 refine AX ?_
  refine zB (t := 25) rfl (fun hg25 => ?_) (fun hg25 => ?_)
  ·have hh25 := hg25; try simp only [decide_eq_true_eq] at hh25
   iterate 5 refine AX ?_
   exact ⟨rfl, zP rfl (by (rw [show decide (ds = []) = _ from hg22, show decide (-4 ≤ ((ds.length : Int) + e)) = _ from hg25]; rfl)) sX, rfl⟩
  have hh25 := hg25; try simp only [decide_eq_false_iff_not, Int.not_le] at hh25
  iterate 5 refine AX ?_
  exact ⟨rfl, zP rfl (by (rw [show decide (ds = []) = _ from hg22, show decide (-4 ≤ ((ds.length : Int) + e)) = _ from hg25]; rfl)) sX, rfl⟩
 refine AWP.sub [(29, _), (3, _), (4, _), (5, _), (7, _)] sX ?_
 refine AWP.cx rfl (fun hc29 => ?_) (fun hc29 => ?_)
 ·simp only [Bool.or_eq_true, Bool.and_eq_true, decide_eq_true_eq] at hc29
  iterate 4 refine AX ?_
  refine .cl rfl Tryz.call89 (.cons (tm rfl) (.cons (tm rfl) (.cons zY .nil))) (amG l hk sz neg ds e hsr _) ?_
  iterate 6 refine AX ?_
  refine ⟨?_, rfl⟩
  unfold bfQ
  dsimp only
  rw [if_neg (show ¬ ((0 : Int) ≠ 0) by simp), if_pos hc29]; rfl
 simp only [Bool.or_eq_false_iff, Bool.and_eq_false_iff, decide_eq_false_iff_not] at hc29
 have hdn : ds ≠ [] := hc29.1
 have hdp := List.length_pos_iff.2 hdn
 have hr1 : yL ds (1 - (ds.length : Int)) = true := by
  have h := hsr
  rw [aqW hdn] at h ⊢
  unfold bbX at h ⊢
  simp only [Bool.and_eq_true, decide_eq_true_eq] at h ⊢
  refine ⟨⟨⟨⟨⟨h.1.1.1.1.1, by omega⟩, by omega⟩, h.1.1.2⟩, h.1.2⟩, h.2⟩
 iterate 5 refine AX ?_
 refine .p rfl (zA U61 rfl Z4 (tm rfl)) ?_
 refine AX ?_
 refine .p rfl (zA U61 rfl Z9 (tm rfl)) ?_
 refine AX ?_
 refine .p rfl (zA U61 rfl Z9 (tm rfl)) ?_
 iterate 3 refine AX ?_
 refine .p rfl (qN zr61 pl61 (.cons (tm rfl) (.inl rfl) (.cons (tm rfl) (.inl rfl) (.cons (tm rfl) (.inl rfl) .nil))) rfl) (.cl rfl Tryz.call89 (.cons (tm rfl) (.cons (tm rfl) (.cons zY .nil))) (amG l hk sz neg ds (1 - (ds.length : Int)) hr1 _) ?_)
 rw [show (ds.length : Int) + (1 - (ds.length : Int)) = 1 by omega, baM hdn (by omega)]
 refine .p rfl (zU (tm rfl) (zM rfl) (by rw [zT]; simp only [List.length_cons, List.length_nil]; omega)) ?_
 iterate 10 refine AX ?_
 refine .cl rfl C90 (evs1 rfl) (itoaZ _ (awU ((ds.length : Int) + e)) (by unfold awU; simp only [asQ]; split <;> split <;> omega) (by unfold awU; split <;> omega) _) ?_
 iterate 3 refine AX ?_
 refine AWP.seqToL [(8, .str (arN l neg ds ++ [69] ++ [if ((ds.length : Int) + e) < 1 then 45 else 43]))] [4, 9] ?_ ?_
 ·iterate 6 refine AX ?_
  refine AWP.cx rfl (fun hc52 => ?_) (fun hc52 => ?_)
  ·iterate 2 refine AX ?_
   refine .p rfl (zU (tm rfl) (zM rfl) (by rw [zT]; simp only [List.length_append, List.length_cons, List.length_nil]; omega)) ?_
   iterate 2 refine AX ?_
   exact ⟨rfl, (yD rfl (by (rw [if_pos (by assumption)]; done)) sX), rfl⟩
  iterate 2 refine AX ?_
  refine .p rfl (zU (tm rfl) (zM rfl) (by rw [zT]; simp only [List.length_append, List.length_cons, List.length_nil]; omega)) ?_
  iterate 2 refine AX ?_
  exact ⟨rfl, (yD rfl (by (rw [if_neg (by omega)]; done)) sX), rfl⟩
 refine AWP.sub [(8, _), (4, _), (9, _)] sX ?_
 refine AWP.seqToL [(8, .str (arN l neg ds ++ [69] ++ [if ((ds.length : Int) + e) < 1 then 45 else 43] ++ (if (dec (awU ((ds.length : Int) + e))).length < 2 then ([48] : List UInt8) else [])))] [4, 9] ?_ ?_
 ·iterate 7 refine AX ?_
  refine AWP.cx rfl (fun hc59 => ?_) (fun hc59 => ?_)
  ·iterate 2 refine AX ?_
   refine .p rfl (zU (tm rfl) (zM rfl) (by rw [zT]; simp only [List.length_append, List.length_cons, List.length_nil]; omega)) ?_
   iterate 2 refine AX ?_
   exact ⟨rfl, (yD rfl (by (rw [if_pos (show (dec (awU ((ds.length : Int) + e))).length < 2 by omega)]; done)) sX), rfl⟩
  refine AX ?_
  exact ⟨rfl, (yD rfl (by (rw [if_neg (show ¬ (dec (awU ((ds.length : Int) + e))).length < 2 by omega), List.append_nil]; done)) sX), rfl⟩
 refine AWP.sub [(8, _), (4, _), (9, _)] sX ?_
 iterate 4 refine AX ?_
 refine .p rfl (zU (tm rfl) (tm rfl) (by rw [zT]; simp only [List.length_append, List.length_cons, List.length_nil]; omega)) ?_
 iterate 5 refine AX ?_
 refine ⟨?_, rfl⟩
 unfold bfQ
 dsimp only
 rw [if_neg (show ¬ ((0 : Int) ≠ 0) by simp), if_neg (show ¬ (ds = [] ∨ (-4 ≤ ((ds.length : Int) + e) ∧ ((ds.length : Int) + e) ≤ 15)) by rintro (q | q); exact hdn q; omega)]; rfl

end
end Go.Proofs.YteedncdcbgplfaaGreatDoor
