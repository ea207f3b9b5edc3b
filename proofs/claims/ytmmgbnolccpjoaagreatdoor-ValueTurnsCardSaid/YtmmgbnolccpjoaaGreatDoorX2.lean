import Derived.Test.YtmmgbnolccpjoaaGreatDoorD1
set_option maxHeartbeats 1000000
namespace Go.Proofs.YtmmgbnolccpjoaaGreatDoor
open Go.Proofs.Tryz
open Go Go.RowKit
variable {i k m : Nat} {ds : List UInt8}
section
set_option maxRecDepth 100000

def agI : Nat → Nat → Nat × Nat
 | m, 0 => (m, 0)
 | m, k + 1 => if m % 2 = 0 ∧ 0 < m then agI (m / 2) k else (m, k + 1)
theorem aoP : ∀ (k m : Nat), (agI m k).1 ≤ m ∧ (agI m k).2 ≤ k
 | 0, m => ⟨aT _, aT _⟩
 | k + 1, m => by
  unfold agI
  split
  ·have := aoP k (m / 2)
   omega
  exact ⟨aT _, aT _⟩
theorem bgT (h : m % 2 = 0) (hm : 0 < m) (hk : 0 < k) : agI m k = agI (m / 2) (k - 1) := by
 obtain ⟨k, rfl⟩ : ∃ q, k = q + 1 := ⟨k - 1, by omega⟩
 rw [agI, aN ⟨h, hm⟩]; rfl
theorem ayW (h : k = 0 ∨ m = 0 ∨ m % 2 ≠ 0) : agI m k = (m, k) := by
 cases k with
 | zero => rfl
 | succ k => rw [agI, aI]
def ofN (neg : Bool) (m : Nat) (e : Int) : Bool × List UInt8 × Int :=
 if 0 ≤ e then (mkN neg (dec (m * 2 ^ e.toNat)) 0).1 else (mkN neg (dec ((agI m (-e).toNat).1 * 5 ^ (agI m (-e).toNat).2)) (-((agI m (-e).toNat).2 : Int))).1
def ofR (m : Nat) (e : Int) : Nat := if 0 ≤ e then m * 2 ^ e.toNat else (agI m (-e).toNat).1 * 5 ^ (agI m (-e).toNat).2
def ofX (m : Nat) (e : Int) : Int := if 0 ≤ e then 0 else -((agI m (-e).toNat).2 : Int)
theorem bqT (neg : Bool) (m : Nat) (e : Int) : ofN neg m e = (mkN neg (dec (ofR m e)) (ofX m e)).1 := by
 unfold ofN ofR ofX
 split <;> rfl
def dD (d : Bool × List UInt8 × Int) : AV := dA d.1 d.2.1 d.2.2
theorem ayZ (hk : k ≤ 3300) : 18014398509481984 * 2 ^ k < BIG := by
 obtain ⟨K, hK, hB⟩ : ∃ K, K = 8192 ∧ BIG = 2 ^ K := ⟨32 * 256, rfl, asT _ rfl⟩
 rw [hB, show (18014398509481984 : Nat) = 2 ^ 54 by decide, ← bI]
 exact dU aC aA
theorem acC (hm : m < 18014398509481984) (hk : k ≤ 1075) : m * 5 ^ k < BIG ∧ 5 ^ k < BIG := by
 have h1 : 5 ^ k ≤ 2 ^ (3 * k) := by rw [dW]; exact Nat.pow_le_pow_left aC k
 have h0 : 5 ^ k ≤ 18014398509481984 * 5 ^ k := Nat.le_mul_of_pos_left _ aC
 have h2 : 18014398509481984 * 5 ^ k < BIG := aV (bX _ h1) (ayZ aA)
 exact ⟨aV (bC _ aA) h2, aV h0 h2⟩
theorem alG (hm : m < 18014398509481984) (hk : k ≤ 972) : m * 2 ^ k < BIG := by
 exact aV (bC _ aA) (ayZ aA)
theorem aiK (hm : m < 18014398509481984) : m < BIG := dI hm (by unfold BIG; decide +kernel)
theorem brL (h : 0 < m) : (zE m).getD 0 0 &&& 1 = m % 2 := by
 rw [qJ h, cG, show (1 : Nat) = 2 ^ 1 - 1 by decide, cW]
 omega
theorem atC : (zE m).length = 0 ↔ m = 0 := by
 constructor
 ·intro h
  rcases bF m with h0 | h0
  ·exact h0
  have := ajK h0; omega
 rintro rfl; rfl
theorem bqS {e : Int} (hm : m < 18014398509481984) (he : -1075 ≤ e ∧ e ≤ 972) : ofR m e < BIG := by
 unfold ofR
 split
 ·exact alG hm aA
 have h := aoP (-e).toNat m
 exact (acC aA aA).1
theorem baJ {e : Int} (he : -1075 ≤ e ∧ e ≤ 972) : -1075 ≤ ofX m e ∧ ofX m e ≤ 0 := by
 unfold ofX
 have h := aoP (-e).toNat m
 split <;> omega
theorem shlZ (a s : Nat) (q : Int) (hq : q = (s : Int)) (h : a * 2 ^ s < BIG) (hs : s < 1000000000) : Fn 272 [aaN a, .int .i64 q] (.tuple [aaN (a * 2 ^ s), .int .i64 0]) := by
 intro H
 subst hq; exact shlB a s h hs H
theorem powZ (b n : Nat) (q : Int) (hq : q = (n : Int)) (hb : 2 ≤ b) (hb2 : b ≤ 1000000) (hn2 : n < 1000000000) (h : b ^ n < BIG) : Fn 268 [.int .i64 (b : Int), .int .i64 q] (.tuple [aaN (b ^ n), .int .i64 0]) := by
 intro H
 subst hq; exact asO b n hb hb2 hn2 h H
theorem ccW (neg : Bool) (e : Int) : (mkN neg (dec 0) e).1 = (neg, [], 0) := by
 unfold mkN
 rw [aN (show adA (dec 0) = [] by rw [amE aC]; rfl)]

def ceW (neg : Bool) (m0 k0 b : Nat) (H : Heap) : Nat → Env → Heap → Prop := fun k env H1 => ∃ m k1 : Nat, m < 18014398509481984 ∧ k1 ≤ 1075 ∧ agI m k1 = agI m0 k0 ∧ env = [(0, .bool neg), (1, aaN m), (2, .int .i64 (-(k1 : Int))), (6, .ptr (some ⟨b, 0, none⟩))] ∧ H1 = H.set b (.box 58 [.bool false, .str [], .int .i64 0]) ∧ k = k1

theorem bnX (neg : Bool) (m : Nat) (e : Int) (hm : m < 18014398509481984) (he : -1075 ≤ e ∧ e ≤ 972) (H : Heap) : ACall prog 229 [.bool neg, aaN m, .int .i64 e] H (fun y H' => y = dD (ofN neg m e) ∧ H' = H) := by
 have hmB := aiK hm
 refine ACall.of_body func229 rfl ntmps229 results229 rfl ?_
 iterate 2 refine AX ?_
 refine .al zr58 (fun b6 hb6 => ?_)
 iterate 7 refine AX ?_
 refine AWP.seqToL [(1, aaN (ofR m e)), (7, .int .i64 (ofX m e))] [0, 6] ?_ ?_
 ·iterate 6 refine AX ?_
  refine AWP.cx rfl (fun hc13 => ?_) (fun hc13 => ?_)
  ·iterate 3 refine AX ?_
   refine .cl rfl C272 (evs2 rfl rfl) (shlZ m e.toNat e aA (alG hm aA) aA _) ?_
   iterate 5 refine AX ?_
   exact ⟨rfl, (zN rfl (by (unfold ofR; rw [aJ]; done)) (zN rfl (by (unfold ofX; rw [aJ]; done)) sX)), rfl⟩
  have hen : e = -(((-e).toNat : Nat) : Int) := by omega
  iterate 2 refine AX ?_
  refine AWP.loopW (ceW neg m (-e).toNat b6 H) ((-e).toNat) ⟨m, (-e).toNat, hm, by omega, rfl, rfl, rfl, rfl⟩ (zJ rfl (zJ rfl (zN rfl (by rw [← hen]) (zJ rfl yJ)))) (hRa _) ?_
  rintro _ _ _ ⟨m1, k1, hm1, hk1, hst, rfl, rfl, hk⟩
  have hg0 := Limbs.getD (zF m1) 0
  refine AX ?_
  refine AWP.seqTo 33 (.bool (decide (-(k1 : Int) < 0) && decide ((0 : Int) < ((zE m1).length : Int)) && decide (((((zE m1).getD 0 0 &&& 1 : Nat)) : Int) = ((0 : Nat) : Int)))) [0, 1, 2, 6] ?_ ?_
  ·-- region 4
   iterate 4 refine AX ?_
   refine zD (t := 22) rfl (fun hg22 => ?_) (fun hg22 => ?_)
   ·have hh22 := hg22; try simp only [aO] at hh22
    iterate 5 refine AX ?_
    refine zD (t := 27) rfl (fun hg27 => ?_) (fun hg27 => ?_)
    ·have hh27 := hg27; try simp only [aO] at hh27
     refine AX ?_
     refine .gp rfl rfl rfl aB (zU (0) U239 Z166 (tm rfl) zH aA aA) ?_
     refine AX ?_
     refine .gp rfl rfl rfl aB (auM (tm rfl) (zI 1) aB aA) ?_
     iterate 3 refine AM ?_
     exact ⟨rfl, zO rfl (by (rw [show decide (-(k1 : Int) < 0) = _ from hg22, show decide ((0 : Int) < ((zE m1).length : Int)) = _ from hg27]; rfl)) sX, rfl⟩
    have hh27 := hg27; try simp only [aM, cH] at hh27
    iterate 7 refine AX ?_
    exact ⟨rfl, zO rfl (by (rw [show decide (-(k1 : Int) < 0) = _ from hg22, show decide ((0 : Int) < ((zE m1).length : Int)) = _ from hg27]; rfl)) sX, rfl⟩
   have hh22 := hg22; try simp only [aM, cH] at hh22
   iterate 12 refine AX ?_
   exact ⟨rfl, zO rfl (by (rw [show decide (-(k1 : Int) < 0) = _ from hg22]; rfl)) sX, rfl⟩
  refine AWP.sub [(33, _), (0, _), (1, _), (2, _), (6, _)] sX ?_
  refine AWP.cx rfl (fun hc33 => ?_) (fun hc33 => ?_)
  ·simp only [bK, aO] at hc33
   obtain ⟨⟨hk0, hl0⟩, hb0⟩ := hc33
   have hm0 : 0 < m1 := by rcases bF m1 with h | h; rw [h] at hl0; exact absurd hl0 aC; exact h
   rw [brL hm0] at hb0
   have hst2 := bgT (m := m1) (k := k1) aA hm0 aA
   iterate 6 refine AX ?_
   refine .cl rfl call276 (.cons (tm rfl) (.cons zH .nil)) (shrB m1 1 (aiK hm1) aC _) ?_
   iterate 14 refine AX ?_
   refine Round.mk (J := ceW neg m (-e).toNat b6 H) ⟨m1 / 2, k1 - 1, by omega, by omega, by rw [← hst2]; exact hst, rfl, rfl, rfl⟩ (zJ rfl (zN rfl (by rw [gF]) (zN rfl (by congr 1; omega) (zJ rfl yJ)))) (hRa _) aA
  simp only [bU, aM] at hc33
  have hse : agI m1 k1 = (m1, k1) := ayW (by
    rcases bF m1 with h | h
    ·exact .inr (.inl h)
    have hnl := ajK h
    rw [brL h] at hc33
    omega)
  rw [hst] at hse
  iterate 9 refine AX ?_
  refine .cl rfl C268 (.cons zH (evs1 rfl)) (powZ 5 k1 _ aA aC aC aA (acC hm1 hk1).2 _) ?_
  iterate 11 refine AX ?_
  refine .cl rfl C269 (evs2 rfl rfl) (mulB m1 (5 ^ k1) (aiK hm1) (acC hm1 hk1).2 (acC hm1 hk1).1 _) ?_
  iterate 10 refine AX ?_
  exact ⟨rfl, (zN rfl (by (unfold ofR; rw [aI, hse]; done)) (zN rfl (by (unfold ofX; rw [aI, hse]; done)) sX)), rfl⟩
 refine AWP.sub [(1, _), (7, _), (0, _), (6, _)] sX ?_
 have hRB := bqS hm he
 have hX := baJ (m := m) he
 iterate 4 refine AX ?_
 refine .cl rfl call277 (evs1 rfl) (bcI (ofR m e) hRB _) ?_
 refine AX ?_
 refine .cl rfl call98 (evs3 rfl rfl rfl) (anM neg (dec (ofR m e)) (ofX m e) (apF _) (bE (asC hRB) aC) aA _) ?_
 iterate 3 refine AX ?_
 refine .al zr58 (fun b10 hb10 => ?_)
 have hn6_10 := Heap.ne_of (oS _ _ _) hb10
 iterate 4 refine AX ?_
 refine AWP.frz (t := 10) rfl (hb10) ?_
 iterate 6 refine AX ?_
 refine AWP.frz (t := 6) rfl (hb6) ?_
 iterate 2 refine AX ?_
 refine ⟨?_, rfl⟩
 rw [bqT]; rfl

def asD (x : Nat) : (Bool × List UInt8 × Int) × Int := if 3 ≤ zV x then ((false, [], 0), 11) else (ofN (aoE x) (yX x) (yU x), 0)
def apT (x n : Nat) : (Bool × List UInt8 × Int) × Int := if 3 ≤ zV x then ((false, [], 0), 11) else buM (asD x).1.1 (asD x).1.2.1 (asD x).1.2.2 n
theorem baL (neg : Bool) (m : Nat) (e : Int) : yZ (ofN neg m e).2.1 (ofN neg m e).2.2 = true := by
 rw [bqT]
 exact ajJ (apF _)
theorem biX (x : Nat) : (asD x).2 = if 3 ≤ zV x then 11 else 0 := by unfold asD; split <;> rfl
theorem ajS (x : Nat) : yZ (asD x).1.2.1 (asD x).1.2.2 = true := by
 unfold asD
 split
 ·rfl
 exact baL _ _ _

theorem bjJ (x : Nat) (hx : x < 18446744073709551616) : Fn 173 [.int .u64 (x : Int)] (dT (asD x)) := by
 intro H
 have hpm := acG x
 have hpe := aaM x
 refine .of_body func173 rfl ntmps173 results173 rfl ?_
 iterate 2 refine AX ?_
 refine .al zr58 (fun b2 hb2 => ?_)
 iterate 7 refine AX ?_
 refine .cl rfl C89 (evs1 rfl) (qU x hx _) ?_
 iterate 3 refine AX ?_
 refine .cx rfl (fun hc9 => ?_) (fun hc9 => ?_)
 ·iterate 2 refine AX ?_
  refine .p rfl (yB zr58 pl58 .nil rfl) ?_
  iterate 4 refine AX ?_
  refine .frz (t := 2) rfl (hb2) ?_
  iterate 3 refine AX ?_
  refine ⟨?_, rfl⟩
  unfold asD
  rw [aJ]; rfl
 iterate 5 refine AX ?_
 refine .cl rfl C181 (evs1 rfl) (acA x hx _) ?_
 iterate 13 refine AX ?_
 refine .cl rfl C230 (evs1 rfl) (apG (yX x) aA _) ?_
 refine AX ?_
 refine .cl rfl call229 (evs3 rfl rfl rfl) (bnX (aoE x) (yX x) (yU x) aA hpe _) ?_
 iterate 4 refine AX ?_
 refine .frz (t := 2) rfl (hb2) ?_
 iterate 2 refine AX ?_
 refine ⟨?_, rfl⟩
 unfold asD
 rw [aI]; rfl

theorem bjI (x : Nat) (hx : x < 18446744073709551616) (n : Nat) (hn : 0 < n) (hn2 : n ≤ 100000) : Fn 106 [.int .u64 (x : Int), .int .i64 (n : Int), .int .i64 1] (dT (apT x n)) := by
 intro H
 refine .of_body func106 rfl ntmps106 results106 rfl ?_
 iterate 2 refine AX ?_
 refine .al zr58 (fun b6 hb6 => ?_)
 iterate 6 refine AX ?_
 refine .cl rfl call173 (evs1 rfl) (bjJ x hx _) ?_
 iterate 3 refine AX ?_
 refine .al zr58 (fun b8 hb8 => ?_)
 have hn6_8 := Heap.ne_of (oS _ _ _) hb8
 iterate 4 refine AX ?_
 refine .frz (t := 8) rfl (hb8) ?_
 iterate 7 refine AX ?_
 refine .cx rfl (fun hc16 => ?_) (fun hc16 => ?_)
 ·have hk3 : 3 ≤ zV x := by rcases cD (zV x) 3 with h | h; exact absurd (show (asD x).2 = 0 by unfold asD; rw [aI]) aB; exact h
  iterate 8 refine AX ?_
  refine .frz (t := 6) rfl (hb6) ?_
  iterate 3 refine AX ?_
  refine ⟨?_, rfl⟩
  unfold apT
  rw [aN hk3]
  rw [show asD x = ((false, [], 0), 11) by unfold asD; rw [aN hk3]]; rfl
 have hk3 : ¬ 3 ≤ zV x := fun h => by rw [biX, aN h] at hc16; exact absurd hc16 aC
 iterate 7 refine AX ?_
 refine .cl rfl call174 (evs3 rfl rfl rfl) (buE _ _ _ n (ajS x) hn hn2 _) ?_
 iterate 6 refine AX ?_
 refine .frz (t := 6) rfl (hb6) ?_
 iterate 2 refine AX ?_
 refine ⟨?_, rfl⟩
 unfold apT
 rw [aL hk3]; rfl

def bzQ (neg : Bool) (m0 k0 b : Nat) (H : Heap) : Nat → Env → Heap → Prop := fun k env H1 => ∃ m k1 : Nat, m < 18014398509481984 ∧ k1 ≤ 1075 ∧ agI m k1 = agI m0 k0 ∧ env = [(0, .bool neg), (1, aaN m), (2, .int .i64 (-(k1 : Int))), (6, .ptr (some ⟨b, 0, none⟩))] ∧ H1 = H.set b (.box 58 [.bool false, .str [], .int .i64 0]) ∧ k = k1

theorem bkB (neg : Bool) (m : Nat) (e : Int) (hm : m < 18014398509481984) (he : -1075 ≤ e ∧ e ≤ 972) (H : Heap) : ACall prog 146 [.bool neg, aaN m, .int .i64 e] H (fun y H' => y = dD (ofN neg m e) ∧ H' = H) := by
 have hmB := aiK hm
 have hRB := bqS hm he
 have hX := baJ (m := m) he
 have hml := yK hmB
 have hrl := yK hRB
 refine ACall.of_body func146 rfl ntmps146 results146 rfl ?_
 iterate 2 refine AX ?_
 refine .al zr58 (fun b6 hb6 => ?_)
 iterate 9 refine AX ?_
 refine AWP.cx rfl (fun hc12 => ?_) (fun hc12 => ?_)
 ·have hR2 : m * 2 ^ e.toNat < BIG := alG hm aA
  iterate 5 refine AX ?_
  refine .cl rfl call87 (evs2 rfl rfl) (aqP (zE m) .shared (zF m) aA e.toNat aA e aA (by rw [zL]; exact alG hm aA) _) ?_
  simp only [zL]
  refine .cl rfl call202 (evs1 rfl) (alK (zE (m * 2 ^ e.toNat)) .shared (zF _) (by have := yK hR2; omega) (by rw [zL]; exact hR2) _) ?_
  simp only [zL]
  refine .cl rfl C104 (.cons (tm rfl) (.cons (tm rfl) (.cons zH .nil))) (ahN neg (dec (m * 2 ^ e.toNat)) 0 (apF _) (bE (asC hR2) aC) aC _) ?_
  iterate 3 refine AX ?_
  refine .al zr58 (fun b7 hb7 => ?_)
  have hn6_7 := Heap.ne_of (oS _ _ _) hb7
  iterate 4 refine AX ?_
  refine AWP.frz (t := 7) rfl (hb7) ?_
  iterate 6 refine AX ?_
  refine AWP.frz (t := 6) rfl (hb6) ?_
  iterate 3 refine AX ?_
  refine ⟨?_, rfl⟩
  unfold ofN
  rw [aJ]; rfl
 have hen : e = -(((-e).toNat : Nat) : Int) := by omega
 iterate 4 refine AX ?_
 refine AWP.loopW (bzQ neg m (-e).toNat b6 H) ((-e).toNat) ⟨m, (-e).toNat, hm, by omega, rfl, rfl, rfl, rfl⟩ (zJ rfl (zJ rfl (zN rfl (by rw [← hen]) (zJ rfl yJ)))) (hRa _) ?_
 rintro _ _ _ ⟨m1, k1, hm1, hk1, hst, rfl, rfl, hk⟩
 have hm1l := yK (aiK hm1)
 refine AX ?_
 refine AWP.seqTo 34 (.bool (decide (-(k1 : Int) < 0) && !decide (((m1 % 2 : Nat) : Int) = 1) && decide ((0 : Int) < ((zE m1).length : Int)))) [0, 1, 2, 6] ?_ ?_
 ·-- region 4
  iterate 4 refine AX ?_
  refine zD (t := 25) rfl (fun hg25 => ?_) (fun hg25 => ?_)
  ·have hh25 := hg25; try simp only [aO] at hh25
   refine AX ?_
   refine .gs rfl rfl rfl aB (zB C151 (.cons (tm rfl) (.cons zH .nil)) (agT (zE m1) .shared (zF m1) aA 0 aC 0 rfl _)) ?_
   rintro _ _ ⟨rfl, hH⟩
   obtain rfl := hH.symm
   rw [zL, dN, fY]
   iterate 3 refine AX ?_
   refine zD (t := 30) rfl (fun hg30 => ?_) (fun hg30 => ?_)
   ·have hh30 := hg30; try simp only [aM, eV] at hh30
    iterate 5 refine AX ?_
    exact ⟨rfl, zO rfl (by (rw [show decide (-(k1 : Int) < 0) = _ from hg25, show (!decide (((m1 % 2 : Nat) : Int) = 1)) = _ from hg30]; rfl)) sX, rfl⟩
   have hh30 := hg30; try simp only [aO, eH] at hh30
   iterate 5 refine AX ?_
   exact ⟨rfl, zO rfl (by (rw [show decide (-(k1 : Int) < 0) = _ from hg25, show (!decide (((m1 % 2 : Nat) : Int) = 1)) = _ from hg30]; rfl)) sX, rfl⟩
  have hh25 := hg25; try simp only [aM, cH] at hh25
  iterate 10 refine AX ?_
  exact ⟨rfl, zO rfl (by (rw [show decide (-(k1 : Int) < 0) = _ from hg25]; rfl)) sX, rfl⟩
 refine AWP.sub [(34, _), (0, _), (1, _), (2, _), (6, _)] sX ?_
 refine AWP.cx rfl (fun hc34 => ?_) (fun hc34 => ?_)
 ·simp only [bK, eV, aO, aM] at hc34
  obtain ⟨⟨hk0, hb0⟩, hl0⟩ := hc34
  have hm0 : 0 < m1 := by rcases bF m1 with h | h; rw [h] at hl0; exact absurd hl0 aC; exact h
  have hst2 := bgT (m := m1) (k := k1) aA hm0 aA
  iterate 6 refine AX ?_
  refine .e rfl (qQ U107 Z166 V166 rfl (zI 2) (.inl rfl) ⟨rfl, rfl⟩) (.cl rfl call86 (evs2 rfl rfl) (aoA (zE m1) .shared (zF m1) aA [2] .full (Limbs.mk aC Limbs.nil) aC aC _) ?_)
  rw [zL, show val [2] = 2 from rfl]
  iterate 13 refine AX ?_
  refine Round.mk (J := bzQ neg m (-e).toNat b6 H) ⟨m1 / 2, k1 - 1, by omega, by omega, by rw [← hst2]; exact hst, rfl, rfl, rfl⟩ (zJ rfl (zJ rfl (zN rfl (by congr 1; omega) (zJ rfl yJ)))) (hRa _) aA
 simp only [bU, eH, aO, aM] at hc34
 have hse : agI m1 k1 = (m1, k1) := ayW (by
   rcases bF m1 with h | h
   ·exact .inr (.inl h)
   have hnl := ajK h
   omega)
 rw [hst] at hse
 iterate 13 refine AX ?_
 refine AWP.cx rfl (fun hc45 => ?_) (fun hc45 => ?_)
 ·iterate 3 refine AX ?_
  refine .p rfl (yB zr58 pl58 (.cons (tm rfl) (.inl rfl) .nil) rfl) ?_
  iterate 3 refine AX ?_
  refine AWP.frz (t := 6) rfl (hb6) ?_
  iterate 3 refine AX ?_
  refine ⟨?_, rfl⟩
  have hm10 : m1 = 0 := atC.1 aA
  unfold ofN
  rw [aI, hse, hm10, dQ, ccW]; rfl
 iterate 8 refine AX ?_
 refine .cl rfl call203 (evs1 rfl) (azH k1 aA _ aA (acC hm1 hk1).2 _) ?_
 refine .cl rfl C83 (evs2 rfl rfl) (aeC (zE m1) .shared (zF m1) aA (zE (5 ^ k1)) .shared (zF _) (by have := yK (acC hm1 hk1).2; omega) _) ?_
 simp only [zL]
 refine .cl rfl call202 (evs1 rfl) (alK (zE (m1 * 5 ^ k1)) .shared (zF _) (by have := yK (acC hm1 hk1).1; omega) (by rw [zL]; exact (acC hm1 hk1).1) _) ?_
 simp only [zL]
 refine AX ?_
 refine .cl rfl C104 (evs3 rfl rfl rfl) (ahN neg (dec (m1 * 5 ^ k1)) (-(k1 : Int)) (apF _) (bE (asC (acC hm1 hk1).1) aC) aA _) ?_
 iterate 3 refine AX ?_
 refine .al zr58 (fun b9 hb9 => ?_)
 have hn6_9 := Heap.ne_of (oS _ _ _) hb9
 iterate 4 refine AX ?_
 refine AWP.frz (t := 9) rfl (hb9) ?_
 iterate 6 refine AX ?_
 refine AWP.frz (t := 6) rfl (hb6) ?_
 iterate 2 refine AX ?_
 refine ⟨?_, rfl⟩
 unfold ofN
 rw [aI, hse]; rfl

theorem awK (x : Nat) (hx : x < 18446744073709551616) : Fn 145 [.int .u64 (x : Int)] (.bool (decide ((zV x : Int) < 3))) := by
 intro H
 refine .of_body func145 rfl ntmps145 results145 rfl ?_
 iterate 8 refine AX ?_
 refine .cl rfl C25 (evs1 rfl) (afJ x hx _) ?_
 iterate 6 refine AX ?_
 exact ⟨rfl, rfl⟩

theorem bdL (x : Nat) (hx : x < 18446744073709551616) : Fn 77 [.int .u64 (x : Int)] (dT (asD x)) := by
 intro H
 have hpm := acG x
 have hpe := aaM x
 refine .of_body func77 rfl ntmps77 results77 rfl ?_
 iterate 2 refine AX ?_
 refine .al zr58 (fun b2 hb2 => ?_)
 iterate 6 refine AX ?_
 refine .cl rfl call145 (evs1 rfl) (awK x hx _) ?_
 iterate 10 refine AX ?_
 refine .cx rfl (fun hc11 => ?_) (fun hc11 => ?_)
 ·iterate 2 refine AX ?_
  refine .p rfl (yB zr58 pl58 .nil rfl) ?_
  iterate 4 refine AX ?_
  refine .frz (t := 2) rfl (hb2) ?_
  iterate 3 refine AX ?_
  refine ⟨?_, rfl⟩
  unfold asD
  rw [aJ]; rfl
 iterate 5 refine AX ?_
 refine .cl rfl call129 (evs1 rfl) (azS x hx _) ?_
 iterate 13 refine AX ?_
 refine .cl rfl call130 (evs1 rfl) (bkP (yX x) aA _) ?_
 refine AX ?_
 refine .cl rfl call146 (evs3 rfl rfl rfl) (bkB (aoE x) (yX x) (yU x) aA hpe _) ?_
 iterate 4 refine AX ?_
 refine .frz (t := 2) rfl (hb2) ?_
 iterate 2 refine AX ?_
 refine ⟨?_, rfl⟩
 unfold asD
 rw [aI]; rfl

theorem bdK (x : Nat) (hx : x < 18446744073709551616) (n : Nat) (hn : 0 < n) (hn2 : n ≤ 100000) : Fn 28 [.int .u64 (x : Int), .int .i64 (n : Int), .int .i64 1] (dT (apT x n)) := by
 intro H
 refine .of_body func28 rfl ntmps28 results28 rfl ?_
 iterate 2 refine AX ?_
 refine .al zr58 (fun b6 hb6 => ?_)
 iterate 6 refine AX ?_
 refine .cl rfl call77 (evs1 rfl) (bdL x hx _) ?_
 iterate 3 refine AX ?_
 refine .al zr58 (fun b8 hb8 => ?_)
 have hn6_8 := Heap.ne_of (oS _ _ _) hb8
 iterate 4 refine AX ?_
 refine .frz (t := 8) rfl (hb8) ?_
 iterate 7 refine AX ?_
 refine .cx rfl (fun hc16 => ?_) (fun hc16 => ?_)
 ·have hk3 : 3 ≤ zV x := by rcases cD (zV x) 3 with h | h; exact absurd (show (asD x).2 = 0 by unfold asD; rw [aI]) aB; exact h
  iterate 8 refine AX ?_
  refine .frz (t := 6) rfl (hb6) ?_
  iterate 3 refine AX ?_
  refine ⟨?_, rfl⟩
  unfold apT
  rw [aN hk3]
  rw [show asD x = ((false, [], 0), 11) by unfold asD; rw [aN hk3]]; rfl
 have hk3 : ¬ 3 ≤ zV x := fun h => by rw [biX, aN h] at hc16; exact absurd hc16 aC
 iterate 7 refine AX ?_
 refine .cl rfl call78 (evs3 rfl rfl rfl) (bkN _ _ _ n (ajS x) hn hn2 _) ?_
 iterate 6 refine AX ?_
 refine .frz (t := 6) rfl (hb6) ?_
 iterate 2 refine AX ?_
 refine ⟨?_, rfl⟩
 unfold apT
 rw [aL hk3]; rfl

end
section
open Go Go.RowKit
set_option maxRecDepth 100000

structure Loc where
 name : List UInt8
 dc : List UInt8
 grp : List UInt8
 lst : List UInt8
 minus : List UInt8
 pct : List UInt8
 cur : List UInt8
 first : Bool
 space : Bool
 second : Nat
def pL (l : Loc) (sz : AV) : AV := .agg [.str l.name, .str l.dc, .str l.grp, .str l.lst, .str l.minus, .str l.pct, .str l.cur, .bool l.first, .bool l.space, sz]
def rL (l : Loc) : AV := .agg [.str l.name, .str l.dc, .str l.grp, .str l.lst, .str l.minus, .str l.pct, .str l.cur, .bool l.first, .bool l.space, .int .i64 (l.second : Int)]
def Loc.ok (l : Loc) : Prop := l.dc.length ≤ 10 ∧ l.grp.length ≤ 10 ∧ l.minus.length ≤ 10 ∧ l.cur.length ≤ 10 ∧ l.pct.length ≤ 10
def aaD (ds : List UInt8) (p : Int) : (List UInt8 × List UInt8) × Bool :=
 if 400 < p ∨ 400 < (ds.length : Int) - p then (([], []), false)
 else if p ≤ 0 then (([48], List.replicate (-p).toNat 48 ++ ds), true)
 else if (ds.length : Int) ≤ p then ((ds ++ List.replicate (p - ds.length).toNat 48, []), true)
 else ((ds.take p.toNat, ds.drop p.toNat), true)
def afU (l : Loc) (neg : Bool) (ds : List UInt8) (p : Int) : List UInt8 :=
 if (aaD ds p).2 = true then (if neg = true then l.minus else []) ++ ((aaD ds p).1.1 ++ (if (aaD ds p).1.2 = [] then [] else l.dc ++ (aaD ds p).1.2)) else []
theorem apU {p : Int} (hl : ds.length ≤ 1100) : (aaD ds p).1.1.length ≤ 2000 ∧ (aaD ds p).1.2.length ≤ 2000 := by
 unfold aaD
 split
 ·simp
 split
 ·simp only [aP, bW, aU, bH]; omega
 split
 ·simp only [aP, bW, bH]; omega
 simp only [aS, aW]; omega
theorem ayO {l : Loc} {neg : Bool} {p : Int} (hl : ds.length ≤ 1100) (hk : l.ok) : (afU l neg ds p).length ≤ 5000 := by
 have h := apU (p := p) hl
 obtain ⟨h1, h2, h3, h4, h5⟩ := hk
 unfold afU
 split
 ·simp only [aP]
  have a1 : (if neg = true then l.minus else []).length ≤ 10 := by split <;> first | omega | (simp; done) | (simp; omega)
  have a2 : (if (aaD ds p).1.2 = [] then [] else l.dc ++ (aaD ds p).1.2).length ≤ 2010 := by split <;> first | omega | (simp; done) | (simp; omega)
  omega
 simp
theorem aoS {e : Int} (h : yZ ds e = true) : aiA ds e = (ds.length : Int) + e := by unfold aiA; rw [aN h]

theorem bdD (neg : Bool) (ds : List UInt8) (e : Int) (hr : yZ ds e = true) : Fn 175 [dA neg ds e] (.tuple [.str (aaD ds ((ds.length : Int) + e)).1.1, .str (aaD ds ((ds.length : Int) + e)).1.2, .bool (aaD ds ((ds.length : Int) + e)).2]) := by
 intro H
 have hpd := aoS hr
 have hrl := qM hr
 have hdd := qC hr
 have hml := zK
 generalize hpp : (ds.length : Int) + e = p at *
 refine .of_body func175 rfl ntmps175 results175 rfl ?_
 iterate 9 refine AX ?_
 refine .draw [(0, true), (2, true), (3, true), (4, true), (1, false), (5, true), (6, true)] rfl aE ?_
 refine AX ?_
 refine .p rfl rfl (zA U58 rfl Z9 (tm rfl)) ?_
 iterate 2 refine AX ?_
 refine .s rfl rfl (zB call107 (evs1 rfl) (alB neg ds e hdd _)) ?_
 rintro _ _ ⟨rfl, hH⟩
 obtain rfl := hH.symm
 rw [hpd]
 iterate 13 refine AX ?_
 refine .cx rfl (fun hc12 => ?_) (fun hc12 => ?_)
 ·iterate 11 refine AX ?_
  refine ⟨?_, rfl⟩
  unfold aaD
  have hn0 : ds = [] := bV.1 aA
  have he0 : p = 0 := by rw [hn0] at hpp; have he := hr; rw [hn0] at he; unfold yZ at he; rw [aN rfl] at he; have := of_decide_eq_true he; simp only [bH] at hpp; omega
  rw [hn0, he0]; rfl
 refine .seqTo 15 (.bool (decide ((400 : Int) < p) || decide ((400 : Int) < (ds.length : Int) - p))) [1, 2, 3, 4, 5, 6] ?_ ?_
 ·-- region 4
  iterate 4 refine AX ?_
  refine zD (t := 18) rfl (fun hg18 => ?_) (fun hg18 => ?_)
  ·have hh18 := hg18; try simp only [aO] at hh18
   iterate 7 refine AX ?_
   exact ⟨rfl, zO rfl (by (rw [show decide ((400 : Int) < p) = _ from hg18]; rfl)) sX, rfl⟩
  have hh18 := hg18; try simp only [aM, cH] at hh18
  iterate 7 refine AX ?_
  exact ⟨rfl, zO rfl (by (rw [show decide ((400 : Int) < p) = _ from hg18]; rfl)) sX, rfl⟩
 refine .sub [(15, _), (1, _), (2, _), (3, _), (4, _), (5, _), (6, _)] sX ?_
 refine .cx rfl (fun hc15 => ?_) (fun hc15 => ?_)
 ·simp only [cN, aO] at hc15
  iterate 11 refine AX ?_
  refine ⟨?_, rfl⟩
  unfold aaD
  rw [aN hc15]; rfl
 simp only [cE, aM] at hc15
 iterate 7 refine AX ?_
 refine .cx rfl (fun hc24 => ?_) (fun hc24 => ?_)
 ·refine AX ?_
  refine .draw [(0, true), (1, true), (3, true), (4, true), (2, false), (5, true), (6, true), (7, true), (8, true)] rfl aE ?_
  iterate 2 refine AX ?_
  refine .p rfl rfl (zA U58 rfl Z9 (tm rfl)) ?_
  refine AX ?_
  refine .s rfl rfl (zB C232 (.cons (zR rfl) (evs1 rfl)) (repeatZ 48 _ (-p).toNat aA aA _)) ?_
  rintro _ _ ⟨rfl, hH⟩
  obtain rfl := hH.symm
  refine .p rfl rfl (zS (tm rfl) (tm rfl) (by rw [zK, bW]; omega)) ?_
  iterate 9 refine AX ?_
  refine ⟨?_, rfl⟩
  unfold aaD
  rw [aI, aJ]; rfl
 iterate 8 refine AX ?_
 refine .cx rfl (fun hc33 => ?_) (fun hc33 => ?_)
 ·refine AX ?_
  refine .draw [(0, true), (1, true), (2, true), (3, true), (4, true), (5, false), (6, true), (7, true), (8, true), (9, true)] rfl aE ?_
  refine .p rfl rfl (zA U58 rfl Z9 (tm rfl)) ?_
  iterate 4 refine AX ?_
  refine .s rfl rfl (zB C232 (.cons (zR rfl) (evs1 rfl)) (repeatZ 48 _ (p - ds.length).toNat aA aA _)) ?_
  rintro _ _ ⟨rfl, hH⟩
  obtain rfl := hH.symm
  refine .p rfl rfl (zS (tm rfl) (tm rfl) (by rw [zK, bW]; omega)) ?_
  iterate 9 refine AX ?_
  refine ⟨?_, rfl⟩
  unfold aaD
  rw [aI, aI, aJ]; rfl
 iterate 4 refine AX ?_
 refine .draw [(0, true), (1, true), (2, true), (3, true), (4, true), (5, true), (6, true), (7, true), (8, true), (9, true), (10, true)] rfl aE ?_
 refine .p rfl rfl (zA U58 rfl Z9 (tm rfl)) ?_
 iterate 3 refine AX ?_
 refine .p rfl rfl (zA U58 rfl Z9 (tm rfl)) ?_
 iterate 10 refine AX ?_
 refine ⟨?_, rfl⟩
 unfold aaD
 rw [aI, aI, aI]; rfl

theorem asK (l : Loc) (hk : l.ok) (sz : AV) (neg : Bool) (ds : List UInt8) (e : Int) (hr : yZ ds e = true) : Fn 108 [pL l sz, dA neg ds e, .bool false] (.str (afU l neg ds ((ds.length : Int) + e))) := by
 intro H
 have hsl := apU (ds := ds) (p := (ds.length : Int) + e) (qM hr).1
 have hml := zK
 have hdd := qC hr
 obtain ⟨hk1, hk2, hk3, hk4, hk5⟩ := hk
 generalize hsv : aaD ds ((ds.length : Int) + e) = sv at *
 obtain ⟨⟨w, r⟩, ok⟩ := sv
 obtain ⟨hsl1, hsl2⟩ := hsl
 simp only [] at hsl1 hsl2
 refine .of_body func108 rfl ntmps108 results108 rfl ?_
 iterate 10 refine AX ?_
 refine .cl rfl call175 (evs1 rfl) (bdD neg ds e hr _) ?_
 rw [hsv]
 dsimp only
 iterate 10 refine AX ?_
 refine .seqTo 22 (.bool (!ok)) [2, 3, 4, 6, 7, 8] ?_ ?_
 ·-- region 2
  iterate 4 refine AX ?_
  refine zD (t := 18) rfl (fun hg18 => ?_) (fun hg18 => ?_)
  ·have hh18 := hg18; try simp only [eV] at hh18
   iterate 5 refine AX ?_
   exact ⟨rfl, zO rfl (by (cases ok <;> first | rfl | (simp at hg18))) sX, rfl⟩
  have hh18 := hg18; try simp only [eH] at hh18
  refine AX ?_
  refine .gs rfl rfl rfl aB (zB C165 (evs1 rfl) (afQ neg ds e hdd _)) ?_
  rintro _ _ ⟨rfl, hH⟩
  obtain rfl := hH.symm
  rw [hr]
  iterate 3 refine AX ?_
  exact ⟨rfl, zO rfl (by (cases ok <;> first | rfl | (simp at hg18))) sX, rfl⟩
 refine .sub [(22, _), (2, _), (3, _), (4, _), (6, _), (7, _), (8, _)] sX ?_
 refine .cx rfl (fun hc22 => ?_) (fun hc22 => ?_)
 ·iterate 8 refine AX ?_
  refine ⟨?_, rfl⟩
  unfold afU
  rw [hsv]
  simp only []
  rw [aL (show ¬ ok = true by simpa using hc22)]; rfl
 iterate 8 refine AX ?_
 refine .cond_false (tm rfl) aD ?_
 iterate 2 refine AX ?_
 refine .seqToL [(7, .str ((if neg = true then l.minus else []) ++ w))] [3, 6, 8] ?_ ?_
 ·iterate 2 refine AX ?_
  refine .p rfl (zA U58 rfl Z4 (tm rfl)) ?_
  iterate 3 refine AX ?_
  refine .cx rfl (fun hc28 => ?_) (fun hc28 => ?_)
  ·refine AX ?_
   refine .p rfl (zA U29 rfl Z9 (tm rfl)) ?_
   iterate 2 refine AX ?_
   refine .p rfl (zS (tm rfl) (tm rfl) (by rw [zK]; omega)) ?_
   iterate 2 refine AX ?_
   exact ⟨rfl, (zN rfl (by (rw [aN aB]; done)) sX), rfl⟩
  refine AX ?_
  exact ⟨rfl, (zN rfl (by (rw [aL (by (rw [hc28]; decide))]; rfl)) sX), rfl⟩
 refine .sub [(7, _), (3, _), (6, _), (8, _)] sX ?_
 have hmw : (if neg = true then l.minus else []).length ≤ 10 := by split <;> first | omega | (simp; done) | (simp; omega)
 iterate 7 refine AX ?_
 refine .cx rfl (fun hc34 => ?_) (fun hc34 => ?_)
 ·iterate 2 refine AX ?_
  refine .p rfl (zA U29 rfl Z9 (tm rfl)) ?_
  iterate 2 refine AX ?_
  refine .p rfl (zS (tm rfl) (tm rfl) (by rw [zK]; omega)) (.p rfl (zS (tm rfl) (tm rfl) (by simp only [zK, aP]; first | omega | (split <;> first | omega | (simp; done) | (simp; omega)))) ?_)
  iterate 11 refine AX ?_
  refine ⟨?_, rfl⟩
  unfold afU
  rw [hsv]
  simp only []
  rw [aN (show ok = true by simpa using hc22), aL (show ¬ r = [] by simpa using hc34), aQ]; rfl
 iterate 10 refine AX ?_
 refine ⟨?_, rfl⟩
 unfold afU
 rw [hsv]
 simp only []
 rw [aN (show ok = true by simpa using hc22), aN (show r = [] by simpa using hc34), bM]; rfl

end
section
open Go Go.RowKit
set_option maxRecDepth 100000

def afB (ds : List UInt8) (i : Nat) : List UInt8 := ds.take i ++ List.replicate (i - ds.length) 48
theorem bcP (h : i < ds.length) : afB ds i ++ [ds.getD i 0] = afB ds (i + 1) := by
 unfold afB
 rw [show i - ds.length = 0 by omega, show i + 1 - ds.length = 0 by omega, List.replicate_zero, bM, bM, ← cS h, aR, bA h]; rfl
theorem bcQ (h : ds.length ≤ i) : afB ds i ++ [48] = afB ds (i + 1) := by
 unfold afB
 rw [aX h, aX aA, show i + 1 - ds.length = (i - ds.length) + 1 by omega, List.replicate_succ', aQ]
theorem ajA (ds : List UInt8) (i : Nat) : (afB ds i).length = i := by
 unfold afB; simp only [aP, aS, bW]; omega
def aoM (ds : List UInt8) (m q j : Nat) : List UInt8 := List.replicate (min j m) 48 ++ (ds.drop q).take (j - m)
theorem bkG {q j : Nat} (h : j < m) : aoM ds m q j ++ [48] = aoM ds m q (j + 1) := by
 unfold aoM
 rw [show j - m = 0 by omega, show j + 1 - m = 0 by omega, eP, bM, bM, cY aA, cY aA, List.replicate_succ']
theorem bkH {q j : Nat} (h : m ≤ j) (hi : i = q + (j - m)) (hl : i < ds.length) : aoM ds m q j ++ [ds.getD i 0] = aoM ds m q (j + 1) := by
 unfold aoM
 have hd : j - m < (ds.drop q).length := by rw [aW]; omega
 rw [gI h, gI aA, show j + 1 - m = (j - m) + 1 by omega, ← cS hd, ← aQ, List.getElem_drop, aR, bA hl]
 congr 2
 show ds[i] = ds[q + (j - m)]
 congr 1
theorem azJ (ds : List UInt8) (m q j : Nat) : (aoM ds m q j).length ≤ j := by
 unfold aoM; simp only [aP, aS, bW, aW]; omega
theorem apS (h : i < ds.length) : (ds.take (i + 1)).drop i = [ds.getD i 0] := by
 rw [← cS h, List.drop_append_of_le_length (by rw [aS]; omega), dX (by rw [aS]; omega), aR, bA h]; rfl

def bpH (neg : Bool) (ds : List UInt8) (e p : Int) (H : Heap) : Nat → Env → Heap → Prop := fun k env H1 => ∃ i : Nat, (i : Int) ≤ max p 0 ∧ env = [(1, .iptr [.bool neg, .str ds, .int .i64 e]), (5, .int .i64 p), (6, .int .i64 (ds.length : Int)), (7, .str (afB ds i)), (8, .str []), (9, .int .i64 (i : Int))] ∧ H = H1 ∧ k = p.toNat - i

def bhB (neg : Bool) (ds w : List UInt8) (e p : Int) (H : Heap) : Nat → Env → Heap → Prop := fun k env H1 => ∃ j : Nat, (j : Int) ≤ max ((ds.length : Int) - p) 0 ∧ env = [(1, .iptr [.bool neg, .str ds, .int .i64 e]), (5, .int .i64 p), (6, .int .i64 (ds.length : Int)), (7, .str w), (8, .str (aoM ds (-p).toNat p.toNat j)), (10, .int .i64 (p + j))] ∧ H = H1 ∧ k = ((ds.length : Int) - p).toNat - j

theorem azT (neg : Bool) (ds : List UInt8) (e : Int) (hr : yZ ds e = true) (H : Heap) : ACall prog 178 [dA neg ds e] H (fun y H' => y = .tuple [.str (aaD ds ((ds.length : Int) + e)).1.1, .str (aaD ds ((ds.length : Int) + e)).1.2, .bool (aaD ds ((ds.length : Int) + e)).2] ∧ H' = H) := by
 have hpd := aoS hr
 have hrl := qM hr
 have hdd := qC hr
 have hml := zK
 generalize hpp : (ds.length : Int) + e = p at *
 refine ACall.of_body func178 rfl ntmps178 results178 rfl ?_
 iterate 11 refine AX ?_
 refine .cl rfl call79 (evs1 rfl) (aiR neg ds e aA _) ?_
 rw [hpd]
 iterate 5 refine AX ?_
 refine .p rfl (zA U58 rfl Z9 (tm rfl)) ?_
 iterate 6 refine AX ?_
 refine AWP.seqTo 27 (.bool (decide ((400 : Int) < p) || (decide ((400 : Int) < (ds.length : Int) - p) && decide ((0 : Int) < (ds.length : Int))))) [1, 2, 3, 4, 5, 6] ?_ ?_
 ·-- region 3
  iterate 4 refine AX ?_
  refine zD (t := 18) rfl (fun hg18 => ?_) (fun hg18 => ?_)
  ·have hh18 := hg18; try simp only [aO] at hh18
   iterate 10 refine AX ?_
   exact ⟨rfl, zO rfl (by (rw [show decide ((400 : Int) < p) = _ from hg18]; rfl)) sX, rfl⟩
  have hh18 := hg18; try simp only [aM, cH] at hh18
  iterate 5 refine AX ?_
  refine zD (t := 23) rfl (fun hg23 => ?_) (fun hg23 => ?_)
  ·have hh23 := hg23; try simp only [aO] at hh23
   iterate 5 refine AX ?_
   exact ⟨rfl, zO rfl (by (rw [show decide ((400 : Int) < p) = _ from hg18, show decide ((400 : Int) < (ds.length : Int) - p) = _ from hg23]; rfl)) sX, rfl⟩
  have hh23 := hg23; try simp only [aM, cH] at hh23
  iterate 5 refine AX ?_
  exact ⟨rfl, zO rfl (by (rw [show decide ((400 : Int) < p) = _ from hg18, show decide ((400 : Int) < (ds.length : Int) - p) = _ from hg23]; rfl)) sX, rfl⟩
 refine AWP.sub [(27, _), (1, _), (2, _), (3, _), (4, _), (5, _), (6, _)] sX ?_
 refine AWP.cx rfl (fun hc27 => ?_) (fun hc27 => ?_)
 ·simp only [cN, bK, aO] at hc27
  iterate 10 refine AX ?_
  refine ⟨?_, rfl⟩
  unfold aaD
  rw [aJ]; rfl
 simp only [cE, bU, aM] at hc27
 have hb4 : ¬ (400 < (ds.length : Int) - p) := by
  intro q
  by_cases hn0 : 0 < ds.length
  ·omega
  have hn1 : ds = [] := bV.1 aA
  have he := hr
  rw [hn1] at he
  unfold yZ at he
  rw [aN rfl] at he
  have := of_decide_eq_true he
  rw [hn1] at hpp q
  simp only [bH] at hpp q
  omega
 iterate 19 refine AX ?_
 refine AWP.loopW (bpH neg ds e p H) (p.toNat) ⟨0, by omega, rfl, rfl, rfl⟩ (zJ rfl (zJ rfl (zJ rfl (zN rfl (by unfold afB; simp) sX)))) (hRa _) ?_
 rintro _ _ _ ⟨i, hi, rfl, rfl, hk⟩
 iterate 8 refine AX ?_
 refine AWP.cx rfl (fun hc30 => ?_) (fun hc30 => ?_)
 ·iterate 2 refine AX ?_
  refine AWP.seqToL [(7, .str (afB ds (i + 1)))] [1, 5, 6, 8, 9, 30] ?_ ?_
  ·iterate 8 refine AX ?_
   refine AWP.cx rfl (fun hc35 => ?_) (fun hc35 => ?_)
   ·iterate 2 refine AX ?_
    refine .p rfl (zA U58 rfl Z9 (tm rfl)) ?_
    iterate 5 refine AX ?_
    refine .p rfl (zS (tm rfl) (tm rfl) (by rw [zK, ajA]; simp only [aW, aS]; omega)) ?_
    iterate 3 refine AX ?_
    exact ⟨rfl, (zN rfl (by (rw [show ((i : Int)).toNat = i from rfl, show ((i : Int) + 1).toNat = i + 1 by omega, apS aA]; congr 1; exact bcP aA)) sX), rfl⟩
   iterate 2 refine AX ?_
   refine .p rfl (zS (tm rfl) (zR rfl) (by rw [zK, ajA]; simp only [aU, bH]; omega)) ?_
   iterate 3 refine AX ?_
   exact ⟨rfl, (zN rfl (by (congr 1; exact bcQ aA)) sX), rfl⟩
  refine AWP.sub [(7, _), (1, _), (5, _), (6, _), (8, _), (9, _), (30, _)] sX ?_
  iterate 6 refine AX ?_
  refine Round.mk (J := bpH neg ds e p H) ⟨i + 1, by omega, rfl, rfl, rfl⟩ sX (hRa _) aA
 iterate 5 refine AX ?_
 refine AWP.seqToL [(7, .str (if p ≤ 0 then [48] else afB ds p.toNat))] [1, 5, 6, 8] ?_ ?_
 ·iterate 6 refine AX ?_
  refine AWP.cx rfl (fun hc47 => ?_) (fun hc47 => ?_)
  ·iterate 3 refine AX ?_
   exact ⟨rfl, (zN rfl (by (rw [aN (by rcases Int.lt_or_le 0 p with q | q; have := congrArg List.length (show afB ds i = [] from hc47); rw [ajA] at this; simp at this; omega; exact q)]; done)) sX), rfl⟩
  refine AX ?_
  exact ⟨rfl, (zN rfl (by (rw [aL (by intro q; exact hc47 (bV.1 (by rw [ajA]; omega))), show i = p.toNat by omega]; done)) sX), rfl⟩
 refine AWP.sub [(7, _), (1, _), (5, _), (6, _), (8, _)] sX ?_
 generalize hw : (if p ≤ 0 then [48] else afB ds p.toNat) = w at *
 iterate 8 refine AX ?_
 refine AWP.loopW (bhB neg ds w e p H) (((ds.length : Int) - p).toNat) ⟨0, by omega, rfl, rfl, rfl⟩ (zJ rfl (zJ rfl (zJ rfl (zJ rfl (zN rfl (by unfold aoM; simp) (zN rfl aF yJ)))))) (hRa _) ?_
 rintro _ _ _ ⟨j, hj, rfl, rfl, hk⟩
 iterate 8 refine AX ?_
 refine AWP.cx rfl (fun hc51 => ?_) (fun hc51 => ?_)
 ·iterate 2 refine AX ?_
  refine AWP.seqToL [(8, .str (aoM ds (-p).toNat p.toNat (j + 1)))] [1, 5, 6, 7, 10, 51] ?_ ?_
  ·iterate 7 refine AX ?_
   refine AWP.cx rfl (fun hc55 => ?_) (fun hc55 => ?_)
   ·iterate 2 refine AX ?_
    refine .p rfl (zS (tm rfl) (zR rfl) (by have := azJ ds (-p).toNat p.toNat j; rw [zK]; simp only [aU, bH]; omega)) ?_
    iterate 3 refine AX ?_
    exact ⟨rfl, (zN rfl (by (congr 1; exact bkG aA)) sX), rfl⟩
   iterate 2 refine AX ?_
   refine .p rfl (zA U58 rfl Z9 (tm rfl)) ?_
   iterate 5 refine AX ?_
   refine .p rfl (zS (tm rfl) (tm rfl) (by have := azJ ds (-p).toNat p.toNat j; rw [zK]; simp only [aW, aS]; omega)) ?_
   iterate 3 refine AX ?_
   exact ⟨rfl, (zN rfl (by (rw [show (p + (j : Int) + 1).toNat = (p + (j : Int)).toNat + 1 by omega, apS aA]; congr 1; exact bkH aA aA aA)) sX), rfl⟩
  refine AWP.sub [(8, _), (1, _), (5, _), (6, _), (7, _), (10, _), (51, _)] sX ?_
  iterate 6 refine AX ?_
  refine Round.mk (J := bhB neg ds w e p H) ⟨j + 1, by omega, rfl, rfl, rfl⟩ (zJ rfl (zJ rfl (zJ rfl (zJ rfl (zJ rfl (zN rfl (by congr 1; omega) yJ)))))) (hRa _) aA
 iterate 16 refine AX ?_
 refine ⟨?_, rfl⟩
 unfold aaD
 rw [aI]
 have hj2 : j = ((ds.length : Int) - p).toNat := by omega
 rw [hj2, ← hw]
 unfold aoM afB
 by_cases hp0 : p ≤ 0
 ·rw [aN hp0, aN hp0, show p.toNat = 0 by omega, cT, gI aA, aX aA]; rfl
 rw [aL hp0, aL hp0, show (-p).toNat = 0 by omega, gI (Nat.zero_le _), gB, List.replicate_zero, cF]
 by_cases hp1 : (ds.length : Int) ≤ p
 ·rw [aN hp1, aX aA, show ((ds.length : Int) - p).toNat = 0 by omega, eP, show (p - (ds.length : Int)).toNat = p.toNat - ds.length by omega]; rfl
 rw [aL hp1, show p.toNat - ds.length = 0 by omega, List.replicate_zero, bM, aX (l := ds.drop p.toNat) (by rw [aW]; omega)]; rfl

end
section
open Go Go.RowKit
set_option maxRecDepth 100000

theorem azQ (l : Loc) (hk : l.ok) (neg : Bool) (ds : List UInt8) (e : Int) (hr : yZ ds e = true) : Fn 110 [rL l, dA neg ds e, .bool false] (.str (afU l neg ds ((ds.length : Int) + e))) := by
 intro H
 have hsl := apU (ds := ds) (p := (ds.length : Int) + e) (qM hr).1
 have hml := zK
 have hdd := qC hr
 have hrl := qM hr
 obtain ⟨hk1, hk2, hk3, hk4, hk5⟩ := hk
 generalize hsv : aaD ds ((ds.length : Int) + e) = sv at *
 obtain ⟨⟨w, r⟩, ok⟩ := sv
 obtain ⟨hsl1, hsl2⟩ := hsl
 simp only [] at hsl1 hsl2
 refine .of_body func110 rfl ntmps110 results110 rfl ?_
 iterate 10 refine AX ?_
 refine .cl rfl call147 (evs1 rfl) (aiQ neg ds e aA _) ?_
 rw [hr]
 iterate 10 refine AX ?_
 refine .cond_false (tm rfl) aD ?_
 iterate 5 refine AX ?_
 refine .cl rfl call178 (evs1 rfl) (azT neg ds e hr _) ?_
 rw [hsv]
 dsimp only
 iterate 16 refine AX ?_
 refine .cx rfl (fun hc23 => ?_) (fun hc23 => ?_)
 ·iterate 8 refine AX ?_
  refine ⟨?_, rfl⟩
  unfold afU
  rw [hsv]
  simp only []
  rw [aL (show ¬ ok = true by simpa using hc23)]; rfl
 iterate 7 refine AX ?_
 refine .seqToL [(11, .str (if neg = true then l.minus else []))] [2, 3, 6, 8, 9] ?_ ?_
 ·iterate 2 refine AX ?_
  refine .p rfl (zA U58 rfl Z4 (tm rfl)) ?_
  iterate 3 refine AX ?_
  refine .cx rfl (fun hc25 => ?_) (fun hc25 => ?_)
  ·refine AX ?_
   refine .p rfl (zA U31 rfl Z9 (tm rfl)) ?_
   iterate 3 refine AX ?_
   exact ⟨rfl, (zN rfl (by (rw [aN aB]; done)) sX), rfl⟩
  refine AX ?_
  exact ⟨rfl, (zN rfl (by (rw [aL (by (rw [hc25]; decide))]; done)) sX), rfl⟩
 refine .sub [(11, _), (2, _), (3, _), (6, _), (8, _), (9, _)] sX ?_
 have hmw : (if neg = true then l.minus else []).length ≤ 10 := by split <;> first | omega | (simp; done)
 iterate 6 refine AX ?_
 refine .cond_false (tm rfl) aD ?_
 iterate 6 refine AX ?_
 refine .p rfl (zS (tm rfl) (tm rfl) (by rw [zK]; omega)) ?_
 iterate 10 refine AX ?_
 refine .cx rfl (fun hc36 => ?_) (fun hc36 => ?_)
 ·iterate 2 refine AX ?_
  refine .p rfl (zA U31 rfl Z9 (tm rfl)) ?_
  refine AX ?_
  refine .p rfl (zS (tm rfl) (tm rfl) (by rw [zK, aP]; omega)) ?_
  refine AX ?_
  refine .p rfl (zS (tm rfl) (tm rfl) (by rw [zK, aP, aP]; omega)) ?_
  iterate 11 refine AX ?_
  refine ⟨?_, rfl⟩
  unfold afU
  rw [hsv]
  simp only []
  rw [aN (show ok = true by simpa using hc23), aL (show ¬ r = [] by simpa using hc36), aQ, aQ]; rfl
 iterate 10 refine AX ?_
 refine ⟨?_, rfl⟩
 unfold afU
 rw [hsv]
 simp only []
 rw [aN (show ok = true by simpa using hc23), aN (show r = [] by simpa using hc36), bM]; rfl

theorem bfN {n : Nat} (h : n < 10) : ((([48, 49, 50, 51, 52, 53, 54, 55, 56, 57] : List UInt8).take (n + 1)).drop n) = dec n := by
 rw [amE h]
 have : n = 0 ∨ n = 1 ∨ n = 2 ∨ n = 3 ∨ n = 4 ∨ n = 5 ∨ n = 6 ∨ n = 7 ∨ n = 8 ∨ n = 9 := by omega
 rcases this with rfl | rfl | rfl | rfl | rfl | rfl | rfl | rfl | rfl | rfl <;> rfl

theorem azD (n : Nat) (hn : n ≤ 1000000000) (ih : ∀ m, m < n → ∀ H, ACall prog 111 [.int .i64 (m : Int)] H (fun y H' => y = .str (dec m) ∧ H' = H)) (H : Heap) : ACall prog 111 [.int .i64 (n : Int)] H (fun y H' => y = .str (dec n) ∧ H' = H) := by
 have hml := zK
 have hl1 := (agM (n := n / 10) (k := 10) aC).2 aA
 have hl2 := (agM (n := n % 10) (k := 10) aC).2 aA
 refine .of_body func111 rfl ntmps111 results111 rfl ?_
 iterate 12 refine AM ?_
 refine .cx rfl (fun hc4 => ?_) (fun hc4 => ?_)
 ·iterate 5 refine AM ?_
  refine .p rfl (alM U9 (zR rfl) (tm rfl) (tm rfl) aA aA (by simp only [aU, bH]; omega)) ?_
  iterate 6 refine AX ?_
  refine ⟨?_, rfl⟩
  rw [← bfN (show n < 10 by omega)]; rfl
 iterate 6 refine AM ?_
 refine .cl rfl call111 (evs1 rfl) (ih (n / 10) aA _) ?_
 iterate 2 refine AM ?_
 refine .cl rfl call111 (evs1 rfl) (ih (n % 10) aA _) (.p rfl (zS (tm rfl) (tm rfl) (by rw [zK]; omega)) ?_)
 iterate 5 refine AX ?_
 refine ⟨?_, rfl⟩
 rw [aoJ (show 10 ≤ n by omega), amE (bT n aC)]; rfl

theorem awJ (n : Nat) (hn : n ≤ 1000000000) : Fn 111 [.int .i64 (n : Int)] (.str (dec n)) := by
 intro H
 induction n using Nat.strongRecOn generalizing H with
 | ind n ih => exact azD n hn (fun m hm H => ih m hm aA H) H
theorem rnumberZ (q : Int) (n : Nat) (hq : q = (n : Int)) (hn : n ≤ 1000000000) : Fn 111 [.int .i64 q] (.str (dec n)) := by
 intro H
 subst hq; exact awJ n hn H
theorem itoaZ (q : Int) (n : Nat) (hq : q = (n : Int)) (hn : n ≤ 9223372036854775807) : Fn 109 [.int .i64 q] (.str (dec n)) := by
 intro H
 subst hq; exact itoaA n hn H
def akV (l : Loc) (neg : Bool) (ds : List UInt8) : List UInt8 := (if neg = true then l.minus else []) ++ ds.take 1 ++ (if (1 : Int) < (ds.length : Int) then l.dc ++ ds.drop 1 else [])
def anH (p : Int) : Nat := (if p < 1 then 1 - p else p - 1).toNat
def bmE (l : Loc) (s : (Bool × List UInt8 × Int) × Int) : List UInt8 :=
 if s.2 ≠ 0 then []
 else if s.1.2.1 = [] ∨ (-4 ≤ (s.1.2.1.length : Int) + s.1.2.2 ∧ (s.1.2.1.length : Int) + s.1.2.2 ≤ 15) then afU l s.1.1 s.1.2.1 ((s.1.2.1.length : Int) + s.1.2.2)
 else akV l s.1.1 s.1.2.1 ++ [69] ++ [if (s.1.2.1.length : Int) + s.1.2.2 < 1 then 45 else 43] ++ (if (dec (anH ((s.1.2.1.length : Int) + s.1.2.2))).length < 2 then [48] else []) ++ dec (anH ((s.1.2.1.length : Int) + s.1.2.2))
theorem bnY {l : Loc} {neg : Bool} (h : ds ≠ []) (hl : ds.length ≤ 300) : afU l neg ds 1 = akV l neg ds := by
 have hp := bP.2 h
 unfold afU akV aaD
 rw [aL (show ¬ ((400 : Int) < 1 ∨ 400 < (ds.length : Int) - 1) by omega), aL (show ¬ (1 : Int) ≤ 0 by decide)]
 by_cases h1 : (ds.length : Int) ≤ 1
 ·rw [aN h1, aL (show ¬ (1 : Int) < (ds.length : Int) by omega), aX (show ds.length ≤ 1 by omega)]
  rw [show ((1 : Int) - (ds.length : Int)).toNat = 0 by omega]
  simp
 rw [aL h1, aN (show (1 : Int) < (ds.length : Int) by omega)]
 have hd : ds.drop 1 ≠ [] := fun q => by have := congrArg List.length q; rw [aW] at this; simp only [bH] at this; omega
 show (if true = true then _ ++ (ds.take 1 ++ (if ds.drop 1 = [] then [] else l.dc ++ ds.drop 1)) else []) = _
 rw [aN rfl, aL hd, aQ]
theorem ceG {n : Nat} : (dec n).length < 2 ↔ n < 10 := by
 have := agM (n := n) (k := 1) aC
 rw [gF] at this
 omega
theorem amX (x n : Nat) : yZ (apT x n).1.2.1 (apT x n).1.2.2 = true := by
 unfold apT
 split
 ·rfl
 unfold buM
 split
 ·exact ajS x
 unfold ceU
 have hd := qC (ajS x)
 exact ajJ (by split; exact arQ (hd.take _); exact hd.take _)
theorem caJ (neg : Bool) (ds : List UInt8) (e : Int) : (mkN neg ds e).1.2.1.length ≤ ds.length := by
 have h : (adA ds).length ≤ ds.length := bE (aiH _ _) (asA _ _)
 unfold mkN
 split
 ·simp
 split
 ·exact h
 simp
theorem awA (x n : Nat) : (apT x n).1.2.1.length ≤ n + 1 := by
 unfold apT
 split
 ·simp
 unfold buM
 split
 ·rename_i h; exact Nat.le_succ_of_le h
 unfold ceU
 refine bE (caJ _ _ _) ?_
 split
 ·refine bE (apB _) ?_
  rw [aS]; omega
 rw [aS]; omega

theorem ayM (l : Loc) (hk : l.ok) (sz : AV) (x : Nat) (hx : x < 18446744073709551616) : Fn 43 [.int .u64 (x : Int), pL l sz] (.str (bmE l (apT x 15))) := by
 intro H
 have hsr := amX x 15
 have hsl := awA x 15
 generalize hs : apT x 15 = s at *
 obtain ⟨⟨neg, ds, e⟩, er⟩ := s
 dsimp only at hsr hsl
 have hml := zK
 have hrl := qM hsr
 have hdd := qC hsr
 have hpd := aoS hsr
 have hwl := ayO (l := l) (neg := neg) (ds := ds) (p := (ds.length : Int) + e) aA hk
 have hkk := hk
 obtain ⟨hk1, hk2, hk3, hk4, hk5⟩ := hkk
 have hel : (dec (anH ((ds.length : Int) + e))).length ≤ 10 := (agM aC).2 (by unfold anH; split <;> omega)
 have hmn : (akV l neg ds).length ≤ 200 := by
  unfold akV
  have a1 : (if neg = true then l.minus else []).length ≤ 10 := by split <;> first | omega | (simp; done)
  have a2 : (if (1 : Int) < (ds.length : Int) then l.dc ++ ds.drop 1 else []).length ≤ 110 := by split <;> simp only [aP, aW, bH] <;> omega
  simp only [aP, aS]; omega
 have hzl : (if (dec (anH ((ds.length : Int) + e))).length < 2 then ([48] : List UInt8) else []).length ≤ 1 := by split <;> simp
 refine .of_body func43 rfl ntmps43 results43 rfl ?_
 iterate 9 refine AX ?_
 refine .cl rfl call106 (.cons (tm rfl) (.cons zH (.cons zH .nil))) (bjI x hx 15 aC aC _) ?_
 rw [hs]
 unfold dT
 dsimp only
 iterate 3 refine AX ?_
 refine .al zr58 (fun b5 hb5 => ?_)
 iterate 4 refine AX ?_
 refine .frz (t := 5) rfl (hb5) ?_
 iterate 7 refine AX ?_
 refine .cx rfl (fun hc16 => ?_) (fun hc16 => ?_)
 ·iterate 8 refine AX ?_
  refine ⟨?_, rfl⟩
  unfold bmE
  dsimp only
  rw [aN (show er ≠ 0 by simpa using hc16)]; rfl
 have her : er = 0 := by simpa using hc16
 subst her
 iterate 5 refine AX ?_
 refine .cl rfl call107 (evs1 rfl) (alB neg ds e hdd _) ?_
 rw [hpd]
 iterate 4 refine AX ?_
 refine .seqTo 29 (.bool (decide (ds = []) || (decide (-4 ≤ ((ds.length : Int) + e)) && decide (((ds.length : Int) + e) ≤ 15)))) [3, 4, 5, 7] ?_ ?_
 ·-- region 5
  refine AX ?_
  refine .p rfl (zA U58 rfl Z9 (tm rfl)) ?_
  iterate 3 refine AX ?_
  refine zD (t := 22) rfl (fun hg22 => ?_) (fun hg22 => ?_)
  ·have hh22 := hg22; try simp only [aO] at hh22
   iterate 8 refine AX ?_
   exact ⟨rfl, zO rfl (by (rw [show decide (ds = []) = _ from hg22]; rfl)) sX, rfl⟩
  have hh22 := hg22; try simp only [aM] at hh22
  iterate 3 refine AX ?_
  refine zD (t := 25) rfl (fun hg25 => ?_) (fun hg25 => ?_)
  ·have hh25 := hg25; try simp only [aO] at hh25
   iterate 5 refine AX ?_
   exact ⟨rfl, zO rfl (by (rw [show decide (ds = []) = _ from hg22, show decide (-4 ≤ ((ds.length : Int) + e)) = _ from hg25]; rfl)) sX, rfl⟩
  have hh25 := hg25; try simp only [aM, dK] at hh25
  iterate 5 refine AX ?_
  exact ⟨rfl, zO rfl (by (rw [show decide (ds = []) = _ from hg22, show decide (-4 ≤ ((ds.length : Int) + e)) = _ from hg25]; rfl)) sX, rfl⟩
 refine .sub [(29, _), (3, _), (4, _), (5, _), (7, _)] sX ?_
 refine .cx rfl (fun hc29 => ?_) (fun hc29 => ?_)
 ·simp only [cN, bK, aO] at hc29
  iterate 4 refine AX ?_
  refine .cl rfl call108 (.cons (tm rfl) (.cons (tm rfl) (.cons yH .nil))) (asK l hk sz neg ds e hsr _) ?_
  iterate 6 refine AX ?_
  refine ⟨?_, rfl⟩
  unfold bmE
  dsimp only
  rw [aL (show ¬ ((0 : Int) ≠ 0) by simp), aN hc29]; rfl
 simp only [cE, bU, aM] at hc29
 have hdn : ds ≠ [] := hc29.1
 have hdp := bP.2 hdn
 have hr1 : yZ ds (1 - (ds.length : Int)) = true := by
  have h := hsr
  rw [aqI hdn] at h ⊢
  unfold aqJ at h ⊢
  simp only [bK, aO] at h ⊢
  refine ⟨⟨⟨⟨⟨h.1.1.1.1.1, by omega⟩, by omega⟩, h.1.1.2⟩, h.1.2⟩, h.2⟩
 iterate 5 refine AX ?_
 refine .p rfl (zA U58 rfl Z4 (tm rfl)) ?_
 refine AX ?_
 refine .p rfl (zA U58 rfl Z9 (tm rfl)) ?_
 refine AX ?_
 refine .p rfl (zA U58 rfl Z9 (tm rfl)) ?_
 iterate 3 refine AX ?_
 refine .p rfl (yB zr58 pl58 (.cons (tm rfl) (.inl rfl) (.cons (tm rfl) (.inl rfl) (.cons (tm rfl) (.inl rfl) .nil))) rfl) (.cl rfl call108 (.cons (tm rfl) (.cons (tm rfl) (.cons yH .nil))) (asK l hk sz neg ds (1 - (ds.length : Int)) hr1 _) ?_)
 rw [show (ds.length : Int) + (1 - (ds.length : Int)) = 1 by omega, bnY hdn aA]
 refine .p rfl (zS (tm rfl) (zR rfl) (by rw [zK]; simp only [aU, bH]; omega)) ?_
 iterate 10 refine AX ?_
 refine .cl rfl call109 (evs1 rfl) (itoaZ _ (anH ((ds.length : Int) + e)) (by unfold anH; simp only [baZ]; split <;> split <;> omega) (by unfold anH; split <;> omega) _) ?_
 iterate 3 refine AX ?_
 refine .seqToL [(8, .str (akV l neg ds ++ [69] ++ [if ((ds.length : Int) + e) < 1 then 45 else 43]))] [4, 9] ?_ ?_
 ·iterate 6 refine AX ?_
  refine .cx rfl (fun hc52 => ?_) (fun hc52 => ?_)
  ·iterate 2 refine AX ?_
   refine .p rfl (zS (tm rfl) (zR rfl) (by rw [zK]; simp only [aP, aU, bH]; omega)) ?_
   iterate 2 refine AX ?_
   exact ⟨rfl, (zN rfl (by (rw [aN aB]; done)) sX), rfl⟩
  iterate 2 refine AX ?_
  refine .p rfl (zS (tm rfl) (zR rfl) (by rw [zK]; simp only [aP, aU, bH]; omega)) ?_
  iterate 2 refine AX ?_
  exact ⟨rfl, (zN rfl (by (rw [aI]; done)) sX), rfl⟩
 refine .sub [(8, _), (4, _), (9, _)] sX ?_
 refine .seqToL [(8, .str (akV l neg ds ++ [69] ++ [if ((ds.length : Int) + e) < 1 then 45 else 43] ++ (if (dec (anH ((ds.length : Int) + e))).length < 2 then ([48] : List UInt8) else [])))] [4, 9] ?_ ?_
 ·iterate 7 refine AX ?_
  refine .cx rfl (fun hc59 => ?_) (fun hc59 => ?_)
  ·iterate 2 refine AX ?_
   refine .p rfl (zS (tm rfl) (zR rfl) (by rw [zK]; simp only [aP, aU, bH]; omega)) ?_
   iterate 2 refine AX ?_
   exact ⟨rfl, (zN rfl (by (rw [aN (show (dec (anH ((ds.length : Int) + e))).length < 2 by omega)]; done)) sX), rfl⟩
  refine AX ?_
  exact ⟨rfl, (zN rfl (by (rw [aL (show ¬ (dec (anH ((ds.length : Int) + e))).length < 2 by omega), bM]; done)) sX), rfl⟩
 refine .sub [(8, _), (4, _), (9, _)] sX ?_
 iterate 4 refine AX ?_
 refine .p rfl (zS (tm rfl) (tm rfl) (by rw [zK]; simp only [aP, aU, bH]; omega)) ?_
 iterate 5 refine AX ?_
 refine ⟨?_, rfl⟩
 unfold bmE
 dsimp only
 rw [aL (show ¬ ((0 : Int) ≠ 0) by simp), aL (show ¬ (ds = [] ∨ (-4 ≤ ((ds.length : Int) + e) ∧ ((ds.length : Int) + e) ≤ 15)) by rintro (q | q); exact hdn q; omega)]; rfl

theorem atA (l : Loc) (hk : l.ok) (x : Nat) (hx : x < 18446744073709551616) (H : Heap) : ACall prog 45 [.int .u64 (x : Int), rL l] H (fun y H' => y = .str (bmE l (apT x 15)) ∧ H' = H) := by
 have hsr := amX x 15
 have hsl := awA x 15
 generalize hs : apT x 15 = s at *
 obtain ⟨⟨neg, ds, e⟩, er⟩ := s
 dsimp only at hsr hsl
 have hml := zK
 have hrl := qM hsr
 have hdd := qC hsr
 have hpd := aoS hsr
 have hwl := ayO (l := l) (neg := neg) (ds := ds) (p := (ds.length : Int) + e) aA hk
 have hkk := hk
 obtain ⟨hk1, hk2, hk3, hk4, hk5⟩ := hkk
 have hel : (dec (anH ((ds.length : Int) + e))).length ≤ 10 := (agM aC).2 (by unfold anH; split <;> omega)
 have hmn : (akV l neg ds).length ≤ 200 := by
  unfold akV
  have a1 : (if neg = true then l.minus else []).length ≤ 10 := by split <;> first | omega | (simp; done)
  have a2 : (if (1 : Int) < (ds.length : Int) then l.dc ++ ds.drop 1 else []).length ≤ 110 := by split <;> simp only [aP, aW, bH] <;> omega
  simp only [aP, aS]; omega
 have hzl : (if (dec (anH ((ds.length : Int) + e))).length < 2 then ([48] : List UInt8) else []).length ≤ 1 := by split <;> simp
 refine ACall.of_body func45 rfl ntmps45 results45 rfl ?_
 iterate 2 refine AX ?_
 refine .e rfl (qG (tm rfl) (.inr ⟨_, rfl⟩)) ?_
 iterate 6 refine AX ?_
 refine .cl rfl call28 (.cons (tm rfl) (.cons zH (.cons zH .nil))) (bdK x hx 15 aC aC _) ?_
 rw [hs]
 unfold dT
 dsimp only
 iterate 3 refine AX ?_
 refine .al zr58 (fun b5 hb5 => ?_)
 refine .e0 (zP Z58 (tm rfl) (tm rfl) rfl rfl (.inr ⟨_, rfl⟩) (oS _ _ _) (lB rfl)) ?_
 try first | rw [sS] | rw [sU aB]
 iterate 3 refine AX ?_
 refine AWP.frz (t := 5) rfl (hb5) ?_
 iterate 7 refine AX ?_
 refine AWP.cond (tm rfl) (fun hc16 => ?_) (fun hc16 => ?_)
 ·try simp only [aO, ne_eq] at hc16
  iterate 7 refine AX ?_
  refine Ret.go (.cons (.tmp _ _ rfl) .nil) _ (hRa _) ?_
  refine ⟨?_, rfl⟩
  unfold bmE
  dsimp only
  rw [aN (show er ≠ 0 by simpa using hc16)]; rfl
 try simp only [aM, ne_eq, dP] at hc16
 have her : er = 0 := by simpa using hc16
 subst her
 iterate 5 refine AX ?_
 refine .cl rfl call79 (evs1 rfl) (aiR neg ds e aA _) ?_
 rw [hpd]
 iterate 4 refine AX ?_
 refine AWP.seqTo 30 (.bool (decide ((ds.length : Int) = 0) || (decide (-4 ≤ ((ds.length : Int) + e)) && decide (((ds.length : Int) + e) ≤ 15)))) [3, 4, 5, 7] ?_ ?_
 ·-- region 5
  refine AX ?_
  refine .p rfl (zA U58 rfl Z9 (tm rfl)) ?_
  iterate 4 refine AX ?_
  refine zD (t := 23) rfl (fun hg23 => ?_) (fun hg23 => ?_)
  ·have hh23 := hg23; try simp only [aO] at hh23
   iterate 8 refine AX ?_
   exact ⟨rfl, zO rfl (by (rw [show decide ((ds.length : Int) = 0) = _ from hg23]; rfl)) sX, rfl⟩
  have hh23 := hg23; try simp only [aM] at hh23
  iterate 3 refine AX ?_
  refine zD (t := 26) rfl (fun hg26 => ?_) (fun hg26 => ?_)
  ·have hh26 := hg26; try simp only [aO] at hh26
   iterate 5 refine AX ?_
   exact ⟨rfl, zO rfl (by (rw [show decide ((ds.length : Int) = 0) = _ from hg23, show decide (-4 ≤ ((ds.length : Int) + e)) = _ from hg26]; rfl)) sX, rfl⟩
  have hh26 := hg26; try simp only [aM, dK] at hh26
  iterate 5 refine AX ?_
  exact ⟨rfl, zO rfl (by (rw [show decide ((ds.length : Int) = 0) = _ from hg23, show decide (-4 ≤ ((ds.length : Int) + e)) = _ from hg26]; rfl)) sX, rfl⟩
 refine AWP.sub [(30, _), (3, _), (4, _), (5, _), (7, _)] sX ?_
 refine AWP.cond (tm rfl) (fun hc30 => ?_) (fun hc30 => ?_)
 ·try simp only [aK] at hc30
  simp only [cN, bK, aO] at hc30
  have hc30b : ds = [] ∨ (-4 ≤ ((ds.length : Int) + e) ∧ ((ds.length : Int) + e) ≤ 15) := hc30.imp (fun q => bV.1 aA) id
  iterate 4 refine AX ?_
  refine .cl rfl call110 (.cons (tm rfl) (.cons (tm rfl) (.cons yH .nil))) (azQ l hk neg ds e hsr _) ?_
  iterate 5 refine AX ?_
  refine Ret.go (.cons (.tmp _ _ rfl) .nil) _ (hRa _) ?_
  refine ⟨?_, rfl⟩
  unfold bmE
  dsimp only
  rw [aL (show ¬ ((0 : Int) ≠ 0) by simp), aN hc30b]; rfl
 try simp only [aK] at hc30
 simp only [cE, bU, aM] at hc30
 have hdp : 0 < ds.length := by omega
 have hdn := bP.1 hdp
 iterate 7 refine AX ?_
 refine AWP.seqToL [(8, .str (if neg = true then l.minus else []))] [3, 4, 5, 7] ?_ ?_
 ·iterate 2 refine AX ?_
  refine .p rfl (zA U58 rfl Z4 (tm rfl)) ?_
  iterate 3 refine AX ?_
  refine AWP.cond (tm rfl) (fun hc35 => ?_) (fun hc35 => ?_)
  ·try simp only [aK] at hc35
   refine AX ?_
   refine .p rfl (zA U31 rfl Z9 (tm rfl)) (.p rfl (zY G9 (tm rfl)) (.as rfl rfl (.nil ?_)))
   exact ⟨rfl, (zN rfl (by (rw [aN aB]; done)) sX), rfl⟩
  try simp only [aK] at hc35
  refine .skip ?_
  exact ⟨rfl, (zN rfl (by (rw [aL (by (rw [hc35]; decide))]; done)) sX), rfl⟩
 refine AWP.sub [(8, _), (3, _), (4, _), (5, _), (7, _)] sX ?_
 have hmw : (if neg = true then l.minus else []).length ≤ 10 := by split <;> first | omega | (simp; done)
 refine .seq (.region (.mv rfl rfl (.p rfl (zA U58 rfl Z9 (tm rfl)) (.p rfl (zY G9 (tm rfl)) (.p rfl (akB U9 (tm rfl) zH aA aA) (.p rfl (zS (tm rfl) (tm rfl) (by rw [zK]; simp only [aS]; omega)) (.as rfl rfl (.nil ?_))))))))
 refine Next.go ?_
 refine AWP.seqToL [(8, .str (akV l neg ds))] [4, 7] ?_ ?_
 ·refine .seq (.region (.p rfl (zA U58 rfl Z9 (tm rfl)) ?_))
  iterate 5 refine AX ?_
  refine AWP.cond (tm rfl) (fun hc46 => ?_) (fun hc46 => ?_)
  ·try simp only [aO] at hc46
   refine AWP.draw [(0, true), (1, true), (2, true), (3, true), (4, true), (5, true), (6, true), (7, true), (8, true)] rfl aE ?_
   refine AX ?_
   refine .p rfl rfl (zA U31 rfl Z9 (tm rfl)) ?_
   refine AX ?_
   refine .p rfl rfl (zS (tm rfl) (tm rfl) (by rw [zK]; simp only [aP, aS]; omega)) (.p rfl rfl (zA U58 rfl Z9 (tm rfl)) ?_)
   iterate 2 refine AX ?_
   refine .p rfl rfl (zS (tm rfl) (tm rfl) (by rw [zK]; simp only [aP, aS, aW]; omega)) ?_
   iterate 2 refine AX ?_
   exact ⟨rfl, (zN rfl (by unfold akV; first | (rw [aN (show (1 : Int) < (ds.length : Int) by omega), aQ]; first | done | (simp only [aQ]; rfl)) | (rw [aL (show ¬ (1 : Int) < (ds.length : Int) by omega), bM]; rfl)) sX), rfl⟩
  try simp only [aM, cH] at hc46
  refine AX ?_
  exact ⟨rfl, (zN rfl (by unfold akV; first | (rw [aN (show (1 : Int) < (ds.length : Int) by omega), aQ]; first | done | (simp only [aQ]; rfl)) | (rw [aL (show ¬ (1 : Int) < (ds.length : Int) by omega), bM]; rfl)) sX), rfl⟩
 refine AWP.sub [(8, _), (4, _), (7, _)] sX ?_
 iterate 10 refine AX ?_
 refine .p rfl (zS (tm rfl) (zR rfl) (by rw [zK]; simp only [aU, bH]; omega)) ?_
 iterate 3 refine AX ?_
 refine AWP.seqToL [(9, .int .i64 ((anH ((ds.length : Int) + e) : Nat) : Int)), (8, .str (akV l neg ds ++ [69] ++ [if ((ds.length : Int) + e) < 1 then 45 else 43]))] [4] ?_ ?_
 ·iterate 6 refine AX ?_
  refine AWP.cond (tm rfl) (fun hc60 => ?_) (fun hc60 => ?_)
  ·try simp only [aO] at hc60
   iterate 9 refine AX ?_
   refine .p rfl (zS (tm rfl) (zR rfl) (by rw [zK]; simp only [aP, aU, bH]; omega)) ?_
   iterate 2 refine AX ?_
   exact ⟨rfl, (zN rfl (by (congr 1; unfold anH; rw [aJ]; omega)) (zN rfl (by (rw [aJ]; done)) (zJ rfl yJ))), rfl⟩
  try simp only [aM, cH] at hc60
  iterate 2 refine AX ?_
  refine .p rfl (zS (tm rfl) (zR rfl) (by rw [zK]; simp only [aP, aU, bH]; omega)) ?_
  iterate 2 refine AX ?_
  exact ⟨rfl, (zN rfl (by (congr 1; unfold anH; rw [aI]; omega)) (zN rfl (by (rw [aI]; done)) (zJ rfl yJ))), rfl⟩
 refine AWP.sub [(9, _), (8, _), (4, _)] sX ?_
 have hen : anH ((ds.length : Int) + e) ≤ 200000 := by unfold anH; split <;> omega
 have hd2 := ceG (n := anH ((ds.length : Int) + e))
 refine AWP.seqToL [(8, .str (akV l neg ds ++ [69] ++ [if ((ds.length : Int) + e) < 1 then 45 else 43] ++ (if (dec (anH ((ds.length : Int) + e))).length < 2 then ([48] : List UInt8) else [])))] [9, 4] ?_ ?_
 ·iterate 6 refine AX ?_
  refine AWP.cond (tm rfl) (fun hc68 => ?_) (fun hc68 => ?_)
  ·try simp only [aO] at hc68
   iterate 2 refine AX ?_
   refine .p rfl (zS (tm rfl) (zR rfl) (by rw [zK]; simp only [aP, aU, bH]; omega)) ?_
   iterate 2 refine AX ?_
   exact ⟨rfl, (zN rfl (by (rw [aN (show (dec (anH ((ds.length : Int) + e))).length < 2 by omega)]; done)) sX), rfl⟩
  try simp only [aM, cH] at hc68
  refine AX ?_
  exact ⟨rfl, (zN rfl (by (rw [aL (show ¬ (dec (anH ((ds.length : Int) + e))).length < 2 by omega), bM]; done)) sX), rfl⟩
 refine AWP.sub [(8, _), (9, _), (4, _)] sX ?_
 iterate 4 refine AX ?_
 refine .cl rfl call111 (evs1 rfl) (rnumberZ _ (anH ((ds.length : Int) + e)) aA aA _) (.p rfl (zS (tm rfl) (tm rfl) (by rw [zK]; simp only [aP, aU, bH]; omega)) ?_)
 iterate 4 refine AX ?_
 refine Ret.go (.cons (.tmp _ _ rfl) .nil) _ (hRa _) ?_
 refine ⟨?_, rfl⟩
 unfold bmE
 dsimp only
 rw [aL (show ¬ ((0 : Int) ≠ 0) by simp), aL (show ¬ (ds = [] ∨ (-4 ≤ ((ds.length : Int) + e) ∧ ((ds.length : Int) + e) ≤ 15)) by rintro (q | q); exact hdn q; omega)]; rfl

end
end Go.Proofs.YtmmgbnolccpjoaaGreatDoor
