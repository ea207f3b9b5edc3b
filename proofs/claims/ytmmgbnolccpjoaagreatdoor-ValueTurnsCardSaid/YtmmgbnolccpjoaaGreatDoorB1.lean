import Derived.Test.YtmmgbnolccpjoaaGreatDoorV3
set_option maxHeartbeats 1000000
namespace Go.Proofs.YtmmgbnolccpjoaaGreatDoor
open Go.Proofs.Tryz
open Go Go.RowKit
variable {i v : Nat} {ds : List UInt8}
section
set_option maxRecDepth 100000

theorem bkM {y : Nat} (h : 0 < y) : yG y = yG (y / 2) + 1 := by
 rcases cD y 2 with q | q
 ·have : y = 1 := by omega
  subst this; rfl
 have := aeZ (n := y) (k := 1) (m := y / 2) aA rfl
 omega

theorem btW {a m k : Nat} : a / 2 ^ m % 2 ^ (k + 1) = 2 * (a / 2 ^ (m + 1) % 2 ^ k) + a / 2 ^ m % 2 := by
 rw [bR 2 m, ← bY, bR 2 k, bL (2 ^ k), Nat.mod_mul]
 omega
theorem biG (h : v % 2 ^ i = 0) : v % 2 ^ (i + 1) = 2 ^ i * (v / 2 ^ i % 2) := by
 rw [bR, Nat.mod_mul, h, bZ]
theorem bwV {n : Nat} (h : v % 2 ^ i = 0) (hn : i = n ∨ v < 2 ^ i) (hin : i ≤ n) : v % 2 ^ n = 0 := by
 rcases hn with rfl | hn
 ·exact h
 rw [bB hn] at h
 subst h; exact Nat.zero_mod _
theorem cdA {n : Nat} (hin : i < n) (h : v % 2 ^ i = 0) (hb : v / 2 ^ i % 2 = 1) : v % 2 ^ n ≠ 0 := by
 intro q
 have h1 := biG h
 rw [hb, fH] at h1
 have h2 : v % 2 ^ (i + 1) = 0 := by
  have := Nat.mod_mod_of_dvd v (Nat.pow_dvd_pow 2 (show i + 1 ≤ n by omega))
  rw [q] at this
  rw [← this]; exact Nat.zero_mod _
 have := bN (n := i) (show 0 < 2 by decide)
 omega

def bzZ (v : Nat) (H : Heap) : Nat → Env → Heap → Prop := fun k env H1 => ∃ (i y : Nat), i + yG y = yG ((zE v).getD ((zE v).length - 1) 0) ∧ y < 4294967296 ∧ env = [(4, .int .i64 (32 * (((zE v).length : Int) - 1) + (i : Int))), (5, .int .u32 (y : Int))] ∧ H = H1 ∧ k = yG y

theorem agS (xs : List Nat) (tl : Tail) (hx : Limbs xs) (hl : xs.length ≤ 100000) (H : Heap) : ACall prog 85 [.slice 1 (U .u32 xs) tl] H (fun y H' => y = .int .i64 (yG (val xs) : Int) ∧ H' = H) := by
 have hT := aaL xs tl hx aA
 have hvl : (zE (val xs)).length ≤ xs.length := by rw [← abC hx]; exact aaO xs
 generalize val xs = v at *
 have hgt := Limbs.getD (zF v) ((zE v).length - 1)
 have hb32 := (yP (n := ((zE v).getD ((zE v).length - 1) 0)) (k := 32)).2 (by rw [show (2 : Nat) ^ 32 = 4294967296 by decide]; exact hgt)
 refine ACall.of_body func85 rfl ntmps85 results85 rfl ?_
 iterate 8 refine AX ?_
 refine .cl rfl C153 (evs1 rfl) (hT _) ?_
 iterate 11 refine AX ?_
 refine AWP.cx rfl (fun hc10 => ?_) (fun hc10 => ?_)
 ·have hv0 : v = 0 := by
   rcases bF v with h | h
   ·exact h
   rw [qJ h] at hc10; simp only [aU] at hc10; omega
  iterate 8 refine AX ?_
  refine ⟨?_, rfl⟩
  subst hv0; rfl
 have hvp : 0 < v := by
  rcases bF v with h | h
  ·subst h; exact absurd rfl hc10
  exact h
 have hbl := ajT hvp
 have hlp : 0 < (zE v).length := by rw [qJ hvp]; simp
 iterate 17 refine AX ?_
 refine .p rfl (zU ((zE v).length - 1) U107 Z166 (tm rfl) (tm rfl) aA aA) ?_
 iterate 6 refine AX ?_
 refine AWP.loopW (bzZ v H) (yG ((zE v).getD ((zE v).length - 1) 0)) ⟨0, ((zE v).getD ((zE v).length - 1) 0), by omega, hgt, rfl, rfl, rfl⟩ (zN rfl (by congr 1; try omega) (zJ rfl yJ)) (hRa _) ?_
 rintro _ _ _ ⟨i, y, hi, hy, rfl, rfl, rfl⟩
 iterate 7 refine AM ?_
 refine AWP.cx rfl (fun hc22 => ?_) (fun hc22 => ?_)
 ·iterate 12 refine AX ?_
  refine .p rfl (bkU (tm rfl) (zI 2) aB aA) ?_
  iterate 4 refine AX ?_
  have hbh := bkM (y := y) aA
  refine Round.mk (J := bzZ v H) ⟨i + 1, y / 2, by omega, by omega, rfl, rfl, rfl⟩ (zN rfl (by congr 1; try omega) (zJ rfl yJ)) (hRa _) aA
 have hy0 : y = 0 := by omega
 subst hy0
 rw [btU] at hi
 iterate 13 refine AX ?_
 refine ⟨?_, rfl⟩
 show AV.int .i64 _ = AV.int .i64 _
 congr 1
 omega

def bsM (xs : List Nat) (tl : Tail) (n : Nat) (q : Int) (H : Heap) : Nat → Env → Heap → Prop := fun k env H1 => ∃ c : Nat, c ≤ 64 ∧ env = [(0, .slice 1 (U .u32 xs) tl), (1, .int .i64 q), (5, .int .u64 ((val xs / 2 ^ (n + c) % 2 ^ (64 - c) : Nat) : Int)), (6, .int .i64 ((c : Int) - 1))] ∧ H = H1 ∧ c = k

theorem aqK (xs : List Nat) (tl : Tail) (hx : Limbs xs) (hl : xs.length ≤ 100000) (n : Nat) (hn : n ≤ 100000000) (q : Int) (hq : q = (n : Int)) (H : Heap) : ACall prog 150 [.slice 1 (U .u32 xs) tl, .int .i64 q] H (fun y H' => y = .int .u64 ((val xs / 2 ^ n % 18446744073709551616 : Nat) : Int) ∧ H' = H) := by
 subst hq
 refine ACall.of_body func150 rfl ntmps150 results150 rfl ?_
 iterate 13 refine AM ?_
 iterate 4 refine AX ?_
 refine AWP.loopW (bsM xs tl n (n : Int) H) (64) ⟨64, aT _, rfl, rfl, rfl⟩ (zJ rfl (zJ rfl (zN rfl (by simp [Nat.mod_one]) (zJ rfl yJ)))) (hRa _) ?_
 rintro _ _ _ ⟨c, hc, rfl, rfl, rfl⟩
 iterate 7 refine AX ?_
 refine AWP.cx rfl (fun hc8 => ?_) (fun hc8 => ?_)
 ·have hbn : val xs / 2 ^ (n + (c - 1)) % 2 ^ (64 - (c - 1)) = 2 * (val xs / 2 ^ (n + c) % 2 ^ (64 - c)) + val xs / 2 ^ (n + (c - 1)) % 2 := by
   have := @btW (val xs) (n + (c - 1)) (64 - c)
   rw [show 64 - c + 1 = 64 - (c - 1) by omega, show n + (c - 1) + 1 = n + c by omega] at this
   exact this
  have hlt : val xs / 2 ^ (n + c) % 2 ^ (64 - c) < 9223372036854775808 := bQ (bT _ (bN aC)) (bE (aZ aC (show 64 - c ≤ 63 by omega)) aC)
  iterate 17 refine AM ?_
  refine .cl rfl C151 (evs2 rfl rfl) (agT xs tl hx aA (n + (c - 1)) aA _ aA _) ?_
  iterate 2 refine AX ?_
  refine AWP.cx rfl (fun hc17 => ?_) (fun hc17 => ?_)
  ·iterate 9 refine AM ?_
   iterate 4 refine AX ?_
   refine Round.mk (J := bsM xs tl n (n : Int) H) ⟨c - 1, by omega, rfl, rfl, rfl⟩ (zJ rfl (zJ rfl (zN rfl (congrArg (fun w : Nat => AV.int .u64 (w : Int)) (show _ = val xs / 2 ^ (n + (c - 1)) % 2 ^ (64 - (c - 1)) by omega)) (zN rfl (by congr 1; omega) yJ)))) (hRa _) aA
  iterate 9 refine AX ?_
  refine Round.mk (J := bsM xs tl n (n : Int) H) ⟨c - 1, by omega, rfl, rfl, rfl⟩ (zJ rfl (zJ rfl (zN rfl (congrArg (fun w : Nat => AV.int .u64 (w : Int)) (show _ = val xs / 2 ^ (n + (c - 1)) % 2 ^ (64 - (c - 1)) by omega)) (zN rfl (by congr 1; omega) yJ)))) (hRa _) aA
 have hc0 : c = 0 := by omega
 subst hc0
 iterate 13 refine AX ?_
 refine ⟨?_, rfl⟩
 rw [cI, gB, show (2 : Nat) ^ 64 = 18446744073709551616 by decide]; rfl

def cgF (xs : List Nat) (tl : Tail) (n : Nat) (H : Heap) : Nat → Env → Heap → Prop := fun k env H1 => ∃ i : Nat, i ≤ n ∧ val xs % 2 ^ i = 0 ∧ env = [(0, .slice 1 (U .u32 xs) tl), (1, .int .i64 (n : Int)), (5, .int .i64 (i : Int))] ∧ H = H1 ∧ k = n - i

theorem bkC (xs : List Nat) (tl : Tail) (hx : Limbs xs) (hl : xs.length ≤ 100000) (n : Nat) (hn : n ≤ 100000000) (q : Int) (hq : q = (n : Int)) (H : Heap) : ACall prog 152 [.slice 1 (U .u32 xs) tl, .int .i64 q] H (fun y H' => y = .bool (decide (val xs % 2 ^ n ≠ 0)) ∧ H' = H) := by
 subst hq
 refine ACall.of_body func152 rfl ntmps152 results152 rfl ?_
 iterate 12 refine AX ?_
 refine AWP.loopW (cgF xs tl n H) (n) ⟨0, Nat.zero_le _, by simp [Nat.mod_one], rfl, rfl, rfl⟩ sX (hRa _) ?_
 rintro _ _ _ ⟨i, hi, hl0, rfl, rfl, rfl⟩
 refine AX ?_
 refine AWP.seqTo 15 (.bool (decide ((i : Int) < (n : Int)) && decide ((i : Int) < 32 * (xs.length : Int)))) [0, 1, 5] ?_ ?_
 ·-- region 2
  iterate 5 refine AX ?_
  refine zD (t := 9) rfl (fun hg9 => ?_) (fun hg9 => ?_)
  ·iterate 7 refine AX ?_
   exact ⟨rfl, zO rfl (by (rw [show decide ((i : Int) < (n : Int)) = _ from hg9]; rfl)) sX, rfl⟩
  iterate 7 refine AX ?_
  exact ⟨rfl, zO rfl (by (rw [show decide ((i : Int) < (n : Int)) = _ from hg9]; rfl)) sX, rfl⟩
 refine AWP.sub [(15, _), (0, _), (1, _), (5, _)] sX ?_
 refine AWP.cx rfl (fun hc15 => ?_) (fun hc15 => ?_)
 ·simp only [bK, aO] at hc15
  iterate 8 refine AX ?_
  refine .cl rfl C151 (evs2 rfl rfl) (agT xs tl hx aA i aA _ rfl _) ?_
  iterate 2 refine AX ?_
  refine AWP.cx rfl (fun hc20 => ?_) (fun hc20 => ?_)
  ·iterate 12 refine AX ?_
   refine ⟨?_, rfl⟩
   rw [bG (cdA aA hl0 aA)]; rfl
  iterate 9 refine AX ?_
  refine Round.mk (J := cgF xs tl n H) ⟨i + 1, by omega, by rw [biG hl0, show val xs / 2 ^ i % 2 = 0 by omega, dG], rfl, rfl, rfl⟩ sX (hRa _) aA
 simp only [bU, aM] at hc15
 have hvl := afW hx
 rw [show (4294967296 : Nat) = 2 ^ 32 by decide, ← dW] at hvl
 have hov : val xs % 2 ^ n = 0 := bwV hl0 (by rcases hc15 with h | h; exact .inl aA; exact .inr (bQ hvl (aZ aC aA))) hi
 iterate 12 refine AX ?_
 refine ⟨?_, rfl⟩
 rw [bD (by rw [hov]; simp)]; rfl

end
section
open Go Go.RowKit
set_option maxRecDepth 100000

theorem byM {xs : List Nat} (hx : Limbs xs) : yG (val xs) ≤ 32 * xs.length := yP.2 (by have := afW hx; rw [show (4294967296 : Nat) = 2 ^ 32 by decide, ← dW] at this; exact this)
theorem bwT {e : Int} {more : Bool} (h : e < yC v e) : acN v e more = if (decide (((v / 2 ^ (((yC v e - e).toNat) - 1) % 2 : Nat) : Int) = 1) && ((decide (v % 2 ^ (((yC v e - e).toNat) - 1) ≠ 0) || more) || decide (((v / 2 ^ ((yC v e - e).toNat) % 2 : Nat) : Int) = ((1 : Nat) : Int)))) = true then v / 2 ^ ((yC v e - e).toNat) + 1 else v / 2 ^ ((yC v e - e).toNat) := by
 rw [brJ h]
 simp only [bK, cN, aO, or_assoc]
 congr 1
 refine propext ⟨fun q => ⟨by omega, q.2.imp_right (Or.imp_right (fun w => by omega))⟩, fun q => ⟨by omega, q.2.imp_right (Or.imp_right (fun w => by omega))⟩⟩

theorem anZ (neg : Bool) (xs : List Nat) (tl : Tail) (hx : Limbs xs) (hl : xs.length ≤ 10000) (e : Int) (he : -10000 ≤ e ∧ e ≤ 1000000) (more : Bool) : Fn 82 [.bool neg, .slice 1 (U .u32 xs) tl, .int .i64 e, .bool more] (.int .u64 ((zX neg (val xs) e more : Nat) : Int)) := by
 intro H
 have hbl : yG (val xs) ≤ 320000 := by have := byM hx; omega
 have hb0 := @blen0 (val xs)
 have hun : yC (val xs) e = if e + yG (val xs) - 53 < -1074 then -1074 else e + yG (val xs) - 53 := rfl
 have hul := avU (val xs) e
 have hur : yC (val xs) e ≤ 2000000 := by rw [hun]; split <;> omega
 have hml := akU (val xs) e more
 have hsg : aaA neg ≤ 9223372036854775808 := by unfold aaA; split <;> omega
 refine .of_body func82 rfl ntmps82 results82 rfl ?_
 iterate 10 refine AM ?_
 refine .seqToL [(9, .int .u64 ((aaA neg : Nat) : Int))] [1, 2, 3, 8] ?_ ?_
 ·iterate 5 refine AX ?_
  refine .cx rfl (fun hc16 => ?_) (fun hc16 => ?_)
  ·iterate 3 refine AM ?_
   exact ⟨rfl, (zN rfl (by (unfold aaA; rw [aN aB]; done)) sX), rfl⟩
  refine AX ?_
  exact ⟨rfl, (zN rfl (by (unfold aaA; rw [aL aH]; done)) sX), rfl⟩
 refine .sub [(9, _), (1, _), (2, _), (3, _), (8, _)] sX ?_
 iterate 3 refine AX ?_
 refine .cl rfl C85 (evs1 rfl) (agS xs tl hx aA _) ?_
 iterate 4 refine AX ?_
 refine .seqTo 30 (.bool (decide (val xs = 0))) [9, 1, 2, 3, 8, 10] ?_ ?_
 ·-- region 5
  iterate 4 refine AX ?_
  refine zD (t := 21) rfl (fun hg21 => ?_) (fun hg21 => ?_)
  ·have hh21 := hg21; try simp only [aO] at hh21
   iterate 10 refine AX ?_
   exact ⟨rfl, zO rfl (by (simp_all; done)) sX, rfl⟩
  have hh21 := hg21; try simp only [aM] at hh21
  iterate 3 refine AX ?_
  refine zD (t := 24) rfl (fun hg24 => ?_) (fun hg24 => ?_)
  ·have hh24 := hg24; try simp only [aO] at hh24
   iterate 7 refine AX ?_
   exact ⟨rfl, zO rfl (by (simp_all; omega)) sX, rfl⟩
  have hh24 := hg24; try simp only [aM, cH] at hh24
  iterate 7 refine AX ?_
  exact ⟨rfl, zO rfl (by (simp_all; done)) sX, rfl⟩
 refine .sub [(30, _), (9, _), (1, _), (2, _), (3, _), (8, _), (10, _)] sX ?_
 refine .cx rfl (fun hc30 => ?_) (fun hc30 => ?_)
 ·have hv0 : val xs = 0 := by simpa using hc30
  iterate 9 refine AX ?_
  refine ⟨?_, rfl⟩
  unfold zX; rw [aN (.inl hv0)]; rfl
 have hv0 : 0 < val xs := eR (by simpa using hc30)
 have hbp : 0 < yG (val xs) := by omega
 iterate 9 refine AX ?_
 refine .cx rfl (fun hc33 => ?_) (fun hc33 => ?_)
 ·iterate 10 refine AM ?_
  refine ⟨?_, rfl⟩
  unfold zX; rw [aI, aJ]; rfl
 iterate 11 refine AX ?_
 refine .seqToL [(11, .int .i64 (yC (val xs) e))] [9, 1, 2, 3, 8] ?_ ?_
 ·iterate 6 refine AX ?_
  refine .cx rfl (fun hc41 => ?_) (fun hc41 => ?_)
  ·iterate 3 refine AX ?_
   exact ⟨rfl, (zN rfl (by (rw [hun, aJ]; done)) sX), rfl⟩
  refine AX ?_
  exact ⟨rfl, (zN rfl (by (rw [hun, aI]; done)) sX), rfl⟩
 refine .sub [(11, _), (9, _), (1, _), (2, _), (3, _), (8, _)] sX ?_
 iterate 5 refine AM ?_
 refine .seqToL [(12, .int .u64 ((acN (val xs) e more : Nat) : Int))] [11, 9, 8] ?_ ?_
 ·iterate 7 refine AX ?_
  refine .cx rfl (fun hc44 => ?_) (fun hc44 => ?_)
  ·have hfs : val xs * 2 ^ (e - yC (val xs) e).toNat < 18446744073709551616 := bbC hc44
   have hms := arJ (more := more) hc44
   have hur2 := boB hv0 hc44
   iterate 5 refine AX ?_
   refine .cl rfl call87 (evs2 rfl rfl) (aqP xs tl hx hl (e - yC (val xs) e).toNat aA _ aA (dI hfs aE) _) ?_
   refine .cl rfl call150 (.cons (tm rfl) (.cons zH .nil)) (aqK (zE (val xs * 2 ^ (e - yC (val xs) e).toNat)) .shared (zF _) (bE (yK (dI hfs aE)) aC) 0 aC _ rfl _) ?_
   rw [zL, dN, fY, bB hfs]
   iterate 2 refine AX ?_
   exact ⟨rfl, (zN rfl (by rw [hms]) sX), rfl⟩
  have hms := bwT (more := more) hc44
  have hds : val xs / 2 ^ ((yC (val xs) e - e).toNat) < 18446744073709551616 := by
   have := avJ hc44
   rw [← biS aA]; omega
  iterate 12 refine AX ?_
  refine .cl rfl call150 (evs2 rfl rfl) (aqK xs tl hx aA ((yC (val xs) e - e).toNat) aA _ aA _) ?_
  rw [bB hds]
  iterate 8 refine AX ?_
  refine .cl rfl C151 (evs2 rfl rfl) (agT xs tl hx aA (((yC (val xs) e - e).toNat) - 1) aA _ aA _) ?_
  iterate 3 refine AX ?_
  refine .seqTo 15 (.bool (decide (val xs % 2 ^ (((yC (val xs) e - e).toNat) - 1) ≠ 0) || more)) [11, 9, 8, 12, 14] ?_ ?_
  ·-- region 18
   iterate 4 refine AX ?_
   refine .cl rfl call152 (evs2 rfl rfl) (bkC xs tl hx aA (((yC (val xs) e - e).toNat) - 1) aA _ aA _) ?_
   refine AX ?_
   refine zD (t := 65) rfl (fun hg65 => ?_) (fun hg65 => ?_)
   ·have hh65 := hg65; try simp only [aO, ne_eq] at hh65
    iterate 4 refine AX ?_
    exact ⟨rfl, zO rfl (by (simp_all; done)) sX, rfl⟩
   have hh65 := hg65; try simp only [aM, ne_eq, dP] at hh65
   iterate 4 refine AX ?_
   exact ⟨rfl, zO rfl (by (simp_all; done)) sX, rfl⟩
  refine .sub [(15, _), (11, _), (9, _), (8, _), (12, _), (14, _)] sX ?_
  refine .seqTo 76 (.bool ((decide (((val xs / 2 ^ (((yC (val xs) e - e).toNat) - 1) % 2 : Nat) : Int) = 1) && ((decide (val xs % 2 ^ (((yC (val xs) e - e).toNat) - 1) ≠ 0) || more) || decide (((val xs / 2 ^ ((yC (val xs) e - e).toNat) % 2 : Nat) : Int) = ((1 : Nat) : Int)))))) [11, 9, 8, 12] ?_ ?_
  ·-- region 19
   iterate 3 refine AX ?_
   refine zD (t := 69) rfl (fun hg69 => ?_) (fun hg69 => ?_)
   ·have hh69 := hg69; try simp only [aO] at hh69
    iterate 2 refine AX ?_
    refine zD (t := 71) rfl (fun hg71 => ?_) (fun hg71 => ?_)
    ·have hh71 := hg71; try simp only [ne_eq] at hh71
     iterate 6 refine AX ?_
     exact ⟨rfl, zO rfl (by (simp_all; done)) sX, rfl⟩
    have hh71 := hg71; try simp only [ne_eq] at hh71
    iterate 6 refine AM ?_
    exact ⟨rfl, zO rfl (by (simp_all; done)) sX, rfl⟩
   have hh69 := hg69; try simp only [aM] at hh69
   iterate 8 refine AX ?_
   exact ⟨rfl, zO rfl (by (simp_all; done)) sX, rfl⟩
  refine .sub [(76, _), (11, _), (9, _), (8, _), (12, _)] sX ?_
  refine .cx rfl (fun hc76 => ?_) (fun hc76 => ?_)
  ·rw [aN hc76] at hms
   iterate 5 refine AM ?_
   exact ⟨rfl, (zN rfl (by rw [hms]) sX), rfl⟩
  rw [aL (by rw [hc76]; decide)] at hms
  refine AX ?_
  exact ⟨rfl, (zN rfl (by rw [hms]) sX), rfl⟩
 refine .sub [(12, _), (11, _), (9, _), (8, _)] sX ?_
 refine .seqToL [(12, .int .u64 ((anB (acN (val xs) e more) : Nat) : Int)), (11, .int .i64 (alT (acN (val xs) e more) (yC (val xs) e)))] [9, 8] ?_ ?_
 ·iterate 6 refine AM ?_
  refine .cx rfl (fun hc80 => ?_) (fun hc80 => ?_)
  ·iterate 7 refine AM ?_
   iterate 3 refine AX ?_
   exact ⟨rfl, (zN rfl (by (unfold anB; rw [aJ]; done)) (zN rfl (by (unfold alT; rw [aJ]; done)) sX)), rfl⟩
  refine AX ?_
  exact ⟨rfl, (zN rfl (by (unfold anB; rw [aI]; done)) (zN rfl (by (unfold alT; rw [aI]; done)) sX)), rfl⟩
 refine .sub [(12, _), (11, _), (9, _), (8, _)] sX ?_
 have hR : zX neg (val xs) e more = aaA neg + adF (anB (acN (val xs) e more)) (alT (acN (val xs) e more) (yC (val xs) e)) := by
  unfold zX; rw [aI, aI, bhU]
 have hA := bhV hml
 have hU := bhT (acN (val xs) e more) (yC (val xs) e)
 generalize anB (acN (val xs) e more) = m1 at hA hR ⊢
 generalize alT (acN (val xs) e more) (yC (val xs) e) = u1 at hU hR ⊢
 iterate 7 refine AM ?_
 refine .cx rfl (fun hc84 => ?_) (fun hc84 => ?_)
 ·iterate 11 refine AX ?_
  refine ⟨?_, rfl⟩
  rw [hR]; unfold adF; rw [aJ]; rfl
 iterate 10 refine AX ?_
 refine .cx rfl (fun hc90 => ?_) (fun hc90 => ?_)
 ·iterate 10 refine AM ?_
  refine ⟨?_, rfl⟩
  rw [hR]; unfold adF; rw [aI, aJ]; rfl
 iterate 7 refine AX ?_
 refine .p rfl (.as (b := .int .u64 (((u1 + 1075).toNat : Nat) : Int)) (by congr 1; omega) (qX U3 U22 (tm rfl) (wrap64 aA aA))) ?_
 refine .p rfl (qA (tm rfl) (zI 52) aA (by rw [shl52 aA]; omega)) (.p rfl (yR (tm rfl) (tm rfl) (by (rw [shl52 aA]; omega))) ?_)
 refine AX ?_
 refine .p rfl (yR (tm rfl) (tm rfl) (by (rw [shl52 aA]; omega))) (.p rfl (abJ (tm rfl) (zI 4503599627370496) (by (rw [shl52 aA]; omega)) (by (rw [shl52 aA]; omega))) ?_)
 iterate 5 refine AX ?_
 refine ⟨?_, rfl⟩
 rw [hR]; unfold adF; rw [aI, aI]
 exact congrArg (fun w : Nat => AV.int .u64 (w : Int)) (show aaA neg + (u1 + 1075).toNat * 2 ^ 52 + m1 - 4503599627370496 = aaA neg + (m1 + (u1 + 1074).toNat * 4503599627370496) by rw [shl52 aA]; omega)

end
section
open Go Go.RowKit
set_option maxRecDepth 100000

theorem bzJ : ∃ a : Nat, a = 8192 ∧ BIG = 2 ^ a := ⟨8192, rfl, by decide +kernel⟩
theorem aeS {x : Nat} (h : yG x ≤ 8192) : x < BIG := by
 obtain ⟨a, ha, e⟩ := bzJ
 rw [e]; exact yP.1 aA
theorem auF (neg : Bool) (n : Nat) (e : Int) (more : Bool) : zX neg n e more = aaA neg + zX false n e more := by
 unfold zX
 split
 ·rfl
 split
 ·unfold aaA; simp
 rw [axD, axD]; unfold aaA; simp
theorem bhX (h : i < ds.length) : num (ds.take (i + 1)) = num (ds.take i) * 10 + ((ds.getD i 0).toNat - 48) := by
 rw [List.take_add_one, aR, bA h]
 generalize ds[i] = c
 show num (ds.take i ++ [c]) = _
 rw [auS]; unfold num; rw [adL, aoT]; simp
theorem bfW (n : Nat) : yG (n * 10) ≤ yG n + 4 := by
 have h1 : n < 2 ^ yG n := yP.1 (aT _)
 refine yP.2 ?_
 rw [bI]; omega
theorem caH (hd : Digs ds) : yG (num ds) ≤ 10 * ds.length / 3 + 2 := bE (ahE (dS (agY hd))) (ajY _)
theorem cfY (hd : Digs ds) {j : Nat} (h : ds.length + j ≤ 2000) : yG (num ds * 10 ^ j) ≤ 8192 := by
 have h1 : num ds * 10 ^ j ≤ 10 ^ (ds.length + j) := by rw [bI]; exact bC _ (dS (agY hd))
 have := bE (ahE h1) (ajY _)
 omega
def rK (m : Nat) (b : Nat) : Nat := yG b + 70 - yG m
def bcK (neg : Bool) (ds : List UInt8) (e : Int) : Nat := aaA neg + (if ds = [] ∨ (ds.length : Int) + e < -400 then 0 else if 400 < (ds.length : Int) + e then aoG else akO (num ds) e)
theorem bvZ {m : Nat} {k : Int} (hm : 0 < m) (hk : -2000 ≤ k) (h0 : k < 0) : azP m (10 ^ (-k).toNat) (rK m (10 ^ (-k).toNat)) = akO m k := by
 unfold akO
 rw [aI]
 have hbl := ajC (-k).toNat
 have ht := acL (-k).toNat
 have hb := aeE hm
 refine (bhL ht ?_ (by unfold rK; omega) aA).symm
 have h1 := asJ hm
 have h2 := agD (10 ^ (-k).toNat)
 have h3 : 2 ^ 65 ≤ m * 2 ^ rK m (10 ^ (-k).toNat) / 10 ^ (-k).toNat := by
  rw [dJ ht]
  refine bE (bX _ (dS h2)) (bE ?_ (bC _ h1))
  rw [← bI, ← bI]
  exact aZ aC (by unfold rK; omega)
 have := aaQ.2 h3
 omega
theorem blW {r : Nat} : decide ((0 : Int) < ((zE r).length : Int)) = decide (r ≠ 0) := by
 refine aY.2 ⟨fun h q => ?_, fun h => ?_⟩
 ·subst q; rw [show zE 0 = [] by decide +kernel] at h; simp at h
 rw [qJ (eR h)]; simp only [aU]; omega

def bpX (ds : List UInt8) (H : Heap) : Nat → Env → Heap → Prop := fun k env H1 => ∃ (i : Nat) (tl : Tail), i ≤ ds.length ∧ env = [(0, .str ds), (3, .slice 1 (U .u32 (zE (num (ds.take i)))) tl), (4, .int .i64 (i : Int))] ∧ H = H1 ∧ k = ds.length - i

theorem bdZ (ds : List UInt8) (hd : Digs ds) (hl : ds.length ≤ 1200) (H : Heap) : ACall prog 81 [.str ds] H (fun y H' => y = aaN (num ds) ∧ H' = H) := by
 refine ACall.of_body func81 rfl ntmps81 results81 rfl ?_
 iterate 7 refine AX ?_
 refine .e rfl (avX U107 Z166 V166 ) ?_
 iterate 10 refine AM ?_
 refine AWP.loopW (bpX ds H) (ds.length) ⟨0, .full, Nat.zero_le _, rfl, rfl, rfl⟩ (zJ rfl (zN rfl (acU rfl) (zJ rfl yJ))) (hRa _) ?_
 rintro _ _ _ ⟨i, tl, hi, rfl, rfl, hk⟩
 have hbl := caH (hd.take i)
 have htl : (ds.take i).length ≤ 1200 := by rw [aS]; omega
 have hl := yK (n := num (ds.take i)) (aeS aA)
 iterate 9 refine AX ?_
 refine AWP.cond (tm rfl) (fun hc9 => ?_) (fun hc9 => ?_)
 ·try simp only [aO] at hc9
  have hil : i < ds.length := by omega
  have hdi := hd.at hil
  have hdi2 : 48 ≤ (ds.getD ((i : Nat) : Int).toNat 0).toNat ∧ (ds.getD ((i : Nat) : Int).toNat 0).toNat ≤ 57 := hdi
  have hl2 := yK (n := val (zE (num (ds.take i))) * val [10]) (aeS (by have h1 := bfW (num (ds.take i)); rw [zL]; show yG (num (ds.take i) * 10) ≤ _; omega))
  iterate 4 refine AX ?_
  refine AWP.draw [(0, true), (1, true), (2, true), (3, true), (4, true), (5, true), (6, true), (7, true), (8, true), (9, true), (10, true)] rfl aE ?_
  refine AX ?_
  refine APlan.f rfl rfl (fun _ => qQ U107 Z166 V166 rfl (zI 10) (.inl rfl) ⟨rfl, rfl⟩) ?_
  refine APlan.f rfl rfl (fun _ => zB C83 (evs2 rfl rfl) (aeC (zE (num (ds.take i))) tl (zF _) aA [10] .full (Limbs.mk aC Limbs.nil) aC _)) ?_
  refine AX ?_
  refine .p rfl rfl (zM (tm rfl)) (.p rfl rfl (aaT U9 (tm rfl) (tm rfl) aA aA) (.p rfl rfl (auH (tm rfl) (zI 48) aA aA) (.p rfl rfl (qX U5 U166 (tm rfl) (wrapN32 aA)) ?_)))
  refine APlan.f rfl rfl (fun _ => qQ U107 Z166 V166 rfl (tm rfl) (.inl rfl) ⟨rfl, rfl⟩) ?_
  refine APlan.f rfl rfl (fun _ => zB call149 (evs2 rfl rfl) (bdX (zE (val (zE (num (ds.take i))) * val [10])) .shared (zF _) aA [(ds.getD i 0).toNat - 48] .full (Limbs.mk aA Limbs.nil) aF _)) ?_
  iterate 10 refine AM ?_
  refine Round.mk (J := bpX ds H) ⟨i + 1, .shared, by omega, rfl, rfl, rfl⟩ (zJ rfl (zN rfl (congrArg aaN (show _ = num (ds.take (i + 1)) by rw [zL, zL, bhX hil]; rfl)) (zJ rfl yJ))) (hRa _) aA
 try simp only [aM, cH] at hc9
 iterate 12 refine AX ?_
 refine Ret.go (.cons (.weak _ _ _ rfl (.slice _ _ _)) .nil) _ (hRa _) ?_
 refine ⟨?_, rfl⟩
 rw [show i = ds.length by omega, dE]; rfl

theorem apZ (neg : Bool) (x : Nat) (hx : x < 9223372036854775808) : Fn 80 [.bool neg, .int .u64 (x : Int)] (.int .u64 ((aaA neg + x : Nat) : Int)) := by
 intro H
 refine .of_body func80 rfl ntmps80 results80 rfl ?_
 iterate 11 refine AM ?_
 refine .cx rfl (fun hc5 => ?_) (fun hc5 => ?_)
 ·iterate 10 refine AM ?_
  refine ⟨?_, rfl⟩
  unfold aaA; rw [aN aB, eO]; rfl
 iterate 10 refine AX ?_
 refine ⟨?_, rfl⟩
 unfold aaA; rw [aL aH, bZ]; rfl

theorem azW (neg : Bool) (ds : List UInt8) (e : Int) (hr : yZ ds e = true) (hl : ds.length ≤ 1000) (H : Heap) : ACall prog 29 [dA neg ds e] H (fun y H' => y = .int .u64 ((bcK neg ds e : Nat) : Int) ∧ H' = H) := by
 have hd := qC hr
 have hnb := caH hd
 have hrl := qM hr
 refine ACall.of_body func29 rfl ntmps29 results29 rfl ?_
 iterate 2 refine AX ?_
 refine .e rfl (qG (tm rfl) (.inr ⟨_, rfl⟩)) ?_
 iterate 6 refine AM ?_
 refine .cl rfl call79 (evs1 rfl) (aiR neg ds e (by rw [zK]; omega) _) ?_
 rw [show aiA ds e = (ds.length : Int) + e by unfold aiA; rw [aN hr]]
 iterate 5 refine AX ?_
 refine AWP.seqTo 11 (.bool (decide (ds = [] ∨ (ds.length : Int) + e < -400))) [1, 2, 3] ?_ ?_
 ·-- region 2
  refine AX ?_
  refine .p rfl (zA U58 rfl Z9 (tm rfl)) ?_
  iterate 4 refine AX ?_
  refine zD (t := 16) rfl (fun hg16 => ?_) (fun hg16 => ?_)
  ·iterate 5 refine AX ?_
   exact ⟨rfl, zO rfl (by (simp_all; done)) sX, rfl⟩
  iterate 5 refine AX ?_
  exact ⟨rfl, zO rfl (by (simp_all; done)) sX, rfl⟩
 refine AWP.sub [(11, _), (1, _), (2, _), (3, _)] sX ?_
 refine AWP.cond (tm rfl) (fun hc11 => ?_) (fun hc11 => ?_)
 ·try simp only [aO] at hc11
  have hc0 : ds = [] ∨ (ds.length : Int) + e < -400 := hc11
  iterate 2 refine AX ?_
  refine .p rfl (zA U58 rfl Z4 (tm rfl)) ?_
  refine AX ?_
  refine .cl rfl call80 (.cons (tm rfl) (.cons (zI 0) .nil)) (apZ neg 0 aC _) ?_
  iterate 6 refine AX ?_
  refine Ret.go (.cons (.tmp _ _ rfl) .nil) _ (hRa _) ?_
  exact ⟨congrArg (fun w : Nat => AV.int .u64 (w : Int)) (show _ = bcK neg ds e by unfold bcK; rw [aN hc0]), rfl⟩
 try simp only [aM] at hc11
 have hc0 : ¬ (ds = [] ∨ (ds.length : Int) + e < -400) := hc11
 have hne : ds ≠ [] := fun q => hc0 (.inl q)
 iterate 7 refine AX ?_
 refine AWP.cond (tm rfl) (fun hc23 => ?_) (fun hc23 => ?_)
 ·try simp only [aO] at hc23
  iterate 2 refine AX ?_
  refine .p rfl (zA U58 rfl Z4 (tm rfl)) ?_
  refine AX ?_
  refine .cl rfl call80 (.cons (tm rfl) (.cons (zI 9218868437227405312) .nil)) (apZ neg 9218868437227405312 aC _) ?_
  iterate 6 refine AX ?_
  refine Ret.go (.cons (.tmp _ _ rfl) .nil) _ (hRa _) ?_
  exact ⟨congrArg (fun w : Nat => AV.int .u64 (w : Int)) (show _ = bcK neg ds e by unfold bcK; rw [aL hc0, aJ]; rfl), rfl⟩
 try simp only [aM, cH] at hc23
 have hnl := yK (n := num ds) (aeS aA)
 have hn0 : 0 < num ds := bQ (acL _) (azE hr hne).1
 iterate 2 refine AX ?_
 refine Next.go ?_
 refine .seq (.region (.p rfl (zA U58 rfl Z9 (tm rfl)) (.p rfl (zY G9 (tm rfl)) (.cl rfl call81 (evs1 rfl) (bdZ ds hd aA _) (.as rfl rfl (.nil ?_))))))
 refine Next.go ?_
 refine .seq (.seq (.region (.p rfl (zA U58 rfl Z3 (tm rfl)) ?_)))
 iterate 4 refine AX ?_
 refine AWP.cond (tm rfl) (fun hc34 => ?_) (fun hc34 => ?_)
 ·try simp only [aO] at hc34
  have hbe := ajY e.toNat
  have htl := yK (n := 10 ^ e.toNat) (aeS aA)
  have hml := yK (n := num ds * 10 ^ e.toNat) (aeS (cfY hd aA))
  refine AX ?_
  refine AWP.draw [(0, true), (1, true), (2, true), (3, true), (4, true), (5, false), (6, true), (7, false), (8, true)] rfl aE ?_
  refine .p rfl rfl (zA U58 rfl Z4 (tm rfl)) ?_
  iterate 2 refine AX ?_
  refine .p rfl rfl (zA U58 rfl Z3 (tm rfl)) ?_
  refine AX ?_
  refine .s rfl rfl (zB call84 (evs1 rfl) (auD e.toNat aA _ aA (aeS (by have := ajY e.toNat; omega)) _)) ?_
  rintro _ _ ⟨rfl, hH⟩
  obtain rfl := hH.symm
  refine APlan.f rfl rfl (fun _ => zB C83 (evs2 rfl rfl) (aeC (zE (num ds)) .shared (zF _) aA (zE (10 ^ e.toNat)) .shared (zF _) aA _)) ?_
  refine .s rfl rfl (zB call82 (.cons (tm rfl) (.cons (tm rfl) (.cons zH (.cons yH .nil)))) (anZ neg (zE (val (zE (num ds)) * val (zE (10 ^ e.toNat)))) .shared (zF _) (by rw [zL, zL]; omega) 0 aC false _)) ?_
  rintro _ _ ⟨rfl, hH⟩
  obtain rfl := hH.symm
  iterate 4 refine AX ?_
  refine Next.rt ?_
  refine Ret.go (.cons (.tmp _ _ rfl) .nil) _ (hRa _) ?_
  have e1 : zX neg (val (zE (val (zE (num ds)) * val (zE (10 ^ e.toNat))))) 0 false = bcK neg ds e := by
   unfold bcK akO
   rw [aL hc0, aI, aJ, auF, zL, zL, zL]
  exact ⟨congrArg (fun w : Nat => AV.int .u64 (w : Int)) e1, rfl⟩
 try simp only [aM, dK] at hc34
 have hbe := ajY (-e).toNat
 have htl := yK (n := 10 ^ (-e).toNat) (aeS aA)
 have hbp := acL (-e).toNat
 have hbb := aeE hbp
 have hnp := aeE hn0
 have hk : rK (num ds) (10 ^ (-e).toNat) = yG (10 ^ (-e).toNat) + 70 - yG (num ds) := rfl
 have hup : num ds * 2 ^ rK (num ds) (10 ^ (-e).toNat) < BIG := aeS (by rw [bjA hn0]; omega)
 have hul := yK hup
 have hql := yK (n := num ds * 2 ^ rK (num ds) (10 ^ (-e).toNat) / 10 ^ (-e).toNat) (aV (dF _ _) hup)
 refine .skip ?_
 refine Next.go ?_
 refine .seq (.region (.p rfl (zA U58 rfl Z3 (tm rfl)) (.p rfl (zY G3 (tm rfl)) (.p rfl (bhN (tm rfl) aA) (.cl rfl call84 (evs1 rfl) (auD (-e).toNat aA _ aA (aeS aA) _) (.as rfl rfl (.nil ?_)))))))
 refine Next.go ?_
 refine .seq (.region (.p rfl (zG zH) (.nil ?_)))
 refine Next.go ?_
 refine AWP.seqToL [(6, .int .i64 ((rK (num ds) (10 ^ (-e).toNat) : Nat) : Int))] [1, 2, 4, 5] ?_ ?_
 ·refine .seq (.region (.mv rfl rfl (.cl rfl C85 (evs1 rfl) (agS (zE (10 ^ (-e).toNat)) .shared (zF _) aA _) ?_)))
  rw [zL]
  refine .mv rfl rfl (.cl rfl C85 (evs1 rfl) (agS (zE (num ds)) .shared (zF _) aA _) ?_)
  rw [zL]
  refine .p rfl (acW (tm rfl) (tm rfl) aA) (.p rfl (acF (tm rfl) zH aA) (.p rfl (qW (tm rfl) zH) (.nil ?_)))
  refine Next.go ?_
  refine AWP.cond (tm rfl) (fun hc53 => ?_) (fun hc53 => ?_)
  ·try simp only [aO] at hc53
   refine .region (.mv rfl rfl (.cl rfl C85 (evs1 rfl) (agS (zE (10 ^ (-e).toNat)) .shared (zF _) aA _) ?_))
   rw [zL]
   refine .mv rfl rfl (.cl rfl C85 (evs1 rfl) (agS (zE (num ds)) .shared (zF _) aA _) ?_)
   rw [zL]
   refine .p rfl (acW (tm rfl) (tm rfl) aA) (.p rfl (acF (tm rfl) zH aA) (.as rfl rfl (.nil ?_)))
   exact ⟨rfl, (zN rfl (by (rw [hk]; exact congrArg (AV.int .i64) aA)) sX), rfl⟩
  try simp only [aM, cH] at hc53
  refine .skip ?_
  exact ⟨rfl, (zN rfl (by (rw [hk]; exact congrArg (AV.int .i64) aA)) sX), rfl⟩
 refine AWP.sub [(6, _), (1, _), (2, _), (4, _), (5, _)] sX ?_
 refine .seq (.region (.mv rfl rfl (.mv rfl rfl (.cl rfl call87 (evs2 rfl rfl) (aqP (zE (num ds)) .shared (zF _) aA (rK (num ds) (10 ^ (-e).toNat)) aA _ rfl (by rw [zL]; exact hup) _) ?_))))
 rw [zL]
 refine .mv rfl rfl ?_
 refine .cl rfl call86 (evs2 rfl rfl) (aoA (zE (num ds * 2 ^ rK (num ds) (10 ^ (-e).toNat))) .shared (zF _) aA (zE (10 ^ (-e).toNat)) .shared (zF _) aA (by rw [zL]; exact hbp) _) ?_
 rw [zL]
 rw [zL]
 refine .mv rfl rfl (.p rfl (zW (tm rfl) rfl) (.p rfl (zW (tm rfl) rfl) (.as rfl rfl (.as rfl rfl (.nil ?_)))))
 refine Next.go ?_
 refine .seq (.region (.p rfl (zA U58 rfl Z4 (tm rfl)) ?_))
 iterate 7 refine AX ?_
 refine .cl rfl call82 (.cons (tm rfl) (evs3 rfl rfl rfl)) (anZ neg (zE (num ds * 2 ^ rK (num ds) (10 ^ (-e).toNat) / (10 ^ (-e).toNat))) .shared (zF _) aA (-((rK (num ds) (10 ^ (-e).toNat) : Nat) : Int)) aA _ _) ?_
 iterate 4 refine AX ?_
 refine Ret.go (.cons (.tmp _ _ rfl) .nil) _ (hRa _) ?_
 have hrr := bvZ (m := num ds) (k := e) hn0 aA aA
 unfold azP at hrr
 have e1 : zX neg (val (zE (num ds * 2 ^ rK (num ds) (10 ^ (-e).toNat) / 10 ^ (-e).toNat))) (-((rK (num ds) (10 ^ (-e).toNat) : Nat) : Int)) (decide ((0 : Int) < ((zE (num ds * 2 ^ rK (num ds) (10 ^ (-e).toNat) % 10 ^ (-e).toNat)).length : Int))) = bcK neg ds e := by
  unfold bcK
  rw [aL hc0, aI, auF, zL, blW, hrr]
 exact ⟨congrArg (fun w : Nat => AV.int .u64 (w : Int)) e1, rfl⟩

theorem bpW {neg : Bool} {e : Int} (hr : yZ ds e = true) : bcK neg ds e = aiX neg ds e := by
 unfold bcK aiX
 congr 1
 by_cases h0 : ds = []
 ·unfold aiL; rw [aN (.inl h0), aN (.inl h0)]
 by_cases h1 : (ds.length : Int) + e < -400
 ·unfold aiL; rw [aN (.inr h1), aN (.inr aA)]
 by_cases h2 : 400 < (ds.length : Int) + e
 ·unfold aiL; rw [aL (by simp [h0, h1]), aN h2, aL (by simp [h0]; omega), aJ]
 rw [aL (by simp [h0, h1]), aL h2, boV hr h0 ⟨by omega, by omega⟩]

end
end Go.Proofs.YtmmgbnolccpjoaaGreatDoor
