import Derived.Test.YtfkeflcdadlmdaaGreatDoorYd
import Derived.Test.YtfkeflcdadlmdaaGreatDoorSsk
import Derived.Test.YtfkeflcdadlmdaaGreatDoorR1
import Derived.Test.YtfkeflcdadlmdaaGreatDoorN1
import Derived.Test.YtfkeflcdadlmdaaGreatDoorP2
import Derived.Test.YtfkeflcdadlmdaaGreatDoorQ3
import Derived.Test.YtfkeflcdadlmdaaGreatDoorD1
namespace Go.Proofs.YtfkeflcdadlmdaaGreatDoor
open Go Go.RowKit

theorem bcS {y : Nat} (h : 0 < y) : yI y = yI (y / 2) + 1 := by
 rcases Nat.lt_or_ge y 2 with q | q
 ·have : y = 1 := by omega
  subst this; rfl
 ·have := adO (n := y) (k := 1) (m := y / 2) (by omega) rfl
  omega

theorem bjS {a m k : Nat} : a / 2 ^ m % 2 ^ (k + 1) = 2 * (a / 2 ^ (m + 1) % 2 ^ k) + a / 2 ^ m % 2 := by
 rw [Nat.pow_succ 2 m, ← Nat.div_div_eq_div_mul, Nat.pow_succ 2 k, Nat.mul_comm (2 ^ k), Nat.mod_mul]
 omega
theorem baK {v i : Nat} (h : v % 2 ^ i = 0) : v % 2 ^ (i + 1) = 2 ^ i * (v / 2 ^ i % 2) := by
 rw [Nat.pow_succ, Nat.mod_mul, h, Nat.zero_add]
theorem low_over {v i n : Nat} (h : v % 2 ^ i = 0) (hn : i = n ∨ v < 2 ^ i) (hin : i ≤ n) : v % 2 ^ n = 0 := by
 rcases hn with rfl | hn
 ·exact h
 ·rw [Nat.mod_eq_of_lt hn] at h
  subst h; exact Nat.zero_mod _
theorem low_hit {v i n : Nat} (hin : i < n) (h : v % 2 ^ i = 0) (hb : v / 2 ^ i % 2 = 1) : v % 2 ^ n ≠ 0 := by
 intro q
 have h1 := baK h
 rw [hb, Nat.mul_one] at h1
 have h2 : v % 2 ^ (i + 1) = 0 := by
  have := Nat.mod_mod_of_dvd v (Nat.pow_dvd_pow 2 (show i + 1 ≤ n by omega))
  rw [q] at this
  rw [← this]; exact Nat.zero_mod _
 have := Nat.pow_pos (n := i) (show 0 < 2 by decide)
 omega

def rlen_J (v : Nat) (H : Heap) : Nat → Env → Heap → Prop := fun k env H1 => ∃ (i y : Nat), i + yI y = yI ((zE v).getD ((zE v).length - 1) 0) ∧ y < 4294967296 ∧ env = [(4, .int .i64 (32 * (((zE v).length : Int) - 1) + (i : Int))), (5, .int .u32 (y : Int))] ∧ H = H1 ∧ k = yI y

set_option maxRecDepth 100000 in
theorem aeQ (xs : List Nat) (tl : Tail) (hx : Limbs xs) (hl : xs.length ≤ 100000) (H : Heap) : ACall Tryz.prog 55 [.slice 1 (U .u32 xs) tl] H (fun y H' => y = .int .i64 (yI (val xs) : Int) ∧ H' = H) := by
 have hT := aaM xs tl hx (by omega)
 have hvl : (zE (val xs)).length ≤ xs.length := by rw [← aaG hx]; exact qV xs
 generalize val xs = v at *
 have hgt := Limbs.getD (zJ v) ((zE v).length - 1)
 have hb32 := (yW (n := ((zE v).getD ((zE v).length - 1) 0)) (k := 32)).2 (by rw [show (2 : Nat) ^ 32 = 4294967296 by decide]; exact hgt)
 refine ACall.of_body Tryz.func55 rfl Tryz.ntmps55 Tryz.results55 rfl ?_
 iterate 8 refine AX ?_
 refine .cl rfl Tryz.call89 (evs1 rfl) (hT _) ?_
 iterate 11 refine AX ?_
 refine AWP.cx rfl (fun hc10 => ?_) (fun hc10 => ?_)
 ·have hv0 : v = 0 := by
   rcases Nat.eq_zero_or_pos v with h | h
   ·exact h
   ·rw [qA h] at hc10; simp only [List.length_cons] at hc10; omega
  iterate 7 refine AX ?_
  refine Ret.go (.cons (.tmp _ _ rfl) .nil) _ (Heap.le.refl _) ?_
  refine ⟨?_, rfl⟩
  subst hv0; rfl
 ·have hvp : 0 < v := by
   rcases Nat.eq_zero_or_pos v with h | h
   ·subst h; exact absurd rfl hc10
   ·exact h
  have hbl := agX hvp
  have hlp : 0 < (zE v).length := by rw [qA hvp]; simp
  iterate 6 refine AX ?_
  refine .p rfl (zO (tm rfl) zF (by omega)) (.p rfl (agP zF (tm rfl) (by omega)) ?_)
  iterate 8 refine AX ?_
  refine .p rfl (zO (tm rfl) zF (by omega)) (.p rfl (zV ((zE v).length - 1) Tryz.underlying94 Tryz.sizeOf112 (tm rfl) (tm rfl) (by omega) (by omega)) ?_)
  iterate 6 refine AX ?_
  refine AWP.loopW (rlen_J v H) (yI ((zE v).getD ((zE v).length - 1) 0)) ⟨0, ((zE v).getD ((zE v).length - 1) 0), by omega, hgt, rfl, rfl, rfl⟩ (zW rfl (by congr 1; try omega) (yC rfl yX)) (Heap.le.refl _) ?_
  rintro _ _ _ ⟨i, y, hi, hy, rfl, rfl, rfl⟩
  iterate 4 refine AX ?_
  refine .p rfl (qK (tm rfl) (zG 0)) ?_
  iterate 2 refine AX ?_
  refine AWP.cx rfl (fun hc22 => ?_) (fun hc22 => ?_)
  ·iterate 6 refine AX ?_
   refine .p rfl (zK (tm rfl) zF (by omega)) ?_
   iterate 5 refine AX ?_
   refine .p rfl (bcW (tm rfl) (zG 2) (by assumption) (by omega)) ?_
   iterate 4 refine AX ?_
   have hbh := bcS (y := y) (by omega)
   refine Round.mk (J := rlen_J v H) ⟨i + 1, y / 2, by omega, by omega, rfl, rfl, rfl⟩ (zW rfl (by congr 1; try omega) (yC rfl yX)) (Heap.le.refl _) (by omega)
  ·have hy0 : y = 0 := by omega
   subst hy0
   rw [bjQ] at hi
   iterate 12 refine AX ?_
   refine Ret.go (.cons (.tmp _ _ rfl) .nil) _ (Heap.le.refl _) ?_
   refine ⟨?_, rfl⟩
   show AV.int .i64 _ = AV.int .i64 _
   congr 1
   omega

def biS (xs : List Nat) (tl : Tail) (n : Nat) (q : Int) (H : Heap) : Nat → Env → Heap → Prop := fun k env H1 => ∃ c : Nat, c ≤ 64 ∧ env = [(0, .slice 1 (U .u32 xs) tl), (1, .int .i64 q), (5, .int .u64 ((val xs / 2 ^ (n + c) % 2 ^ (64 - c) : Nat) : Int)), (6, .int .i64 ((c : Int) - 1))] ∧ H = H1 ∧ c = k

set_option maxRecDepth 100000 in
theorem amG (xs : List Nat) (tl : Tail) (hx : Limbs xs) (hl : xs.length ≤ 100000) (n : Nat) (hn : n ≤ 100000000) (q : Int) (hq : q = (n : Int)) (H : Heap) : ACall Tryz.prog 86 [.slice 1 (U .u32 xs) tl, .int .i64 q] H (fun y H' => y = .int .u64 ((val xs / 2 ^ n % 18446744073709551616 : Nat) : Int) ∧ H' = H) := by
 subst hq
 refine ACall.of_body Tryz.func86 rfl Tryz.ntmps86 Tryz.results86 rfl ?_
 iterate 2 refine AX ?_
 refine .p rfl (zC (zG 0)) ?_
 iterate 4 refine AX ?_
 refine .p rfl (zC (zG 0)) ?_
 iterate 9 refine AX ?_
 refine AWP.loopW (biS xs tl n (n : Int) H) (64) ⟨64, Nat.le_refl _, rfl, rfl, rfl⟩ (yC rfl (yC rfl (zW rfl (by simp [Nat.mod_one]) (yC rfl yX)))) (Heap.le.refl _) ?_
 rintro _ _ _ ⟨c, hc, rfl, rfl, rfl⟩
 iterate 7 refine AX ?_
 refine AWP.cx rfl (fun hc8 => ?_) (fun hc8 => ?_)
 ·have hbn : val xs / 2 ^ (n + (c - 1)) % 2 ^ (64 - (c - 1)) = 2 * (val xs / 2 ^ (n + c) % 2 ^ (64 - c)) + val xs / 2 ^ (n + (c - 1)) % 2 := by
   have := @bjS (val xs) (n + (c - 1)) (64 - c)
   rw [show 64 - c + 1 = 64 - (c - 1) by omega, show n + (c - 1) + 1 = n + c by omega] at this
   exact this
  have hlt : val xs / 2 ^ (n + c) % 2 ^ (64 - c) < 9223372036854775808 := Nat.lt_of_lt_of_le (Nat.mod_lt _ (Nat.pow_pos (by decide))) (Nat.le_trans (Nat.pow_le_pow_right (by decide) (show 64 - c ≤ 63 by omega)) (by decide))
  iterate 7 refine AX ?_
  refine .p rfl (acO (zG 2) (tm rfl) (by omega)) ?_
  iterate 8 refine AX ?_
  refine .p rfl (zK (tm rfl) (tm rfl) (by omega)) (.cl rfl Tryz.call87 (evs2 rfl rfl) (agM xs tl hx (by omega) (n + (c - 1)) (by omega) _ (by omega) _) ?_)
  iterate 2 refine AX ?_
  refine AWP.cx rfl (fun hc17 => ?_) (fun hc17 => ?_)
  ·iterate 2 refine AX ?_
   refine .p rfl (yD (tm rfl) (zG 1) (by omega)) ?_
   iterate 6 refine AX ?_
   refine .p rfl (zO (tm rfl) zF (by omega)) ?_
   iterate 3 refine AX ?_
   refine Round.mk (J := biS xs tl n (n : Int) H) ⟨c - 1, by omega, rfl, rfl, rfl⟩ (yC rfl (yC rfl (zW rfl (congrArg (fun w : Nat => AV.int .u64 (w : Int)) (show _ = val xs / 2 ^ (n + (c - 1)) % 2 ^ (64 - (c - 1)) by omega)) (zW rfl (by congr 1; omega) yX)))) (Heap.le.refl _) (by omega)
  ·iterate 5 refine AX ?_
   refine .p rfl (zO (tm rfl) zF (by omega)) ?_
   iterate 3 refine AX ?_
   refine Round.mk (J := biS xs tl n (n : Int) H) ⟨c - 1, by omega, rfl, rfl, rfl⟩ (yC rfl (yC rfl (zW rfl (congrArg (fun w : Nat => AV.int .u64 (w : Int)) (show _ = val xs / 2 ^ (n + (c - 1)) % 2 ^ (64 - (c - 1)) by omega)) (zW rfl (by congr 1; omega) yX)))) (Heap.le.refl _) (by omega)
 ·have hc0 : c = 0 := by omega
  subst hc0
  iterate 12 refine AX ?_
  refine Ret.go (.cons (.tmp _ _ rfl) .nil) _ (Heap.le.refl _) ?_
  refine ⟨?_, rfl⟩
  rw [Nat.add_zero, Nat.sub_zero, show (2 : Nat) ^ 64 = 18446744073709551616 by decide]; rfl

def low_J (xs : List Nat) (tl : Tail) (n : Nat) (H : Heap) : Nat → Env → Heap → Prop := fun k env H1 => ∃ i : Nat, i ≤ n ∧ val xs % 2 ^ i = 0 ∧ env = [(0, .slice 1 (U .u32 xs) tl), (1, .int .i64 (n : Int)), (5, .int .i64 (i : Int))] ∧ H = H1 ∧ k = n - i

set_option maxRecDepth 100000 in
theorem bcK (xs : List Nat) (tl : Tail) (hx : Limbs xs) (hl : xs.length ≤ 100000) (n : Nat) (hn : n ≤ 100000000) (q : Int) (hq : q = (n : Int)) (H : Heap) : ACall Tryz.prog 88 [.slice 1 (U .u32 xs) tl, .int .i64 q] H (fun y H' => y = .bool (decide (val xs % 2 ^ n ≠ 0)) ∧ H' = H) := by
 subst hq
 refine ACall.of_body Tryz.func88 rfl Tryz.ntmps88 Tryz.results88 rfl ?_
 iterate 12 refine AX ?_
 refine AWP.loopW (low_J xs tl n H) (n) ⟨0, Nat.zero_le _, by simp [Nat.mod_one], rfl, rfl, rfl⟩ sX (Heap.le.refl _) ?_
 rintro _ _ _ ⟨i, hi, hl0, rfl, rfl, rfl⟩
 refine AX ?_
 refine AWP.seqTo 15 (.bool (decide ((i : Int) < (n : Int)) && decide ((i : Int) < 32 * (xs.length : Int)))) [0, 1, 5] ?_ ?_
 ·-- region 2
  iterate 5 refine AX ?_
  refine zI (t := 9) rfl (fun hg9 => ?_) (fun hg9 => ?_)
  ·iterate 3 refine AX ?_
   refine .gp rfl rfl rfl (by assumption) (agP zF (tm rfl) (by omega)) ?_
   iterate 3 refine AX ?_
   exact ⟨rfl, zZ rfl (by (rw [show decide ((i : Int) < (n : Int)) = _ from hg9]; rfl)) sX, rfl⟩
  ·iterate 7 refine AX ?_
   exact ⟨rfl, zZ rfl (by (rw [show decide ((i : Int) < (n : Int)) = _ from hg9]; rfl)) sX, rfl⟩
 ·refine AWP.sub [(15, _), (0, _), (1, _), (5, _)] sX ?_
  refine AWP.cx rfl (fun hc15 => ?_) (fun hc15 => ?_)
  ·simp only [Bool.and_eq_true, decide_eq_true_eq] at hc15
   iterate 8 refine AX ?_
   refine .cl rfl Tryz.call87 (evs2 rfl rfl) (agM xs tl hx (by omega) i (by omega) _ rfl _) ?_
   iterate 2 refine AX ?_
   refine AWP.cx rfl (fun hc20 => ?_) (fun hc20 => ?_)
   ·iterate 11 refine AX ?_
    refine Ret.go (.cons (.tmp _ _ rfl) .nil) _ (Heap.le.refl _) ?_
    refine ⟨?_, rfl⟩
    rw [decide_eq_true (low_hit (by omega) hl0 (by omega))]; rfl
   ·iterate 5 refine AX ?_
    refine .p rfl (zK (tm rfl) zF (by omega)) ?_
    iterate 3 refine AX ?_
    refine Round.mk (J := low_J xs tl n H) ⟨i + 1, by omega, by rw [baK hl0, show val xs / 2 ^ i % 2 = 0 by omega, Nat.mul_zero], rfl, rfl, rfl⟩ sX (Heap.le.refl _) (by omega)
  ·simp only [Bool.and_eq_false_iff, decide_eq_false_iff_not] at hc15
   have hvl := aeC hx
   rw [show (4294967296 : Nat) = 2 ^ 32 by decide, ← Nat.pow_mul] at hvl
   have hov : val xs % 2 ^ n = 0 := low_over hl0 (by rcases hc15 with h | h; exact .inl (by omega); exact .inr (Nat.lt_of_lt_of_le hvl (Nat.pow_le_pow_right (by decide) (by omega)))) hi
   iterate 11 refine AX ?_
   refine Ret.go (.cons (.tmp _ _ rfl) .nil) _ (Heap.le.refl _) ?_
   refine ⟨?_, rfl⟩
   rw [decide_eq_false (by rw [hov]; simp)]; rfl
theorem blen_row {xs : List Nat} (hx : Limbs xs) : yI (val xs) ≤ 32 * xs.length := yW.2 (by have := aeC hx; rw [show (4294967296 : Nat) = 2 ^ 32 by decide, ← Nat.pow_mul] at this; exact this)
theorem mant_ref {v : Nat} {e : Int} {more : Bool} (h : e < zY v e) : abM v e more = if (decide (((v / 2 ^ (((zY v e - e).toNat) - 1) % 2 : Nat) : Int) = 1) && ((decide (v % 2 ^ (((zY v e - e).toNat) - 1) ≠ 0) || more) || decide (((v / 2 ^ ((zY v e - e).toNat) % 2 : Nat) : Int) = ((1 : Nat) : Int)))) = true then v / 2 ^ ((zY v e - e).toNat) + 1 else v / 2 ^ ((zY v e - e).toNat) := by
 rw [bhX h]
 simp only [Bool.and_eq_true, Bool.or_eq_true, decide_eq_true_eq, or_assoc]
 congr 1
 refine propext ⟨fun q => ⟨by omega, q.2.imp_right (Or.imp_right (fun w => by omega))⟩, fun q => ⟨by omega, q.2.imp_right (Or.imp_right (fun w => by omega))⟩⟩

set_option maxRecDepth 100000 in
theorem akM (neg : Bool) (xs : List Nat) (tl : Tail) (hx : Limbs xs) (hl : xs.length ≤ 10000) (e : Int) (he : -10000 ≤ e ∧ e ≤ 1000000) (more : Bool) (H : Heap) : ACall Tryz.prog 52 [.bool neg, .slice 1 (U .u32 xs) tl, .int .i64 e, .bool more] H (fun y H' => y = .int .u64 ((yB neg (val xs) e more : Nat) : Int) ∧ H' = H) := by
 have hbl : yI (val xs) ≤ 320000 := by have := blen_row hx; omega
 have hb0 := @blen0 (val xs)
 have hun : zY (val xs) e = if e + yI (val xs) - 53 < -1074 then -1074 else e + yI (val xs) - 53 := rfl
 have hul := aqM (val xs) e
 have hur : zY (val xs) e ≤ 2000000 := by rw [hun]; split <;> omega
 have hml := ahV (val xs) e more
 have hsg : aaJ neg ≤ 9223372036854775808 := by unfold aaJ; split <;> omega
 refine ACall.of_body Tryz.func52 rfl Tryz.ntmps52 Tryz.results52 rfl ?_
 iterate 2 refine AX ?_
 refine .p rfl (zC (zG 0)) ?_
 iterate 4 refine AX ?_
 refine .p rfl (zC (zG 0)) ?_
 iterate 2 refine AX ?_
 refine AWP.seqToL [(9, .int .u64 ((aaJ neg : Nat) : Int))] [1, 2, 3, 8] ?_ ?_
 ·iterate 5 refine AX ?_
  refine AWP.cx rfl (fun hc16 => ?_) (fun hc16 => ?_)
  ·refine AX ?_
   refine .p rfl (zC (zG 9223372036854775808)) ?_
   refine AX ?_
   exact ⟨rfl, (zW rfl (by (unfold aaJ; rw [if_pos (by assumption)]; done)) sX), rfl⟩
  ·refine AX ?_
   exact ⟨rfl, (zW rfl (by (unfold aaJ; rw [if_neg (by simp_all)]; done)) sX), rfl⟩
 ·refine AWP.sub [(9, _), (1, _), (2, _), (3, _), (8, _)] sX ?_
  iterate 3 refine AX ?_
  refine .cl rfl Tryz.call55 (evs1 rfl) (aeQ xs tl hx (by omega) _) ?_
  iterate 4 refine AX ?_
  refine AWP.seqTo 30 (.bool (decide (val xs = 0))) [9, 1, 2, 3, 8, 10] ?_ ?_
  ·-- region 5
   iterate 4 refine AX ?_
   refine zI (t := 21) rfl (fun hg21 => ?_) (fun hg21 => ?_)
   ·have hh21 := hg21; try simp only [decide_eq_true_eq] at hh21
    iterate 10 refine AX ?_
    exact ⟨rfl, zZ rfl (by (simp_all; done)) sX, rfl⟩
   ·have hh21 := hg21; try simp only [decide_eq_false_iff_not] at hh21
    iterate 3 refine AX ?_
    refine zI (t := 24) rfl (fun hg24 => ?_) (fun hg24 => ?_)
    ·have hh24 := hg24; try simp only [decide_eq_true_eq] at hh24
     iterate 2 refine AX ?_
     refine .gp rfl rfl rfl (by assumption) (zK (tm rfl) (tm rfl) (by omega)) ?_
     iterate 4 refine AX ?_
     exact ⟨rfl, zZ rfl (by (simp_all; omega)) sX, rfl⟩
    ·have hh24 := hg24; try simp only [decide_eq_false_iff_not, Int.not_lt] at hh24
     iterate 7 refine AX ?_
     exact ⟨rfl, zZ rfl (by (simp_all; done)) sX, rfl⟩
  ·refine AWP.sub [(30, _), (9, _), (1, _), (2, _), (3, _), (8, _), (10, _)] sX ?_
   refine AWP.cx rfl (fun hc30 => ?_) (fun hc30 => ?_)
   ·have hv0 : val xs = 0 := by simpa using hc30
    iterate 8 refine AX ?_
    refine Ret.go (.cons (.tmp _ _ rfl) .nil) _ (Heap.le.refl _) ?_
    refine ⟨?_, rfl⟩
    unfold yB; rw [if_pos (.inl hv0)]; rfl
   ·have hv0 : 0 < val xs := Nat.pos_of_ne_zero (by simpa using hc30)
    have hbp : 0 < yI (val xs) := by omega
    iterate 9 refine AX ?_
    refine AWP.cx rfl (fun hc33 => ?_) (fun hc33 => ?_)
    ·iterate 3 refine AX ?_
     refine .p rfl (yD (tm rfl) (zG 9218868437227405312) (by omega)) ?_
     iterate 5 refine AX ?_
     refine Ret.go (.cons (.tmp _ _ rfl) .nil) _ (Heap.le.refl _) ?_
     refine ⟨?_, rfl⟩
     unfold yB; rw [if_neg (by omega), if_pos (by omega)]; rfl
    ·iterate 6 refine AX ?_
     refine .p rfl (zK (tm rfl) (tm rfl) (by omega)) (.p rfl (zO (tm rfl) zF (by omega)) ?_)
     iterate 3 refine AX ?_
     refine AWP.seqToL [(11, .int .i64 (zY (val xs) e))] [9, 1, 2, 3, 8] ?_ ?_
     ·iterate 6 refine AX ?_
      refine AWP.cx rfl (fun hc41 => ?_) (fun hc41 => ?_)
      ·iterate 3 refine AX ?_
       exact ⟨rfl, (zW rfl (by (rw [hun, if_pos (by omega)]; done)) sX), rfl⟩
      ·refine AX ?_
       exact ⟨rfl, (zW rfl (by (rw [hun, if_neg (by omega)]; done)) sX), rfl⟩
     ·refine AWP.sub [(11, _), (9, _), (1, _), (2, _), (3, _), (8, _)] sX ?_
      iterate 2 refine AX ?_
      refine .p rfl (zC (zG 0)) ?_
      iterate 2 refine AX ?_
      refine AWP.seqToL [(12, .int .u64 ((abM (val xs) e more : Nat) : Int))] [11, 9, 8] ?_ ?_
      ·iterate 7 refine AX ?_
       refine AWP.cx rfl (fun hc44 => ?_) (fun hc44 => ?_)
       ·have hfs : val xs * 2 ^ (e - zY (val xs) e).toNat < 18446744073709551616 := auR hc44
        have hms := anA (more := more) hc44
        have hur2 := bfE hv0 hc44
        iterate 4 refine AX ?_
        refine .p rfl (zO (tm rfl) (tm rfl) (by omega)) (.cl rfl Tryz.call57 (evs2 rfl rfl) (atL xs tl hx hl (e - zY (val xs) e).toNat (by omega) _ (by omega) (Nat.lt_trans hfs (by decide +kernel)) _) ?_)
        refine .cl rfl Tryz.call86 (.cons (tm rfl) (.cons zF .nil)) (amG (zE (val xs * 2 ^ (e - zY (val xs) e).toNat)) .shared (zJ _) (Nat.le_trans (yU (Nat.lt_trans hfs (by decide +kernel))) (by decide)) 0 (by decide) _ rfl _) ?_
        rw [zM, Nat.pow_zero, Nat.div_one, Nat.mod_eq_of_lt hfs]
        iterate 2 refine AX ?_
        exact ⟨rfl, (zW rfl (by rw [hms]) sX), rfl⟩
       ·have hms := mant_ref (more := more) hc44
        have hds : val xs / 2 ^ ((zY (val xs) e - e).toNat) < 18446744073709551616 := by
         have := aqB hc44
         rw [← baY (by omega)]; omega
        iterate 4 refine AX ?_
        refine .p rfl (zO (tm rfl) (tm rfl) (by omega)) ?_
        iterate 7 refine AX ?_
        refine .cl rfl Tryz.call86 (evs2 rfl rfl) (amG xs tl hx (by omega) ((zY (val xs) e - e).toNat) (by omega) _ (by omega) _) ?_
        rw [Nat.mod_eq_of_lt hds]
        iterate 7 refine AX ?_
        refine .p rfl (zO (tm rfl) zF (by omega)) (.cl rfl Tryz.call87 (evs2 rfl rfl) (agM xs tl hx (by omega) (((zY (val xs) e - e).toNat) - 1) (by omega) _ (by omega) _) ?_)
        iterate 3 refine AX ?_
        refine AWP.seqTo 15 (.bool (decide (val xs % 2 ^ (((zY (val xs) e - e).toNat) - 1) ≠ 0) || more)) [11, 9, 8, 12, 14] ?_ ?_
        ·-- region 18
         iterate 3 refine AX ?_
         refine .p rfl (zO (tm rfl) zF (by omega)) (.cl rfl Tryz.call88 (evs2 rfl rfl) (bcK xs tl hx (by omega) (((zY (val xs) e - e).toNat) - 1) (by omega) _ (by omega) _) ?_)
         refine AX ?_
         refine zI (t := 65) rfl (fun hg65 => ?_) (fun hg65 => ?_)
         ·have hh65 := hg65; try simp only [decide_eq_true_eq, ne_eq] at hh65
          iterate 4 refine AX ?_
          exact ⟨rfl, zZ rfl (by (simp_all; done)) sX, rfl⟩
         ·have hh65 := hg65; try simp only [decide_eq_false_iff_not, ne_eq, Decidable.not_not] at hh65
          iterate 4 refine AX ?_
          exact ⟨rfl, zZ rfl (by (simp_all; done)) sX, rfl⟩
        ·refine AWP.sub [(15, _), (11, _), (9, _), (8, _), (12, _), (14, _)] sX ?_
         refine AWP.seqTo 76 (.bool ((decide (((val xs / 2 ^ (((zY (val xs) e - e).toNat) - 1) % 2 : Nat) : Int) = 1) && ((decide (val xs % 2 ^ (((zY (val xs) e - e).toNat) - 1) ≠ 0) || more) || decide (((val xs / 2 ^ ((zY (val xs) e - e).toNat) % 2 : Nat) : Int) = ((1 : Nat) : Int)))))) [11, 9, 8, 12] ?_ ?_
         ·-- region 19
          iterate 3 refine AX ?_
          refine zI (t := 69) rfl (fun hg69 => ?_) (fun hg69 => ?_)
          ·have hh69 := hg69; try simp only [decide_eq_true_eq] at hh69
           iterate 2 refine AX ?_
           refine zI (t := 71) rfl (fun hg71 => ?_) (fun hg71 => ?_)
           ·have hh71 := hg71; try simp only [ne_eq] at hh71
            iterate 6 refine AX ?_
            exact ⟨rfl, zZ rfl (by (simp_all; done)) sX, rfl⟩
           ·have hh71 := hg71; try simp only [ne_eq] at hh71
            refine AX ?_
            refine .gp rfl rfl rfl (by assumption) (abF (tm rfl) (zG 2) (by omega)) (.gp rfl rfl rfl (by assumption) (yR (tm rfl) (zG 1)) ?_)
            iterate 3 refine AX ?_
            exact ⟨rfl, zZ rfl (by (simp_all; done)) sX, rfl⟩
          ·have hh69 := hg69; try simp only [decide_eq_false_iff_not] at hh69
           iterate 8 refine AX ?_
           exact ⟨rfl, zZ rfl (by (simp_all; done)) sX, rfl⟩
         ·refine AWP.sub [(76, _), (11, _), (9, _), (8, _), (12, _)] sX ?_
          refine AWP.cx rfl (fun hc76 => ?_) (fun hc76 => ?_)
          ·rw [if_pos hc76] at hms
           iterate 2 refine AX ?_
           refine .p rfl (yD (tm rfl) (zG 1) (by omega)) ?_
           iterate 2 refine AX ?_
           exact ⟨rfl, (zW rfl (by rw [hms]) sX), rfl⟩
          ·rw [if_neg (by rw [hc76]; decide)] at hms
           refine AX ?_
           exact ⟨rfl, (zW rfl (by rw [hms]) sX), rfl⟩
      ·refine AWP.sub [(12, _), (11, _), (9, _), (8, _)] sX ?_
       refine AWP.seqToL [(12, .int .u64 ((ajN (abM (val xs) e more) : Nat) : Int)), (11, .int .i64 (aiQ (abM (val xs) e more) (zY (val xs) e)))] [9, 8] ?_ ?_
       ·iterate 3 refine AX ?_
        refine .p rfl (yR (tm rfl) (zG 9007199254740992)) ?_
        iterate 2 refine AX ?_
        refine AWP.cx rfl (fun hc80 => ?_) (fun hc80 => ?_)
        ·iterate 2 refine AX ?_
         refine .p rfl (zC (zG 4503599627370496)) ?_
         iterate 4 refine AX ?_
         refine .p rfl (zK (tm rfl) zF (by omega)) ?_
         iterate 2 refine AX ?_
         exact ⟨rfl, (zW rfl (by (unfold ajN; rw [if_pos (by omega)]; done)) (zW rfl (by (unfold aiQ; rw [if_pos (by omega)]; done)) sX)), rfl⟩
        ·refine AX ?_
         exact ⟨rfl, (zW rfl (by (unfold ajN; rw [if_neg (by omega)]; done)) (zW rfl (by (unfold aiQ; rw [if_neg (by omega)]; done)) sX)), rfl⟩
       ·refine AWP.sub [(12, _), (11, _), (9, _), (8, _)] sX ?_
        have hR : yB neg (val xs) e more = aaJ neg + abY (ajN (abM (val xs) e more)) (aiQ (abM (val xs) e more) (zY (val xs) e)) := by
         unfold yB; rw [if_neg (by omega), if_neg (by omega), baA]
        have hA := baB hml
        have hU := azZ (abM (val xs) e more) (zY (val xs) e)
        generalize ajN (abM (val xs) e more) = m1 at hA hR ⊢
        generalize aiQ (abM (val xs) e more) (zY (val xs) e) = u1 at hU hR ⊢
        iterate 4 refine AX ?_
        refine .p rfl (akY (tm rfl) (zG 4503599627370496)) ?_
        iterate 2 refine AX ?_
        refine AWP.cx rfl (fun hc84 => ?_) (fun hc84 => ?_)
        ·iterate 4 refine AX ?_
         refine .p rfl (yD (tm rfl) (tm rfl) (by omega)) ?_
         iterate 5 refine AX ?_
         refine Ret.go (.cons (.tmp _ _ rfl) .nil) _ (Heap.le.refl _) ?_
         refine ⟨?_, rfl⟩
         rw [hR]; unfold abY; rw [if_pos (by omega)]; rfl
        ·iterate 6 refine AX ?_
         refine .p rfl (zK (tm rfl) zF (by omega)) ?_
         iterate 3 refine AX ?_
         refine AWP.cx rfl (fun hc90 => ?_) (fun hc90 => ?_)
         ·iterate 3 refine AX ?_
          refine .p rfl (yD (tm rfl) (zG 9218868437227405312) (by omega)) ?_
          iterate 5 refine AX ?_
          refine Ret.go (.cons (.tmp _ _ rfl) .nil) _ (Heap.le.refl _) ?_
          refine ⟨?_, rfl⟩
          rw [hR]; unfold abY; rw [if_neg (by omega), if_pos (by omega)]; rfl
         ·iterate 6 refine AX ?_
          refine .p rfl (zK (tm rfl) zF (by omega)) ?_
          refine .p rfl (.as (b := .int .u64 (((u1 + 1075).toNat : Nat) : Int)) (by congr 1; omega) (zT Tryz.underlying3 Tryz.underlying30 (tm rfl) (wrap64 (by omega) (by omega)))) ?_
          refine .p rfl (qS (tm rfl) (zG 52) (by omega) (by rw [shl52 (by omega)]; omega)) (.p rfl (yD (tm rfl) (tm rfl) (by (rw [shl52 (by omega)]; omega))) ?_)
          refine AX ?_
          refine .p rfl (yD (tm rfl) (tm rfl) (by (rw [shl52 (by omega)]; omega))) (.p rfl (adV (tm rfl) (zG 4503599627370496) (by (rw [shl52 (by omega)]; omega)) (by (rw [shl52 (by omega)]; omega))) ?_)
          iterate 4 refine AX ?_
          refine Ret.go (.cons (.tmp _ _ rfl) .nil) _ (Heap.le.refl _) ?_
          refine ⟨?_, rfl⟩
          rw [hR]; unfold abY; rw [if_neg (by omega), if_neg (by omega)]
          exact congrArg (fun w : Nat => AV.int .u64 (w : Int)) (show aaJ neg + (u1 + 1075).toNat * 2 ^ 52 + m1 - 4503599627370496 = aaJ neg + (m1 + (u1 + 1074).toNat * 4503599627370496) by rw [shl52 (by omega)]; omega)
theorem rne_zero {n k : Nat} {more : Bool} (h : n < 2 ^ (k - 1)) : rne n k more = 0 := by
 have h1 : n / 2 ^ (k - 1) = 0 := Nat.div_eq_of_lt h
 have h2 : n / 2 ^ k = 0 := Nat.div_eq_of_lt (Nat.lt_of_lt_of_le h (Nat.pow_le_pow_right (by decide) (by omega)))
 unfold rne
 rw [h1, h2, if_neg (by omega)]
theorem awR {n : Nat} {e : Int} {more : Bool} (h : e + yI n ≤ -1076) (he : e ≤ 0) : yB false n e more = 0 := by
 unfold yB
 split
 ·rfl
 ·rw [if_neg (by omega)]
  have hu : zY n e = -1074 := by unfold zY; rw [if_pos (by omega)]
  have hm : abM n e more = 0 := by
   rcases Nat.eq_zero_or_pos n with h0 | h0
   ·rename_i hn; exact absurd (.inl h0) hn
   ·have hb := acY h0
    unfold abM
    rw [hu, if_neg (by omega)]
    refine rne_zero (Nat.lt_of_lt_of_le (aeK n) (Nat.pow_le_pow_right (by decide) (by omega)))
  rw [hm, hu]; rfl
theorem amB {n : Nat} {e : Int} {more : Bool} (h : 1026 ≤ e + yI n) (he : -10000 ≤ e) (hn : 0 < n) : yB false n e more = avV := by
 unfold yB
 rw [if_neg (by omega)]
 split
 ·unfold aaJ; simp
 ·rw [arJ]
  have hu : zY n e = e + yI n - 53 := by unfold zY; rw [if_neg (by omega)]
  have hg := bhY (n := n) (e := e) (more := more) (by omega) hn
  unfold aaJ pk
  rw [if_neg (by decide), Nat.zero_add]
  split
  ·unfold abY; rw [if_neg (by omega), if_pos (by omega)]
  ·unfold abY; rw [if_neg (by omega), if_pos (by omega)]
theorem ten_330 : ∃ a b : Nat, a = 1080 ∧ b = 330 ∧ 2 ^ a ≤ 10 ^ b := ⟨1080, 330, rfl, rfl, by decide +kernel⟩
theorem ten_310 : ∃ a b : Nat, a = 1026 ∧ b = 310 ∧ 2 ^ a ≤ 10 ^ b := ⟨1026, 310, rfl, rfl, by decide +kernel⟩
theorem bcQ {m : Nat} {k : Int} {L : Nat} (hm : m < 10 ^ L) (hp : (L : Int) + k ≤ -330) (hk : -2000 ≤ k) : ahQ m k = 0 := by
 obtain ⟨A, B, hA, hB, h330⟩ := ten_330
 unfold ahQ
 rw [if_neg (by omega)]
 obtain ⟨j, hj⟩ : ∃ j : Nat, k = -(j : Int) := ⟨(-k).toNat, by omega⟩
 subst hj
 rw [show (-(-(j : Int))).toNat = j by omega]
 have hjl := agF j
 unfold avS
 refine awR ?_ (by omega)
 generalize hK : yI (10 ^ j) + 127 = K
 have h1 : m * 2 ^ K / 10 ^ j < 2 ^ (K - A) ∧ A ≤ K ∨ K < A := by
  rcases Nat.lt_or_ge K A with h | h
  ·exact .inr h
  ·refine .inl ⟨?_, h⟩
   rw [Nat.div_lt_iff_lt_mul (abJ j)]
   have e1 : 2 ^ K = 2 ^ (K - A) * 2 ^ A := by rw [← Nat.pow_add]; congr 1; omega
   have e2 : 10 ^ L * 10 ^ B ≤ 10 ^ j := by rw [← Nat.pow_add]; exact Nat.pow_le_pow_right (by decide) (by omega)
   rw [e1, Nat.mul_comm m, Nat.mul_assoc]
   refine Nat.mul_lt_mul_of_pos_left ?_ (Nat.pow_pos (by decide))
   calc 2 ^ A * m ≤ 10 ^ B * m := Nat.mul_le_mul_right _ h330
    _ < 10 ^ B * 10 ^ L := Nat.mul_lt_mul_of_pos_left hm (abJ _)
    _ = 10 ^ L * 10 ^ B := Nat.mul_comm _ _
    _ ≤ 10 ^ j := e2
 rcases h1 with ⟨h1, hKA⟩ | h1
 ·have := yW.2 h1
  omega
 ·exfalso
  have h2 : 2 ^ A ≤ 10 ^ j := Nat.le_trans h330 (Nat.pow_le_pow_right (by decide) (by omega))
  have := aaU.2 h2
  omega
theorem bcR {m : Nat} {k : Int} {L : Nat} (hm : 10 ^ L ≤ m) (hp : 310 ≤ (L : Int) + k) (hk : -2000 ≤ k) : ahQ m k = avV := by
 obtain ⟨A, B, hA, hB, h310⟩ := ten_310
 have hm0 : 0 < m := Nat.lt_of_lt_of_le (abJ L) hm
 unfold ahQ
 split
 ·refine amB ?_ (by decide) (Nat.mul_pos hm0 (abJ _))
  have h1 : 2 ^ A ≤ m * 10 ^ k.toNat := by
   refine Nat.le_trans h310 (Nat.le_trans (Nat.pow_le_pow_right (by decide) (show B ≤ L + k.toNat by omega)) ?_)
   rw [Nat.pow_add]; exact Nat.mul_le_mul_right _ hm
  have := aaU.2 h1
  omega
 ·obtain ⟨j, hj⟩ : ∃ j : Nat, k = -(j : Int) := ⟨(-k).toNat, by omega⟩
  subst hj
  rw [show (-(-(j : Int))).toNat = j by omega]
  have hjl := agF j
  have h1 : 2 ^ (yI (10 ^ j) + 127 + A) ≤ m * 2 ^ (yI (10 ^ j) + 127) / 10 ^ j := by
   rw [Nat.le_div_iff_mul_le (abJ j), Nat.pow_add, Nat.mul_comm m, Nat.mul_assoc]
   refine Nat.mul_le_mul_left _ ?_
   refine Nat.le_trans (Nat.mul_le_mul_right _ h310) ?_
   rw [← Nat.pow_add]
   exact Nat.le_trans (Nat.pow_le_pow_right (by decide) (by omega)) hm
  have h2 := aaU.2 h1
  unfold avS
  refine amB (by omega) (by omega) (Nat.lt_of_lt_of_le (Nat.pow_pos (by decide)) h1)
/-! ### short decimals -/
theorem alI {n t : Nat} (h0 : 0 < n) (h : n < 9007199254740992) (ht : t ≤ 500) : ∃ j : Nat, j ≤ 52 ∧ afF (yB false n t false) = n * 2 ^ j ∧ ajM (yB false n t false) = (t : Int) - j ∧ qD (yB false n t false) = 2 ∧ yB false n t false < 9223372036854775808 := by
 have e53 : (9007199254740992 : Nat) = 2 ^ 53 := by decide
 have hb : yI n ≤ 53 := yW.2 (by rw [← e53]; exact h)
 have hb0 := acY h0
 have hu : zY n t = (t : Int) + yI n - 53 := by unfold zY; rw [if_neg (by omega)]
 refine ⟨53 - yI n, by omega, ?_⟩
 have hm : abM n t false = n * 2 ^ (53 - yI n) := by
  unfold abM
  rw [hu, if_pos (by omega)]
  congr 2; omega
 have hlo : 4503599627370496 ≤ n * 2 ^ (53 - yI n) := by
  have h1 := anU h0
  have h2 := Nat.mul_le_mul_right (2 ^ (53 - yI n)) h1
  rw [← Nat.pow_add, show yI n - 1 + (53 - yI n) = 52 by omega] at h2
  have e52 : (4503599627370496 : Nat) = 2 ^ 52 := by decide
  omega
 have hhi : n * 2 ^ (53 - yI n) < 9007199254740992 := by
  have h2 := Nat.mul_lt_mul_of_pos_right (aeK n) (show 0 < 2 ^ (53 - yI n) from Nat.pow_pos (by decide))
  rw [← Nat.pow_add, show yI n + (53 - yI n) = 53 by omega] at h2
  omega
 have hr : yB false n t false = n * 2 ^ (53 - yI n) + (t + yI n + 1021) * 4503599627370496 := by
  unfold yB
  rw [if_neg (by omega), if_neg (by omega), hm, hu, arJ]
  unfold aaJ pk abY
  rw [if_neg (by decide), Nat.zero_add, if_neg (by omega), if_neg (by omega), if_neg (by omega)]
  congr 2
  omega
 rw [hr]
 generalize n * 2 ^ (53 - yI n) = q at *
 have hd : (q + (t + yI n + 1021) * 4503599627370496) / 4503599627370496 % 2048 = t + yI n + 1022 := by omega
 have hmod : (q + (t + yI n + 1021) * 4503599627370496) % 4503599627370496 = q - 4503599627370496 := by omega
 have hk : qD (q + (t + yI n + 1021) * 4503599627370496) = 2 := by
  unfold qD
  rw [hd, if_neg (by omega), if_neg (by omega)]
 refine ⟨?_, ?_, hk, by omega⟩
 ·unfold afF
  rw [hk, if_neg (by decide), if_pos rfl, hmod]; omega
 ·unfold ajM
  rw [hk, if_neg (by decide), if_pos rfl, hd]; omega
theorem bdY {a b s t : Nat} (ha0 : 0 < a) (ha : a < 9007199254740992) (hb0 : 0 < b) (hb : b < 9007199254740992) (hs : s ≤ 500) (ht : t ≤ 500) : ajR (yB false a s false) (yB false b t false) = yB false (a * b) ((s + t : Nat) : Int) false := by
 obtain ⟨i, hi, a1, a2, a3, a4⟩ := alI ha0 ha hs
 obtain ⟨j, hj, b1, b2, b3, b4⟩ := alI hb0 hb ht
 have hn : arP (yB false a s false) (yB false b t false) = false := by
  unfold arP
  refine decide_eq_false ?_
  rw [Nat.div_eq_of_lt (show _ < 2 ^ 63 from a4), Nat.div_eq_of_lt (show _ < 2 ^ 63 from b4)]
  simp
 unfold ajR
 rw [a3, b3, if_neg (by decide), if_neg (by decide), hn, a1, a2, b1, b2]
 rw [show a * 2 ^ i * (b * 2 ^ j) = a * b * 2 ^ (i + j) by rw [Nat.pow_add, Nat.mul_mul_mul_comm], adT (by omega) (by omega)]
 congr 1; omega
theorem ten_five (i : Nat) (hi : i ≤ 500) : yB false (10 ^ i) 0 false = yB false (5 ^ i) (i : Int) false := by
 rw [show (10 : Nat) = 5 * 2 by decide, Nat.mul_pow, adT (by decide) (by omega)]
 congr 1; omega
theorem bfK : ∀ i : Fin 23, tenB i.1 = yB false (10 ^ i.1) 0 false := by decide +kernel
theorem biU {m j : Nat} (hm : 0 < m) (hm2 : m < 9007199254740992) (hj : j ≤ 22) : fastN m j = ahQ m (j : Int) := by
 have h5 : 5 ^ j < 9007199254740992 := Nat.lt_of_le_of_lt (Nat.pow_le_pow_right (by decide) hj) (by decide)
 have hf := bdY (s := 0) (t := j) hm hm2 (Nat.pow_pos (by decide) : 0 < 5 ^ j) h5 (by decide) (by omega)
 unfold fastN ahQ
 rw [if_pos (by omega), bfK ⟨j, by omega⟩, ten_five j (by omega)]
 rw [show ((0 : Nat) : Int) = 0 from rfl, Nat.zero_add] at hf
 rw [hf, show ((j : Int)).toNat = j by omega, show (10 : Nat) = 5 * 2 by decide, Nat.mul_pow, ← Nat.mul_assoc, adT (by decide) (by omega)]
 congr 1; omega
theorem num_low {c : UInt8} {r : List UInt8} (hc : isD c) (h0 : c ≠ 48) : 10 ^ r.length ≤ num (c :: r) := by
 rw [arM]
 have : 49 ≤ c.toNat := by
  rcases Nat.lt_or_ge c.toNat 49 with h | h
  ·have h48 : c.toNat = 48 := by unfold isD at hc; omega
   exact absurd (UInt8.toNat_inj.1 (show c.toNat = (48 : UInt8).toNat by simp only [UInt8.reduceToNat]; omega)) h0
  ·exact h
 exact Nat.le_trans (Nat.le_mul_of_pos_left _ (by omega)) (Nat.le_add_right _ _)
theorem atA {ds : List UInt8} {e : Int} (h : qF ds e = true) (hne : ds ≠ []) : 10 ^ (ds.length - 1) ≤ num ds ∧ num ds < 10 ^ ds.length := by
 have hd := qW h
 refine ⟨?_, afN hd⟩
 match ds, hne with
 | c :: r, _ =>
  refine num_low (hd c (by simp)) ?_
  rintro rfl
  unfold qF at h
  simp at h
theorem bfW {ds : List UInt8} {e : Int} (h : qF ds e = true) (hne : ds ≠ []) (hp : -400 ≤ (ds.length : Int) + e ∧ (ds.length : Int) + e ≤ 400) : ahM ds e = ahQ (num ds) e := by
 have hd := qW h
 have hl := aaS h
 have hlp := List.length_pos_iff.2 hne
 obtain ⟨hn1, hn2⟩ := atA h hne
 have hn0 : 0 < num ds := Nat.lt_of_lt_of_le (abJ _) hn1
 unfold ahM
 by_cases h1 : (ds.length : Int) + e < -330
 ·rw [if_pos (.inr h1), bcQ hn2 (by omega) (by omega)]
 rw [if_neg (fun q => q.elim hne h1)]
 by_cases h2 : 310 < (ds.length : Int) + e
 ·rw [if_pos h2, bcR hn1 (by omega) (by omega)]
 rw [if_neg h2]
 by_cases h3 : ds.length ≤ 19
 ·rw [if_pos h3]
  by_cases h4 : ds.length ≤ 15 ∧ 0 ≤ e ∧ e ≤ 22
  ·rw [if_pos h4]
   have h15 : num ds < 9007199254740992 := Nat.lt_of_lt_of_le hn2 (Nat.le_trans (Nat.pow_le_pow_right (by decide) h4.1) (by decide))
   have := biU hn0 h15 (j := e.toNat) (by omega)
   rw [this]; congr 1; omega
  ·rw [if_neg h4]
   split
   ·rename_i hq
    exact axB hn0 (by omega) hq
   ·exact asX hn0 (by omega)
 ·rw [if_neg h3]
  exact asX hn0 (by omega)
theorem BIG_bits : ∃ a : Nat, a = 8192 ∧ BIG = 2 ^ a := ⟨8192, rfl, by decide +kernel⟩
theorem adH {x : Nat} (h : yI x ≤ 8192) : x < BIG := by
 obtain ⟨a, ha, e⟩ := BIG_bits
 rw [e]; exact yW.1 (by omega)
theorem apD (neg : Bool) (n : Nat) (e : Int) (more : Bool) : yB neg n e more = aaJ neg + yB false n e more := by
 unfold yB
 split
 ·rfl
 ·split
  ·unfold aaJ; simp
  ·rw [arJ, arJ]; unfold aaJ; simp
theorem baD {ds : List UInt8} {i : Nat} (h : i < ds.length) : num (ds.take (i + 1)) = num (ds.take i) * 10 + ((ds.getD i 0).toNat - 48) := by
 rw [List.take_add_one, List.getD_eq_getElem?_getD, List.getElem?_eq_getElem h]
 generalize ds[i] = c
 show num (ds.take i ++ [c]) = _
 rw [apQ]; unfold num; rw [acD, akZ]; simp
theorem ayJ (n : Nat) : yI (n * 10) ≤ yI n + 4 := by
 have h1 : n < 2 ^ yI n := yW.1 (Nat.le_refl _)
 refine yW.2 ?_
 rw [Nat.pow_add]; omega
theorem num_bl {ds : List UInt8} (hd : Digs ds) : yI (num ds) ≤ 10 * ds.length / 3 + 2 := Nat.le_trans (aeW (Nat.le_of_lt (afN hd))) (ahD _)
theorem mul_bl {ds : List UInt8} (hd : Digs ds) {j : Nat} (h : ds.length + j ≤ 2000) : yI (num ds * 10 ^ j) ≤ 8192 := by
 have h1 : num ds * 10 ^ j ≤ 10 ^ (ds.length + j) := by rw [Nat.pow_add]; exact Nat.mul_le_mul_right _ (Nat.le_of_lt (afN hd))
 have := Nat.le_trans (aeW h1) (ahD _)
 omega
def rK (m : Nat) (b : Nat) : Nat := yI b + 70 - yI m
def avR (neg : Bool) (ds : List UInt8) (e : Int) : Nat := aaJ neg + (if ds = [] ∨ (ds.length : Int) + e < -400 then 0 else if 400 < (ds.length : Int) + e then avV else ahQ (num ds) e)
theorem rat_read {m : Nat} {k : Int} (hm : 0 < m) (hk : -2000 ≤ k) (h0 : k < 0) : avS m (10 ^ (-k).toNat) (rK m (10 ^ (-k).toNat)) = ahQ m k := by
 unfold ahQ
 rw [if_neg (by omega)]
 have hbl := agF (-k).toNat
 have ht := abJ (-k).toNat
 have hb := acY hm
 refine (azQ ht ?_ (by unfold rK; omega) (by omega)).symm
 have h1 := anU hm
 have h2 := aeK (10 ^ (-k).toNat)
 have h3 : 2 ^ 65 ≤ m * 2 ^ rK m (10 ^ (-k).toNat) / 10 ^ (-k).toNat := by
  rw [Nat.le_div_iff_mul_le ht]
  refine Nat.le_trans (Nat.mul_le_mul_left _ (Nat.le_of_lt h2)) (Nat.le_trans ?_ (Nat.mul_le_mul_right _ h1))
  rw [← Nat.pow_add, ← Nat.pow_add]
  exact Nat.pow_le_pow_right (by decide) (by unfold rK; omega)
 have := aaU.2 h3
 omega
theorem bdS {r : Nat} : decide ((0 : Int) < ((zE r).length : Int)) = decide (r ≠ 0) := by
 refine decide_eq_decide.2 ⟨fun h q => ?_, fun h => ?_⟩
 ·subst q; rw [show zE 0 = [] by decide +kernel] at h; simp at h
 ·rw [qA (Nat.pos_of_ne_zero h)]; simp only [List.length_cons]; omega

def bgU (ds : List UInt8) (H : Heap) : Nat → Env → Heap → Prop := fun k env H1 => ∃ (i : Nat) (tl : Tail), i ≤ ds.length ∧ env = [(0, .str ds), (3, .slice 1 (U .u32 (zE (num (ds.take i)))) tl), (4, .int .i64 (i : Int))] ∧ H = H1 ∧ k = ds.length - i

set_option maxRecDepth 100000 in
theorem awZ (ds : List UInt8) (hd : Digs ds) (hl : ds.length ≤ 1200) (H : Heap) : ACall Tryz.prog 51 [.str ds] H (fun y H' => y = aaA (num ds) ∧ H' = H) := by
 refine ACall.of_body Tryz.func51 rfl Tryz.ntmps51 Tryz.results51 rfl ?_
 iterate 2 refine AX ?_
 refine .p rfl (zC (qB (sz := 1) (tl := .full))) ?_
 iterate 4 refine AX ?_
 refine .e rfl (azE Tryz.underlying94 Tryz.sizeOf112 Tryz.zeroValue112 ) ?_
 iterate 6 refine AX ?_
 refine .p rfl (zC (zG 0)) ?_
 iterate 3 refine AX ?_
 refine AWP.loopW (bgU ds H) (ds.length) ⟨0, .full, Nat.zero_le _, rfl, rfl, rfl⟩ (yC rfl (zW rfl (afB rfl) (yC rfl yX))) (Heap.le.refl _) ?_
 rintro _ _ _ ⟨i, tl, hi, rfl, rfl, hk⟩
 have hbl := num_bl (hd.take i)
 have htl : (ds.take i).length ≤ 1200 := by rw [List.length_take]; omega
 have hl := yU (n := num (ds.take i)) (adH (by omega))
 iterate 9 refine AX ?_
 refine AWP.cx rfl (fun hc9 => ?_) (fun hc9 => ?_)
 ·have hil : i < ds.length := by omega
  have hdi := hd.at hil
  have hdi2 : 48 ≤ (ds.getD ((i : Nat) : Int).toNat 0).toNat ∧ (ds.getD ((i : Nat) : Int).toNat 0).toNat ≤ 57 := hdi
  have hl2 := yU (n := val (zE (num (ds.take i))) * val [10]) (adH (by have h1 := ayJ (num (ds.take i)); rw [zM]; show yI (num (ds.take i) * 10) ≤ _; omega))
  iterate 4 refine AX ?_
  refine AWP.draw [(0, true), (1, true), (2, true), (3, true), (4, true), (5, true), (6, true), (7, true), (8, true), (9, true), (10, true)] rfl (by decide +kernel) ?_
  refine AX ?_
  refine APlan.f rfl rfl (fun _ => aaL Tryz.underlying94 Tryz.sizeOf112 Tryz.zeroValue112 rfl (zG 10) (.inl rfl) ⟨rfl, rfl⟩) ?_
  refine APlan.f rfl rfl (fun _ => zH Tryz.call53 (evs2 rfl rfl) (afY (zE (num (ds.take i))) tl (zJ _) (by omega) [10] .full (Limbs.mk (by decide) Limbs.nil) (by decide) _)) ?_
  iterate 2 refine AX ?_
  refine .p rfl rfl (yH Tryz.underlying9 (tm rfl) (tm rfl) (by omega) (by omega)) (.p rfl rfl (apE (tm rfl) (zG 48) (by omega) (by omega)) (.p rfl rfl (zT Tryz.underlying5 Tryz.underlying112 (tm rfl) (wrapN32 (by omega))) ?_))
  refine APlan.f rfl rfl (fun _ => aaL Tryz.underlying94 Tryz.sizeOf112 Tryz.zeroValue112 rfl (tm rfl) (.inl rfl) ⟨rfl, rfl⟩) ?_
  refine APlan.f rfl rfl (fun _ => zH Tryz.call85 (evs2 rfl rfl) (awV (zE (val (zE (num (ds.take i))) * val [10])) .shared (zJ _) (by omega) [(ds.getD i 0).toNat - 48] .full (Limbs.mk (by omega) Limbs.nil) (by simp) _)) ?_
  iterate 6 refine AX ?_
  refine .p rfl (zK (tm rfl) (zG 1) (by omega)) ?_
  iterate 3 refine AX ?_
  refine Round.mk (J := bgU ds H) ⟨i + 1, .shared, by omega, rfl, rfl, rfl⟩ (yC rfl (zW rfl (congrArg aaA (show _ = num (ds.take (i + 1)) by rw [zM, zM, baD hil]; rfl)) (yC rfl yX))) (Heap.le.refl _) (by omega)
 ·iterate 12 refine AX ?_
  refine Ret.go (.cons (.weak _ _ _ rfl (.slice _ _ _)) .nil) _ (Heap.le.refl _) ?_
  refine ⟨?_, rfl⟩
  rw [show i = ds.length by omega, List.take_length]; rfl

set_option maxRecDepth 100000 in
theorem alW (neg : Bool) (x : Nat) (hx : x < 9223372036854775808) (H : Heap) : ACall Tryz.prog 50 [.bool neg, .int .u64 (x : Int)] H (fun y H' => y = .int .u64 ((aaJ neg + x : Nat) : Int) ∧ H' = H) := by
 refine ACall.of_body Tryz.func50 rfl Tryz.ntmps50 Tryz.results50 rfl ?_
 iterate 2 refine AX ?_
 refine .p rfl (zC (zG 0)) ?_
 iterate 8 refine AX ?_
 refine AWP.cx rfl (fun hc5 => ?_) (fun hc5 => ?_)
 ·iterate 3 refine AX ?_
  refine .p rfl (yD (tm rfl) (zG 9223372036854775808) (by omega)) ?_
  iterate 5 refine AX ?_
  refine Ret.go (.cons (.tmp _ _ rfl) .nil) _ (Heap.le.refl _) ?_
  refine ⟨?_, rfl⟩
  unfold aaJ; rw [if_pos (by assumption), Nat.add_comm]; rfl
 ·iterate 9 refine AX ?_
  refine Ret.go (.cons (.tmp _ _ rfl) .nil) _ (Heap.le.refl _) ?_
  refine ⟨?_, rfl⟩
  unfold aaJ; rw [if_neg (by simp_all), Nat.zero_add]; rfl

set_option maxRecDepth 100000 in
theorem atR (neg : Bool) (ds : List UInt8) (e : Int) (hr : qF ds e = true) (hl : ds.length ≤ 1000) (H : Heap) : ACall Tryz.prog 18 [dA neg ds e] H (fun y H' => y = .int .u64 ((avR neg ds e : Nat) : Int) ∧ H' = H) := by
 have hd := qW hr
 have hnb := num_bl hd
 have hrl := aaS hr
 refine ACall.of_body Tryz.func18 rfl Tryz.ntmps18 Tryz.results18 rfl ?_
 iterate 2 refine AX ?_
 refine .e rfl (yF (tm rfl) (.inr ⟨_, rfl⟩)) (.p rfl (zC (zG 0)) ?_)
 iterate 5 refine AX ?_
 refine .cl rfl Tryz.call45 (evs1 rfl) (atN neg ds e (by rw [zP]; omega) _) ?_
 rw [show afM ds e = (ds.length : Int) + e by unfold afM; rw [if_pos hr]]
 iterate 5 refine AX ?_
 refine AWP.seqTo 11 (.bool (decide (ds = [] ∨ (ds.length : Int) + e < -400))) [1, 2, 3] ?_ ?_
 ·-- region 2
  refine AX ?_
  refine .p rfl (zA Tryz.underlying48 rfl Tryz.sizeOf9 (tm rfl)) ?_
  iterate 4 refine AX ?_
  refine zI (t := 16) rfl (fun hg16 => ?_) (fun hg16 => ?_)
  ·iterate 5 refine AX ?_
   exact ⟨rfl, zZ rfl (by (simp_all; done)) sX, rfl⟩
  ·iterate 5 refine AX ?_
   exact ⟨rfl, zZ rfl (by (simp_all; done)) sX, rfl⟩
 ·refine AWP.sub [(11, _), (1, _), (2, _), (3, _)] sX ?_
  refine AWP.cx rfl (fun hc11 => ?_) (fun hc11 => ?_)
  ·have hc0 : ds = [] ∨ (ds.length : Int) + e < -400 := hc11
   iterate 2 refine AX ?_
   refine .p rfl (zA Tryz.underlying48 rfl Tryz.sizeOf4 (tm rfl)) ?_
   refine AX ?_
   refine .cl rfl Tryz.call50 (.cons (tm rfl) (.cons (zG 0) .nil)) (alW neg 0 (by decide) _) ?_
   iterate 6 refine AX ?_
   refine Ret.go (.cons (.tmp _ _ rfl) .nil) _ (Heap.le.refl _) ?_
   exact ⟨congrArg (fun w : Nat => AV.int .u64 (w : Int)) (show _ = avR neg ds e by unfold avR; rw [if_pos hc0]), rfl⟩
  ·have hc0 : ¬ (ds = [] ∨ (ds.length : Int) + e < -400) := hc11
   have hne : ds ≠ [] := fun q => hc0 (.inl q)
   iterate 7 refine AX ?_
   refine AWP.cx rfl (fun hc23 => ?_) (fun hc23 => ?_)
   ·iterate 2 refine AX ?_
    refine .p rfl (zA Tryz.underlying48 rfl Tryz.sizeOf4 (tm rfl)) ?_
    refine AX ?_
    refine .cl rfl Tryz.call50 (.cons (tm rfl) (.cons (zG 9218868437227405312) .nil)) (alW neg 9218868437227405312 (by decide) _) ?_
    iterate 6 refine AX ?_
    refine Ret.go (.cons (.tmp _ _ rfl) .nil) _ (Heap.le.refl _) ?_
    exact ⟨congrArg (fun w : Nat => AV.int .u64 (w : Int)) (show _ = avR neg ds e by unfold avR; rw [if_neg hc0, if_pos (by omega)]; rfl), rfl⟩
   ·have hnl := yU (n := num ds) (adH (by omega))
    have hn0 : 0 < num ds := Nat.lt_of_lt_of_le (abJ _) (atA hr hne).1
    iterate 5 refine AX ?_
    refine .p rfl (zA Tryz.underlying48 rfl Tryz.sizeOf9 (tm rfl)) ?_
    refine AX ?_
    refine .cl rfl Tryz.call51 (evs1 rfl) (awZ ds hd (by omega) _) ?_
    iterate 6 refine AX ?_
    refine .p rfl (zA Tryz.underlying48 rfl Tryz.sizeOf3 (tm rfl)) ?_
    iterate 4 refine AX ?_
    refine AWP.cx rfl (fun hc34 => ?_) (fun hc34 => ?_)
    ·have hbe := ahD e.toNat
     have htl := yU (n := 10 ^ e.toNat) (adH (by omega))
     have hml := yU (n := num ds * 10 ^ e.toNat) (adH (mul_bl hd (by omega)))
     refine AX ?_
     refine AWP.draw [(0, true), (1, true), (2, true), (3, true), (4, true), (5, false), (6, true), (7, false), (8, true)] rfl (by decide +kernel) ?_
     refine .p rfl rfl (zA Tryz.underlying48 rfl Tryz.sizeOf4 (tm rfl)) ?_
     iterate 2 refine AX ?_
     refine .p rfl rfl (zA Tryz.underlying48 rfl Tryz.sizeOf3 (tm rfl)) ?_
     refine AX ?_
     refine .s rfl rfl (zH Tryz.call54 (evs1 rfl) (apB e.toNat (by omega) _ (by omega) (adH (by have := ahD e.toNat; omega)) _)) ?_
     rintro _ _ ⟨rfl, hH⟩
     obtain rfl := hH.symm
     refine APlan.f rfl rfl (fun _ => zH Tryz.call53 (evs2 rfl rfl) (afY (zE (num ds)) .shared (zJ _) (by omega) (zE (10 ^ e.toNat)) .shared (zJ _) (by omega) _)) ?_
     refine .s rfl rfl (zH Tryz.call52 (.cons (tm rfl) (.cons (tm rfl) (.cons zF (.cons yN .nil)))) (akM neg (zE (val (zE (num ds)) * val (zE (10 ^ e.toNat)))) .shared (zJ _) (by rw [zM, zM]; omega) 0 (by decide) false _)) ?_
     rintro _ _ ⟨rfl, hH⟩
     obtain rfl := hH.symm
     iterate 5 refine AX ?_
     refine Ret.go (.cons (.tmp _ _ rfl) .nil) _ (Heap.le.refl _) ?_
     have e1 : yB neg (val (zE (val (zE (num ds)) * val (zE (10 ^ e.toNat))))) 0 false = avR neg ds e := by
      unfold avR ahQ
      rw [if_neg hc0, if_neg (by omega), if_pos (by omega), apD, zM, zM, zM]
     exact ⟨congrArg (fun w : Nat => AV.int .u64 (w : Int)) e1, rfl⟩
    ·have hbe := ahD (-e).toNat
     have htl := yU (n := 10 ^ (-e).toNat) (adH (by omega))
     have hbp := abJ (-e).toNat
     have hbb := acY hbp
     have hnp := acY hn0
     have hk : rK (num ds) (10 ^ (-e).toNat) = yI (10 ^ (-e).toNat) + 70 - yI (num ds) := rfl
     have hup : num ds * 2 ^ rK (num ds) (10 ^ (-e).toNat) < BIG := adH (by rw [bbD hn0]; omega)
     have hul := yU hup
     have hql := yU (n := num ds * 2 ^ rK (num ds) (10 ^ (-e).toNat) / 10 ^ (-e).toNat) (Nat.lt_of_le_of_lt (Nat.div_le_self _ _) hup)
     iterate 4 refine AX ?_
     refine .p rfl (zA Tryz.underlying48 rfl Tryz.sizeOf3 (tm rfl)) ?_
     refine AX ?_
     refine .p rfl (aaE (tm rfl) (by omega)) (.cl rfl Tryz.call54 (evs1 rfl) (apB (-e).toNat (by omega) _ (by omega) (adH (by omega)) _) ?_)
     iterate 8 refine AX ?_
     refine AWP.seqToL [(6, .int .i64 ((rK (num ds) (10 ^ (-e).toNat) : Nat) : Int))] [1, 2, 4, 5] ?_ ?_
     ·iterate 3 refine AX ?_
      refine .cl rfl Tryz.call55 (evs1 rfl) (aeQ (zE (10 ^ (-e).toNat)) .shared (zJ _) (by omega) _) ?_
      rw [zM]
      refine AX ?_
      refine .cl rfl Tryz.call55 (evs1 rfl) (aeQ (zE (num ds)) .shared (zJ _) (by omega) _) ?_
      rw [zM]
      refine .p rfl (zO (tm rfl) (tm rfl) (by omega)) (.p rfl (zK (tm rfl) zF (by omega)) ?_)
      iterate 3 refine AX ?_
      refine AWP.cx rfl (fun hc53 => ?_) (fun hc53 => ?_)
      ·iterate 2 refine AX ?_
       refine .cl rfl Tryz.call55 (evs1 rfl) (aeQ (zE (10 ^ (-e).toNat)) .shared (zJ _) (by omega) _) ?_
       rw [zM]
       refine AX ?_
       refine .cl rfl Tryz.call55 (evs1 rfl) (aeQ (zE (num ds)) .shared (zJ _) (by omega) _) ?_
       rw [zM]
       refine .p rfl (zO (tm rfl) (tm rfl) (by omega)) (.p rfl (zK (tm rfl) zF (by omega)) ?_)
       iterate 2 refine AX ?_
       exact ⟨rfl, (zW rfl (by (rw [hk]; exact congrArg (AV.int .i64) (by omega))) sX), rfl⟩
      ·refine AX ?_
       exact ⟨rfl, (zW rfl (by (rw [hk]; exact congrArg (AV.int .i64) (by omega))) sX), rfl⟩
     ·refine AWP.sub [(6, _), (1, _), (2, _), (4, _), (5, _)] sX ?_
      iterate 4 refine AX ?_
      refine .cl rfl Tryz.call57 (evs2 rfl rfl) (atL (zE (num ds)) .shared (zJ _) (by omega) (rK (num ds) (10 ^ (-e).toNat)) (by omega) _ rfl (by rw [zM]; exact hup) _) ?_
      rw [zM]
      refine AX ?_
      refine .cl rfl Tryz.call56 (evs2 rfl rfl) (atP (zE (num ds * 2 ^ rK (num ds) (10 ^ (-e).toNat))) .shared (zJ _) (by omega) (zE (10 ^ (-e).toNat)) .shared (zJ _) (by omega) (by rw [zM]; exact hbp) _) ?_
      rw [zM]
      rw [zM]
      iterate 9 refine AX ?_
      refine .p rfl (zA Tryz.underlying48 rfl Tryz.sizeOf4 (tm rfl)) ?_
      iterate 3 refine AX ?_
      refine .p rfl (aaE (tm rfl) (by omega)) ?_
      iterate 3 refine AX ?_
      refine .cl rfl Tryz.call52 (.cons (tm rfl) (evs3 rfl rfl rfl)) (akM neg (zE (num ds * 2 ^ rK (num ds) (10 ^ (-e).toNat) / (10 ^ (-e).toNat))) .shared (zJ _) (by omega) (-((rK (num ds) (10 ^ (-e).toNat) : Nat) : Int)) (by omega) _ _) ?_
      iterate 4 refine AX ?_
      refine Ret.go (.cons (.tmp _ _ rfl) .nil) _ (Heap.le.refl _) ?_
      have hrr := rat_read (m := num ds) (k := e) hn0 (by omega) (by omega)
      unfold avS at hrr
      have e1 : yB neg (val (zE (num ds * 2 ^ rK (num ds) (10 ^ (-e).toNat) / 10 ^ (-e).toNat))) (-((rK (num ds) (10 ^ (-e).toNat) : Nat) : Int)) (decide ((0 : Int) < ((zE (num ds * 2 ^ rK (num ds) (10 ^ (-e).toNat) % 10 ^ (-e).toNat)).length : Int))) = avR neg ds e := by
       unfold avR
       rw [if_neg hc0, if_neg (by omega), apD, zM, bdS, hrr]
      exact ⟨congrArg (fun w : Nat => AV.int .u64 (w : Int)) e1, rfl⟩

theorem bgT {neg : Bool} {ds : List UInt8} {e : Int} (hr : qF ds e = true) : avR neg ds e = ahY neg ds e := by
 unfold avR ahY
 congr 1
 by_cases h0 : ds = []
 ·unfold ahM; rw [if_pos (.inl h0), if_pos (.inl h0)]
 by_cases h1 : (ds.length : Int) + e < -400
 ·unfold ahM; rw [if_pos (.inr h1), if_pos (.inr (by omega))]
 by_cases h2 : 400 < (ds.length : Int) + e
 ·unfold ahM; rw [if_neg (by simp [h0, h1]), if_pos h2, if_neg (by simp [h0]; omega), if_pos (by omega)]
 ·rw [if_neg (by simp [h0, h1]), if_neg h2, bfW hr h0 ⟨by omega, by omega⟩]
end Go.Proofs.YtfkeflcdadlmdaaGreatDoor
