import Derived.Test.YtfkeflcdadlmdaaGreatDoorSsk
import Derived.Test.YtfkeflcdadlmdaaGreatDoorR1
import Derived.Test.YtfkeflcdadlmdaaGreatDoorN1
import Derived.Test.YtfkeflcdadlmdaaGreatDoorP2
import Derived.Test.YtfkeflcdadlmdaaGreatDoorQ3
import Derived.Test.YtfkeflcdadlmdaaGreatDoorD1
namespace Go.Proofs.YtfkeflcdadlmdaaGreatDoor
open Go Go.RowKit

theorem azJ {y : Nat} (h : 0 < y) : yR y = yR (y / 2) + 1 := by
 rcases Nat.lt_or_ge y 2 with q | q
 ·have : y = 1 := by omega
  subst this; rfl
 ·have := adE (n := y) (k := 1) (m := y / 2) (by omega) rfl
  omega

theorem bgF {a m k : Nat} : a / 2 ^ m % 2 ^ (k + 1) = 2 * (a / 2 ^ (m + 1) % 2 ^ k) + a / 2 ^ m % 2 := by
 rw [Nat.pow_succ 2 m, ← Nat.div_div_eq_div_mul, Nat.pow_succ 2 k, Nat.mul_comm (2 ^ k), Nat.mod_mul]
 omega
theorem axL {v i : Nat} (h : v % 2 ^ i = 0) : v % 2 ^ (i + 1) = 2 ^ i * (v / 2 ^ i % 2) := by
 rw [Nat.pow_succ, Nat.mod_mul, h, Nat.zero_add]
theorem low_over {v i n : Nat} (h : v % 2 ^ i = 0) (hn : i = n ∨ v < 2 ^ i) (hin : i ≤ n) : v % 2 ^ n = 0 := by
 rcases hn with rfl | hn
 ·exact h
 ·rw [Nat.mod_eq_of_lt hn] at h
  subst h; exact Nat.zero_mod _
theorem low_hit {v i n : Nat} (hin : i < n) (h : v % 2 ^ i = 0) (hb : v / 2 ^ i % 2 = 1) : v % 2 ^ n ≠ 0 := by
 intro q
 have h1 := axL h
 rw [hb, Nat.mul_one] at h1
 have h2 : v % 2 ^ (i + 1) = 0 := by
  have := Nat.mod_mod_of_dvd v (Nat.pow_dvd_pow 2 (show i + 1 ≤ n by omega))
  rw [q] at this
  rw [← this]; exact Nat.zero_mod _
 have := Nat.pow_pos (n := i) (show 0 < 2 by decide)
 omega

def rlen_J (v : Nat) (H : Heap) : Nat → Env → Heap → Prop := fun k env H1 => ∃ (i y : Nat), i + yR y = yR ((zJ v).getD ((zJ v).length - 1) 0) ∧ y < 4294967296 ∧ env = [(4, .int .i64 (32 * (((zJ v).length : Int) - 1) + (i : Int))), (5, .int .u32 (y : Int))] ∧ H = H1 ∧ k = yR y

set_option maxRecDepth 100000 in
theorem aeI (xs : List Nat) (tl : Tail) (hx : Limbs xs) (hl : xs.length ≤ 100000) (H : Heap) : ACall Tryz.prog 55 [.slice 1 (U .u32 xs) tl] H (fun y H' => y = .int .i64 (yR (val xs) : Int) ∧ H' = H) := by
 have hT := aaC xs tl hx (by omega)
 have hvl : (zJ (val xs)).length ≤ xs.length := by rw [← aaS hx]; exact aaJ xs
 generalize val xs = v at *
 have hgt := Limbs.getD (zN v) ((zJ v).length - 1)
 have hb32 := (qK (n := ((zJ v).getD ((zJ v).length - 1) 0)) (k := 32)).2 (by rw [show (2 : Nat) ^ 32 = 4294967296 by decide]; exact hgt)
 refine ACall.of_body Tryz.func55 rfl Tryz.ntmps55 Tryz.results55 rfl ?_
 refine .sr (.p rfl (zB zD) (.nr (.mv rfl rfl (.cl rfl Tryz.call89 (evs1 rfl) (hT _) (.as rfl rfl (.ng (.seq (.sr ?_))))))))
 refine .mv rfl rfl (.p rfl (zV Tryz.underlying94 (tm rfl)) (.p rfl (zX (tm rfl) zD) (.ng ?_)))
 refine AWP.cond (tm rfl) (fun hc10 => ?_) (fun hc10 => ?_)
 ·try simp only [decide_eq_true_eq] at hc10
  have hv0 : v = 0 := by
   rcases Nat.eq_zero_or_pos v with h | h
   ·exact h
   ·rw [qQ h] at hc10; simp only [List.length_cons] at hc10; omega
  refine .sr (.p rfl (zB zD) (.ng (.ret ?_)))
  refine Next.rt ?_
  refine Ret.go (.cons (.tmp _ _ rfl) .nil) _ (Heap.le.refl _) ?_
  refine ⟨?_, rfl⟩
  subst hv0; rfl
 ·try simp only [decide_eq_false_iff_not] at hc10
  have hvp : 0 < v := by
   rcases Nat.eq_zero_or_pos v with h | h
   ·subst h; exact absurd rfl hc10
   ·exact h
  have hbl := agK hvp
  have hlp : 0 < (zJ v).length := by rw [qQ hvp]; simp
  refine .skip ?_
  refine Next.go ?_
  refine .sr (.mv rfl rfl (.p rfl (zV Tryz.underlying94 (tm rfl)) (.p rfl (zW (tm rfl) zD (by omega)) (.p rfl (ahO zD (tm rfl) (by omega)) (.as rfl rfl (.nr (.mv rfl rfl (.mv rfl rfl ?_))))))))
  refine .p rfl (zV Tryz.underlying94 (tm rfl)) (.p rfl (zW (tm rfl) zD (by omega)) (.p rfl (yD ((zJ v).length - 1) Tryz.underlying94 Tryz.sizeOf112 (tm rfl) (tm rfl) (by omega) (by omega)) (.p rfl (zF Tryz.isAgg112 (tm rfl)) (.as rfl rfl (.ng (.seq (.block ?_)))))))
  refine AWP.loopW (rlen_J v H) (yR ((zJ v).getD ((zJ v).length - 1) 0)) ⟨0, ((zJ v).getD ((zJ v).length - 1) 0), by omega, hgt, rfl, rfl, rfl⟩ (yE rfl (by congr 1; try omega) (zA rfl zK)) (Heap.le.refl _) ?_
  rintro _ _ _ ⟨i, y, hi, hy, rfl, rfl, rfl⟩
  refine .seq (.sr (.mv rfl rfl (.p rfl (yC (tm rfl) (zI 0)) (.ng ?_))))
  refine AWP.cond (tm rfl) (fun hc22 => ?_) (fun hc22 => ?_)
  ·try simp only [decide_eq_true_eq] at hc22
   refine .skip ?_
   refine Next.go ?_
   refine .block (.sr (.mv rfl rfl (.p rfl (zS (tm rfl) zD (by omega)) (.as rfl rfl (.ng (.region (.mv rfl rfl (.p rfl (azQ (tm rfl) (zI 2) (by assumption) (by omega)) ?_))))))))
   refine .as rfl rfl (.nil ?_)
   refine Block.go ?_
   refine Next.go ?_
   have hbh := azJ (y := y) (by omega)
   refine Round.mk (J := rlen_J v H) ⟨i + 1, y / 2, by omega, by omega, rfl, rfl, rfl⟩ (yE rfl (by congr 1; try omega) (zA rfl zK)) (Heap.le.refl _) (by omega)
  ·try simp only [decide_eq_false_iff_not, Int.not_lt] at hc22
   have hy0 : y = 0 := by omega
   subst hy0
   rw [bgD] at hi
   refine .exit ?_
   refine Next.ex ?_
   refine Next.ex ?_
   refine Block.hit ?_
   refine Next.go ?_
   refine .sr (.mv rfl rfl (.as rfl rfl (.ng (.ret ?_))))
   refine Ret.go (.cons (.tmp _ _ rfl) .nil) _ (Heap.le.refl _) ?_
   refine ⟨?_, rfl⟩
   show AV.int .i64 _ = AV.int .i64 _
   congr 1
   omega

def bfM (xs : List Nat) (tl : Tail) (n : Nat) (q : Int) (H : Heap) : Nat → Env → Heap → Prop := fun k env H1 => ∃ c : Nat, c ≤ 64 ∧ env = [(0, .slice 1 (U .u32 xs) tl), (1, .int .i64 q), (5, .int .u64 ((val xs / 2 ^ (n + c) % 2 ^ (64 - c) : Nat) : Int)), (6, .int .i64 ((c : Int) - 1))] ∧ H = H1 ∧ c = k

set_option maxRecDepth 100000 in
theorem alD (xs : List Nat) (tl : Tail) (hx : Limbs xs) (hl : xs.length ≤ 100000) (n : Nat) (hn : n ≤ 100000000) (q : Int) (hq : q = (n : Int)) (H : Heap) : ACall Tryz.prog 86 [.slice 1 (U .u32 xs) tl, .int .i64 q] H (fun y H' => y = .int .u64 ((val xs / 2 ^ n % 18446744073709551616 : Nat) : Int) ∧ H' = H) := by
 subst hq
 refine ACall.of_body Tryz.func86 rfl Tryz.ntmps86 Tryz.results86 rfl ?_
 refine .sr (.p rfl (zB (zI 0)) (.nr (.p rfl (zB (zI 0)) (.ng (.seq (.sr (.p rfl (zB zD) (.ng ?_))))))))
 refine .block ?_
 refine AWP.loopW (bfM xs tl n (n : Int) H) (64) ⟨64, Nat.le_refl _, rfl, rfl, rfl⟩ (zA rfl (zA rfl (yE rfl (by simp [Nat.mod_one]) (zA rfl zK)))) (Heap.le.refl _) ?_
 rintro _ _ _ ⟨c, hc, rfl, rfl, rfl⟩
 refine .seq (.sr (.mv rfl rfl (.p rfl (yW (tm rfl) zD) (.ng ?_))))
 refine AWP.cond (tm rfl) (fun hc8 => ?_) (fun hc8 => ?_)
 ·try simp only [decide_eq_true_eq] at hc8
  have hbn : val xs / 2 ^ (n + (c - 1)) % 2 ^ (64 - (c - 1)) = 2 * (val xs / 2 ^ (n + c) % 2 ^ (64 - c)) + val xs / 2 ^ (n + (c - 1)) % 2 := by
   have := @bgF (val xs) (n + (c - 1)) (64 - c)
   rw [show 64 - c + 1 = 64 - (c - 1) by omega, show n + (c - 1) + 1 = n + c by omega] at this
   exact this
  have hlt : val xs / 2 ^ (n + c) % 2 ^ (64 - c) < 9223372036854775808 := Nat.lt_of_lt_of_le (Nat.mod_lt _ (Nat.pow_pos (by decide))) (Nat.le_trans (Nat.pow_le_pow_right (by decide) (show 64 - c ≤ 63 by omega)) (by decide))
  refine .skip ?_
  refine Next.go ?_
  refine .seq (.block (.sr (.mv rfl rfl (.p rfl (acI (zI 2) (tm rfl) (by omega)) (.as rfl rfl (.nr (.mv rfl rfl (.mv rfl rfl ?_))))))))
  refine .mv rfl rfl (.p rfl (zS (tm rfl) (tm rfl) (by omega)) (.cl rfl Tryz.call87 (evs2 rfl rfl) (aeJ xs tl hx (by omega) (n + (c - 1)) (by omega) _ (by omega) _) (.ng ?_)))
  refine AWP.cond (tm rfl) (fun hc17 => ?_) (fun hc17 => ?_)
  ·try simp only [decide_eq_true_eq] at hc17
   refine .region (.mv rfl rfl (.p rfl (yK (tm rfl) (zI 1) (by omega)) (.as rfl rfl (.nil ?_))))
   refine Block.go ?_
   refine Next.go ?_
   refine .region (.mv rfl rfl (.p rfl (zW (tm rfl) zD (by omega)) (.as rfl rfl (.ng ?_))))
   refine Round.mk (J := bfM xs tl n (n : Int) H) ⟨c - 1, by omega, rfl, rfl, rfl⟩ (zA rfl (zA rfl (yE rfl (congrArg (fun w : Nat => AV.int .u64 (w : Int)) (show _ = val xs / 2 ^ (n + (c - 1)) % 2 ^ (64 - (c - 1)) by omega)) (yE rfl (by congr 1; omega) zK)))) (Heap.le.refl _) (by omega)
  ·try simp only [decide_eq_false_iff_not] at hc17
   refine .skip ?_
   refine Block.go ?_
   refine Next.go ?_
   refine .region (.mv rfl rfl (.p rfl (zW (tm rfl) zD (by omega)) (.as rfl rfl (.ng ?_))))
   refine Round.mk (J := bfM xs tl n (n : Int) H) ⟨c - 1, by omega, rfl, rfl, rfl⟩ (zA rfl (zA rfl (yE rfl (congrArg (fun w : Nat => AV.int .u64 (w : Int)) (show _ = val xs / 2 ^ (n + (c - 1)) % 2 ^ (64 - (c - 1)) by omega)) (yE rfl (by congr 1; omega) zK)))) (Heap.le.refl _) (by omega)
 ·try simp only [decide_eq_false_iff_not, Int.not_le] at hc8
  have hc0 : c = 0 := by omega
  subst hc0
  refine .exit ?_
  refine Next.ex ?_
  refine Next.ex ?_
  refine Block.hit ?_
  refine Next.go ?_
  refine .sr (.mv rfl rfl (.as rfl rfl (.ng (.ret ?_))))
  refine Ret.go (.cons (.tmp _ _ rfl) .nil) _ (Heap.le.refl _) ?_
  refine ⟨?_, rfl⟩
  rw [Nat.add_zero, Nat.sub_zero, show (2 : Nat) ^ 64 = 18446744073709551616 by decide]; rfl

def low_J (xs : List Nat) (tl : Tail) (n : Nat) (H : Heap) : Nat → Env → Heap → Prop := fun k env H1 => ∃ i : Nat, i ≤ n ∧ val xs % 2 ^ i = 0 ∧ env = [(0, .slice 1 (U .u32 xs) tl), (1, .int .i64 (n : Int)), (5, .int .i64 (i : Int))] ∧ H = H1 ∧ k = n - i

set_option maxRecDepth 100000 in
theorem azC (xs : List Nat) (tl : Tail) (hx : Limbs xs) (hl : xs.length ≤ 100000) (n : Nat) (hn : n ≤ 100000000) (q : Int) (hq : q = (n : Int)) (H : Heap) : ACall Tryz.prog 88 [.slice 1 (U .u32 xs) tl, .int .i64 q] H (fun y H' => y = .bool (decide (val xs % 2 ^ n ≠ 0)) ∧ H' = H) := by
 subst hq
 refine ACall.of_body Tryz.func88 rfl Tryz.ntmps88 Tryz.results88 rfl ?_
 refine .sr (.p rfl (zB zL) (.ng (.seq (.sr (.p rfl (zB zD) (.ng (.block ?_)))))))
 refine AWP.loopW (low_J xs tl n H) (n) ⟨0, Nat.zero_le _, by simp [Nat.mod_one], rfl, rfl, rfl⟩ (zA rfl (zA rfl (zA rfl zK))) (Heap.le.refl _) ?_
 rintro _ _ _ ⟨i, hi, hl0, rfl, rfl, rfl⟩
 refine .seq ?_
 refine AWP.seqTo 15 (.bool (decide ((i : Int) < (n : Int)) && decide ((i : Int) < 32 * (xs.length : Int)))) [0, 1, 5] ?_ ?_
 ·-- region 2
  refine .region (.mv rfl rfl (.mv rfl rfl (.p rfl (zZ (tm rfl) (tm rfl)) (.mv rfl rfl ?_))))
  refine zP (t := 9) rfl (fun hg9 => ?_) (fun hg9 => ?_)
  ·refine .gp rfl rfl rfl (by assumption) (zE (tm rfl)) (.gp rfl rfl rfl (by assumption) (zE (tm rfl)) (.gp rfl rfl rfl (by assumption) (zV Tryz.underlying94 (tm rfl)) (.gp rfl rfl rfl (by assumption) (ahO zD (tm rfl) (by omega)) (.gp rfl rfl rfl (by assumption) (zZ (tm rfl) (tm rfl)) (.p rfl (zO (tm rfl) (by assumption) (tm rfl)) (.nil ?_))))))
   exact ⟨rfl, yP rfl (by (rw [show decide ((i : Int) < (n : Int)) = _ from hg9]; rfl)) (zA rfl (zA rfl (zA rfl zK))), rfl⟩
  ·refine .gn rfl rfl rfl (by assumption) (.gn rfl rfl rfl (by assumption) (.gn rfl rfl rfl (by assumption) (.gn rfl rfl rfl (by assumption) (.gn rfl rfl rfl (by assumption) (.p rfl (zM (tm rfl) (by assumption) zL) (.nil ?_))))))
   exact ⟨rfl, yP rfl (by (rw [show decide ((i : Int) < (n : Int)) = _ from hg9]; rfl)) (zA rfl (zA rfl (zA rfl zK))), rfl⟩
 ·refine AWP.sub [(15, _), (0, _), (1, _), (5, _)] (zA rfl (zA rfl (zA rfl (zA rfl zK)))) ?_
  refine AWP.cond (tm rfl) (fun hc15 => ?_) (fun hc15 => ?_)
  ·try simp only [decide_eq_true_eq, decide_eq_false_iff_not, Bool.not_eq_true', Bool.not_eq_false', Int.not_lt, Int.not_le, ne_eq, Decidable.not_not] at hc15
   simp only [Bool.and_eq_true, decide_eq_true_eq] at hc15
   refine .skip ?_
   refine Next.go ?_
   refine .seq (.block (.sr (.mv rfl rfl (.mv rfl rfl (.cl rfl Tryz.call87 (evs2 rfl rfl) (aeJ xs tl hx (by omega) i (by omega) _ rfl _) (.ng ?_))))))
   refine AWP.cond (tm rfl) (fun hc20 => ?_) (fun hc20 => ?_)
   ·try simp only [decide_eq_true_eq] at hc20
    refine .sr (.p rfl (zB zL) (.ng (.ret ?_)))
    refine Block.rt ?_
    refine Next.rt ?_
    refine Next.rt ?_
    refine Block.rt ?_
    refine Next.rt ?_
    refine Ret.go (.cons (.tmp _ _ rfl) .nil) _ (Heap.le.refl _) ?_
    refine ⟨?_, rfl⟩
    rw [decide_eq_true (low_hit (by omega) hl0 (by omega))]; rfl
   ·try simp only [decide_eq_false_iff_not] at hc20
    refine .skip ?_
    refine Block.go ?_
    refine Next.go ?_
    refine .region (.mv rfl rfl (.p rfl (zS (tm rfl) zD (by omega)) (.as rfl rfl (.ng ?_))))
    refine Round.mk (J := low_J xs tl n H) ⟨i + 1, by omega, by rw [axL hl0, show val xs / 2 ^ i % 2 = 0 by omega, Nat.mul_zero], rfl, rfl, rfl⟩ (zA rfl (zA rfl (zA rfl zK))) (Heap.le.refl _) (by omega)
  ·try simp only [decide_eq_true_eq, decide_eq_false_iff_not, Bool.not_eq_true', Bool.not_eq_false', Int.not_lt, Int.not_le, ne_eq, Decidable.not_not] at hc15
   simp only [Bool.and_eq_false_iff, decide_eq_false_iff_not] at hc15
   have hvl := adU hx
   rw [show (4294967296 : Nat) = 2 ^ 32 by decide, ← Nat.pow_mul] at hvl
   have hov : val xs % 2 ^ n = 0 := low_over hl0 (by rcases hc15 with h | h; exact .inl (by omega); exact .inr (Nat.lt_of_lt_of_le hvl (Nat.pow_le_pow_right (by decide) (by omega)))) hi
   refine .exit ?_
   refine Next.ex ?_
   refine Next.ex ?_
   refine Block.hit ?_
   refine Next.go ?_
   refine .sr (.p rfl (zB zL) (.ng (.ret ?_)))
   refine Ret.go (.cons (.tmp _ _ rfl) .nil) _ (Heap.le.refl _) ?_
   refine ⟨?_, rfl⟩
   rw [decide_eq_false (by rw [hov]; simp)]; rfl
theorem blen_row {xs : List Nat} (hx : Limbs xs) : yR (val xs) ≤ 32 * xs.length := qK.2 (by have := adU hx; rw [show (4294967296 : Nat) = 2 ^ 32 by decide, ← Nat.pow_mul] at this; exact this)
theorem mant_ref {v : Nat} {e : Int} {more : Bool} (h : e < yI v e) : abO v e more = if (decide (((v / 2 ^ (((yI v e - e).toNat) - 1) % 2 : Nat) : Int) = 1) && ((decide (v % 2 ^ (((yI v e - e).toNat) - 1) ≠ 0) || more) || decide (((v / 2 ^ ((yI v e - e).toNat) % 2 : Nat) : Int) = ((1 : Nat) : Int)))) = true then v / 2 ^ ((yI v e - e).toNat) + 1 else v / 2 ^ ((yI v e - e).toNat) := by
 rw [beR h]
 simp only [Bool.and_eq_true, Bool.or_eq_true, decide_eq_true_eq, or_assoc]
 congr 1
 refine propext ⟨fun q => ⟨by omega, q.2.imp_right (Or.imp_right (fun w => by omega))⟩, fun q => ⟨by omega, q.2.imp_right (Or.imp_right (fun w => by omega))⟩⟩

set_option maxRecDepth 100000 in
theorem ajJ (neg : Bool) (xs : List Nat) (tl : Tail) (hx : Limbs xs) (hl : xs.length ≤ 10000) (e : Int) (he : -10000 ≤ e ∧ e ≤ 1000000) (more : Bool) (H : Heap) : ACall Tryz.prog 52 [.bool neg, .slice 1 (U .u32 xs) tl, .int .i64 e, .bool more] H (fun y H' => y = .int .u64 ((yL neg (val xs) e more : Nat) : Int) ∧ H' = H) := by
 have hbl : yR (val xs) ≤ 320000 := by have := blen_row hx; omega
 have hb0 := @blen0 (val xs)
 have hun : yI (val xs) e = if e + yR (val xs) - 53 < -1074 then -1074 else e + yR (val xs) - 53 := rfl
 have hul := apA (val xs) e
 have hur : yI (val xs) e ≤ 2000000 := by rw [hun]; split <;> omega
 have hml := ahB (val xs) e more
 have hsg : aaR neg ≤ 9223372036854775808 := by unfold aaR; split <;> omega
 refine ACall.of_body Tryz.func52 rfl Tryz.ntmps52 Tryz.results52 rfl ?_
 refine .sr (.p rfl (zB (zI 0)) (.nr (.p rfl (zB (zI 0)) (.ng ?_))))
 refine AWP.seqToL [(9, .int .u64 ((aaR neg : Nat) : Int))] [1, 2, 3, 8] ?_ ?_
 ·refine .sr (.mv rfl rfl (.ng ?_))
  refine AWP.cond (tm rfl) (fun hc16 => ?_) (fun hc16 => ?_)
  ·try simp only [decide_eq_true_eq, decide_eq_false_iff_not, Bool.not_eq_true', Bool.not_eq_false', Int.not_lt, Int.not_le, ne_eq, Decidable.not_not] at hc16
   refine .region (.p rfl (zB (zI 9223372036854775808)) (.nil ?_))
   exact ⟨rfl, (yE rfl (by (unfold aaR; rw [if_pos (by assumption)]; done)) (zA rfl (zA rfl (zA rfl (zA rfl zK))))), rfl⟩
  ·try simp only [decide_eq_true_eq, decide_eq_false_iff_not, Bool.not_eq_true', Bool.not_eq_false', Int.not_lt, Int.not_le, ne_eq, Decidable.not_not] at hc16
   refine .skip ?_
   exact ⟨rfl, (yE rfl (by (unfold aaR; rw [if_neg (by simp_all)]; done)) (zA rfl (zA rfl (zA rfl (zA rfl zK))))), rfl⟩
 ·refine AWP.sub [(9, _), (1, _), (2, _), (3, _), (8, _)] (zA rfl (zA rfl (zA rfl (zA rfl (zA rfl zK))))) ?_
  refine .sr (.mv rfl rfl (.cl rfl Tryz.call55 (evs1 rfl) (aeI xs tl hx (by omega) _) (.as rfl rfl (.ng (.seq ?_)))))
  refine AWP.seqTo 30 (.bool (decide (val xs = 0))) [9, 1, 2, 3, 8, 10] ?_ ?_
  ·-- region 5
   refine .region (.mv rfl rfl (.p rfl (zX (tm rfl) zD) (.mv rfl rfl ?_)))
   refine zP (t := 21) rfl (fun hg21 => ?_) (fun hg21 => ?_)
   ·have hh21 := hg21; try simp only [decide_eq_true_eq] at hh21
    refine .gn rfl rfl rfl (by assumption) (.gn rfl rfl rfl (by assumption) (.gn rfl rfl rfl (by assumption) ?_))
    refine AList.gdead rfl rfl rfl ?_
    refine AList.gdead rfl rfl rfl ?_
    refine AList.gdead rfl rfl rfl ?_
    refine AList.gdead rfl rfl rfl ?_
    refine .gn rfl rfl rfl (by assumption) (.p rfl (zO (tm rfl) (by assumption) zL) (.nil ?_))
    exact ⟨rfl, yP rfl (by (simp_all; done)) (zA rfl (zA rfl (zA rfl (zA rfl (zA rfl (zA rfl zK)))))), rfl⟩
   ·have hh21 := hg21; try simp only [decide_eq_false_iff_not] at hh21
    refine .gp rfl rfl rfl (by assumption) (zE (tm rfl)) (.gp rfl rfl rfl (by assumption) (zZ (tm rfl) zD) (.gp rfl rfl rfl (by assumption) (zE (tm rfl)) ?_))
    refine zP (t := 24) rfl (fun hg24 => ?_) (fun hg24 => ?_)
    ·have hh24 := hg24; try simp only [decide_eq_true_eq] at hh24
     refine .gp rfl rfl rfl (by assumption) (zE (tm rfl)) (.gp rfl rfl rfl (by assumption) (zE (tm rfl)) (.gp rfl rfl rfl (by assumption) (zS (tm rfl) (tm rfl) (by omega)) (.gp rfl rfl rfl (by assumption) (zZ (tm rfl) zD) (.gp rfl rfl rfl (by assumption) (zO (tm rfl) (by assumption) (tm rfl)) (.p rfl (zM (tm rfl) (by assumption) (tm rfl)) (.nil ?_))))))
     exact ⟨rfl, yP rfl (by (simp_all; omega)) (zA rfl (zA rfl (zA rfl (zA rfl (zA rfl (zA rfl zK)))))), rfl⟩
    ·have hh24 := hg24; try simp only [decide_eq_false_iff_not, Int.not_lt] at hh24
     refine .gn rfl rfl rfl (by assumption) (.gn rfl rfl rfl (by assumption) (.gn rfl rfl rfl (by assumption) (.gn rfl rfl rfl (by assumption) (.gp rfl rfl rfl (by assumption) (zM (tm rfl) (by assumption) zL) (.p rfl (zM (tm rfl) (by assumption) (tm rfl)) (.nil ?_))))))
     exact ⟨rfl, yP rfl (by (simp_all; done)) (zA rfl (zA rfl (zA rfl (zA rfl (zA rfl (zA rfl zK)))))), rfl⟩
  ·refine AWP.sub [(30, _), (9, _), (1, _), (2, _), (3, _), (8, _), (10, _)] (zA rfl (zA rfl (zA rfl (zA rfl (zA rfl (zA rfl (zA rfl zK))))))) ?_
   refine AWP.cond (tm rfl) (fun hc30 => ?_) (fun hc30 => ?_)
   ·try simp only [decide_eq_true_eq] at hc30
    have hv0 : val xs = 0 := by simpa using hc30
    refine .sr (.mv rfl rfl (.as rfl rfl (.ng (.ret ?_))))
    refine Next.rt ?_
    refine Ret.go (.cons (.tmp _ _ rfl) .nil) _ (Heap.le.refl _) ?_
    refine ⟨?_, rfl⟩
    unfold yL; rw [if_pos (.inl hv0)]; rfl
   ·try simp only [decide_eq_false_iff_not] at hc30
    have hv0 : 0 < val xs := Nat.pos_of_ne_zero (by simpa using hc30)
    have hbp : 0 < yR (val xs) := by omega
    refine .skip ?_
    refine Next.go ?_
    refine .seq (.sr (.mv rfl rfl (.p rfl (yC (tm rfl) zD) (.ng ?_))))
    refine AWP.cond (tm rfl) (fun hc33 => ?_) (fun hc33 => ?_)
    ·try simp only [decide_eq_true_eq] at hc33
     refine .sr (.mv rfl rfl (.p rfl (yK (tm rfl) (zI 9218868437227405312) (by omega)) (.as rfl rfl (.ng (.ret ?_)))))
     refine Next.rt ?_
     refine Ret.go (.cons (.tmp _ _ rfl) .nil) _ (Heap.le.refl _) ?_
     refine ⟨?_, rfl⟩
     unfold yL; rw [if_neg (by omega), if_pos (by omega)]; rfl
    ·try simp only [decide_eq_false_iff_not, Int.not_lt] at hc33
     refine .skip ?_
     refine Next.go ?_
     refine .sr (.mv rfl rfl (.mv rfl rfl (.p rfl (zS (tm rfl) (tm rfl) (by omega)) (.p rfl (zW (tm rfl) zD (by omega)) (.as rfl rfl (.ng ?_))))))
     refine AWP.seqToL [(11, .int .i64 (yI (val xs) e))] [9, 1, 2, 3, 8] ?_ ?_
     ·refine .sr (.mv rfl rfl (.p rfl (zZ (tm rfl) zD) (.ng ?_)))
      refine AWP.cond (tm rfl) (fun hc41 => ?_) (fun hc41 => ?_)
      ·try simp only [decide_eq_true_eq] at hc41
       refine .region (.p rfl (zB zD) (.nil ?_))
       exact ⟨rfl, (yE rfl (by (rw [hun, if_pos (by omega)]; done)) (zA rfl (zA rfl (zA rfl (zA rfl (zA rfl zK)))))), rfl⟩
      ·try simp only [decide_eq_false_iff_not, Int.not_lt] at hc41
       refine .skip ?_
       exact ⟨rfl, (yE rfl (by (rw [hun, if_neg (by omega)]; done)) (zA rfl (zA rfl (zA rfl (zA rfl (zA rfl zK)))))), rfl⟩
     ·refine AWP.sub [(11, _), (9, _), (1, _), (2, _), (3, _), (8, _)] (zA rfl (zA rfl (zA rfl (zA rfl (zA rfl (zA rfl zK)))))) ?_
      refine .sr (.p rfl (zB (zI 0)) (.ng ?_))
      refine AWP.seqToL [(12, .int .u64 ((abO (val xs) e more : Nat) : Int))] [11, 9, 8] ?_ ?_
      ·refine .sr (.mv rfl rfl (.mv rfl rfl (.p rfl (abJ (tm rfl) (tm rfl)) (.ng ?_))))
       refine AWP.cond (tm rfl) (fun hc44 => ?_) (fun hc44 => ?_)
       ·try simp only [decide_eq_true_eq] at hc44
        have hfs : val xs * 2 ^ (e - yI (val xs) e).toNat < 18446744073709551616 := asR hc44
        have hms := alW (more := more) hc44
        have hur2 := bbX hv0 hc44
        refine .region (.mv rfl rfl (.mv rfl rfl (.mv rfl rfl (.p rfl (zW (tm rfl) (tm rfl) (by omega)) (.cl rfl Tryz.call57 (evs2 rfl rfl) (alG xs tl hx hl (e - yI (val xs) e).toNat (by omega) _ (by omega) (Nat.lt_trans hfs (by decide +kernel)) _) ?_)))))
        refine .cl rfl Tryz.call86 (.cons (tm rfl) (.cons zD .nil)) (alD (zJ (val xs * 2 ^ (e - yI (val xs) e).toNat)) .shared (zN _) (Nat.le_trans (yS (Nat.lt_trans hfs (by decide +kernel))) (by decide)) 0 (by decide) _ rfl _) ?_
        rw [zT, Nat.pow_zero, Nat.div_one, Nat.mod_eq_of_lt hfs]
        refine .as rfl rfl (.nil ?_)
        exact ⟨rfl, (yE rfl (by rw [hms]) (zA rfl (zA rfl (zA rfl zK)))), rfl⟩
       ·try simp only [decide_eq_false_iff_not, Int.not_le] at hc44
        have hms := mant_ref (more := more) hc44
        have hds : val xs / 2 ^ ((yI (val xs) e - e).toNat) < 18446744073709551616 := by
         have := aoU hc44
         rw [← axX (by omega)]; omega
        refine .sr (.mv rfl rfl (.mv rfl rfl (.p rfl (zW (tm rfl) (tm rfl) (by omega)) (.as rfl rfl (.nr (.mv rfl rfl (.mv rfl rfl (.cl rfl Tryz.call86 (evs2 rfl rfl) (alD xs tl hx (by omega) ((yI (val xs) e - e).toNat) (by omega) _ (by omega) _) ?_))))))))
        rw [Nat.mod_eq_of_lt hds]
        refine .as rfl rfl (.nr (.mv rfl rfl (.mv rfl rfl (.p rfl (zW (tm rfl) zD (by omega)) (.cl rfl Tryz.call87 (evs2 rfl rfl) (aeJ xs tl hx (by omega) (((yI (val xs) e - e).toNat) - 1) (by omega) _ (by omega) _) (.as rfl rfl (.ng ?_)))))))
        refine AWP.seqTo 15 (.bool (decide (val xs % 2 ^ (((yI (val xs) e - e).toNat) - 1) ≠ 0) || more)) [11, 9, 8, 12, 14] ?_ ?_
        ·-- region 18
         refine .region (.mv rfl rfl (.mv rfl rfl (.p rfl (zW (tm rfl) zD (by omega)) (.cl rfl Tryz.call88 (evs2 rfl rfl) (azC xs tl hx (by omega) (((yI (val xs) e - e).toNat) - 1) (by omega) _ (by omega) _) (.mv rfl rfl ?_)))))
         refine zP (t := 65) rfl (fun hg65 => ?_) (fun hg65 => ?_)
         ·have hh65 := hg65; try simp only [decide_eq_true_eq, ne_eq] at hh65
          refine .gn rfl rfl rfl (by assumption) (.p rfl (zO (tm rfl) (by assumption) zL) (.as rfl rfl (.nil ?_)))
          exact ⟨rfl, yP rfl (by (simp_all; done)) (zA rfl (zA rfl (zA rfl (zA rfl (zA rfl zK))))), rfl⟩
         ·have hh65 := hg65; try simp only [decide_eq_false_iff_not, ne_eq, Decidable.not_not] at hh65
          refine .gp rfl rfl rfl (by assumption) (zE (tm rfl)) (.p rfl (zM (tm rfl) (by assumption) (tm rfl)) (.as rfl rfl (.nil ?_)))
          exact ⟨rfl, yP rfl (by (simp_all; done)) (zA rfl (zA rfl (zA rfl (zA rfl (zA rfl zK))))), rfl⟩
        ·refine AWP.sub [(15, _), (11, _), (9, _), (8, _), (12, _), (14, _)] (zA rfl (zA rfl (zA rfl (zA rfl (zA rfl (zA rfl zK)))))) ?_
         refine AWP.seqTo 76 (.bool ((decide (((val xs / 2 ^ (((yI (val xs) e - e).toNat) - 1) % 2 : Nat) : Int) = 1) && ((decide (val xs % 2 ^ (((yI (val xs) e - e).toNat) - 1) ≠ 0) || more) || decide (((val xs / 2 ^ ((yI (val xs) e - e).toNat) % 2 : Nat) : Int) = ((1 : Nat) : Int)))))) [11, 9, 8, 12] ?_ ?_
         ·-- region 19
          refine .region (.mv rfl rfl (.mv rfl rfl ?_))
          refine zP (t := 69) rfl (fun hg69 => ?_) (fun hg69 => ?_)
          ·have hh69 := hg69; try simp only [decide_eq_true_eq] at hh69
           refine .gp rfl rfl rfl (by assumption) (zE (tm rfl)) (.gp rfl rfl rfl (by assumption) (zE (tm rfl)) ?_)
           refine zP (t := 71) rfl (fun hg71 => ?_) (fun hg71 => ?_)
           ·have hh71 := hg71; try simp only [ne_eq] at hh71
            refine .gn rfl rfl rfl (by assumption) (.gn rfl rfl rfl (by assumption) (.gn rfl rfl rfl (by assumption) (.gp rfl rfl rfl (by assumption) (zO (tm rfl) (by assumption) zL) (.p rfl (zO (tm rfl) (by assumption) (tm rfl)) (.nil ?_)))))
            exact ⟨rfl, yP rfl (by (simp_all; done)) (zA rfl (zA rfl (zA rfl (zA rfl zK)))), rfl⟩
           ·have hh71 := hg71; try simp only [ne_eq] at hh71
            refine .gp rfl rfl rfl (by assumption) (zE (tm rfl)) (.gp rfl rfl rfl (by assumption) (qW (tm rfl) (zI 2) (by omega)) (.gp rfl rfl rfl (by assumption) (zX (tm rfl) (zI 1)) (.gp rfl rfl rfl (by assumption) (zM (tm rfl) (by assumption) (tm rfl)) (.p rfl (zO (tm rfl) (by assumption) (tm rfl)) (.nil ?_)))))
            exact ⟨rfl, yP rfl (by (simp_all; done)) (zA rfl (zA rfl (zA rfl (zA rfl zK)))), rfl⟩
          ·have hh69 := hg69; try simp only [decide_eq_false_iff_not] at hh69
           refine .gn rfl rfl rfl (by assumption) (.gn rfl rfl rfl (by assumption) ?_)
           refine AList.gdead rfl rfl rfl ?_
           refine AList.gdead rfl rfl rfl ?_
           refine AList.gdead rfl rfl rfl ?_
           refine .gn rfl rfl rfl (by assumption) (.p rfl (zM (tm rfl) (by assumption) zL) (.nil ?_))
           exact ⟨rfl, yP rfl (by (simp_all; done)) (zA rfl (zA rfl (zA rfl (zA rfl zK)))), rfl⟩
         ·refine AWP.sub [(76, _), (11, _), (9, _), (8, _), (12, _)] (zA rfl (zA rfl (zA rfl (zA rfl (zA rfl zK))))) ?_
          refine AWP.cond (tm rfl) (fun hc76 => ?_) (fun hc76 => ?_)
          ·try simp only [ne_eq] at hc76
           rw [if_pos hc76] at hms
           refine .region (.mv rfl rfl (.p rfl (yK (tm rfl) (zI 1) (by omega)) (.as rfl rfl (.nil ?_))))
           exact ⟨rfl, (yE rfl (by rw [hms]) (zA rfl (zA rfl (zA rfl zK)))), rfl⟩
          ·try simp only [ne_eq] at hc76
           rw [if_neg (by rw [hc76]; decide)] at hms
           refine .skip ?_
           exact ⟨rfl, (yE rfl (by rw [hms]) (zA rfl (zA rfl (zA rfl zK)))), rfl⟩
      ·refine AWP.sub [(12, _), (11, _), (9, _), (8, _)] (zA rfl (zA rfl (zA rfl (zA rfl zK)))) ?_
       refine AWP.seqToL [(12, .int .u64 ((aiO (abO (val xs) e more) : Nat) : Int)), (11, .int .i64 (ahS (abO (val xs) e more) (yI (val xs) e)))] [9, 8] ?_ ?_
       ·refine .sr (.mv rfl rfl (.p rfl (zX (tm rfl) (zI 9007199254740992)) (.ng ?_)))
        refine AWP.cond (tm rfl) (fun hc80 => ?_) (fun hc80 => ?_)
        ·try simp only [decide_eq_true_eq] at hc80
         refine .sr (.p rfl (zB (zI 4503599627370496)) (.ng (.region (.mv rfl rfl (.p rfl (zS (tm rfl) zD (by omega)) (.as rfl rfl (.nil ?_)))))))
         exact ⟨rfl, (yE rfl (by (unfold aiO; rw [if_pos (by omega)]; done)) (yE rfl (by (unfold ahS; rw [if_pos (by omega)]; done)) (zA rfl (zA rfl zK)))), rfl⟩
        ·try simp only [decide_eq_false_iff_not] at hc80
         refine .skip ?_
         exact ⟨rfl, (yE rfl (by (unfold aiO; rw [if_neg (by omega)]; done)) (yE rfl (by (unfold ahS; rw [if_neg (by omega)]; done)) (zA rfl (zA rfl zK)))), rfl⟩
       ·refine AWP.sub [(12, _), (11, _), (9, _), (8, _)] (zA rfl (zA rfl (zA rfl (zA rfl zK)))) ?_
        have hR : yL neg (val xs) e more = aaR neg + abW (aiO (abO (val xs) e more)) (ahS (abO (val xs) e more) (yI (val xs) e)) := by
         unfold yL; rw [if_neg (by omega), if_neg (by omega), axD]
        have hA := axE hml
        have hU := axC (abO (val xs) e more) (yI (val xs) e)
        generalize aiO (abO (val xs) e more) = m1 at hA hR ⊢
        generalize ahS (abO (val xs) e more) (yI (val xs) e) = u1 at hU hR ⊢
        refine .seq (.sr (.mv rfl rfl (.p rfl (zZ (tm rfl) (zI 4503599627370496)) (.ng ?_))))
        refine AWP.cond (tm rfl) (fun hc84 => ?_) (fun hc84 => ?_)
        ·try simp only [decide_eq_true_eq] at hc84
         refine .sr (.mv rfl rfl (.mv rfl rfl (.p rfl (yK (tm rfl) (tm rfl) (by omega)) (.as rfl rfl (.ng (.ret ?_))))))
         refine Next.rt ?_
         refine Ret.go (.cons (.tmp _ _ rfl) .nil) _ (Heap.le.refl _) ?_
         refine ⟨?_, rfl⟩
         rw [hR]; unfold abW; rw [if_pos (by omega)]; rfl
        ·try simp only [decide_eq_false_iff_not, Int.not_lt] at hc84
         refine .skip ?_
         refine Next.go ?_
         refine .seq (.sr (.mv rfl rfl (.p rfl (zS (tm rfl) zD (by omega)) (.p rfl (yW (tm rfl) zD) (.ng ?_)))))
         refine AWP.cond (tm rfl) (fun hc90 => ?_) (fun hc90 => ?_)
         ·try simp only [decide_eq_true_eq] at hc90
          refine .sr (.mv rfl rfl (.p rfl (yK (tm rfl) (zI 9218868437227405312) (by omega)) (.as rfl rfl (.ng (.ret ?_)))))
          refine Next.rt ?_
          refine Ret.go (.cons (.tmp _ _ rfl) .nil) _ (Heap.le.refl _) ?_
          refine ⟨?_, rfl⟩
          rw [hR]; unfold abW; rw [if_neg (by omega), if_pos (by omega)]; rfl
         ·try simp only [decide_eq_false_iff_not, Int.not_le] at hc90
          refine .skip ?_
          refine Next.go ?_
          refine .sr (.mv rfl rfl (.mv rfl rfl (.p rfl (zS (tm rfl) zD (by omega)) ?_)))
          refine .p rfl (.as (b := .int .u64 (((u1 + 1075).toNat : Nat) : Int)) (by congr 1; omega) (yA Tryz.underlying3 Tryz.underlying30 (tm rfl) (wrap64 (by omega) (by omega)))) ?_
          refine .p rfl (qX (tm rfl) (zI 52) (by omega) (by rw [shl52 (by omega)]; omega)) (.p rfl (yK (tm rfl) (tm rfl) (by (rw [shl52 (by omega)]; omega))) (.mv rfl rfl (.p rfl (yK (tm rfl) (tm rfl) (by (rw [shl52 (by omega)]; omega))) (.p rfl (adM (tm rfl) (zI 4503599627370496) (by (rw [shl52 (by omega)]; omega)) (by (rw [shl52 (by omega)]; omega))) (.as rfl rfl (.ng (.ret ?_)))))))
          refine Ret.go (.cons (.tmp _ _ rfl) .nil) _ (Heap.le.refl _) ?_
          refine ⟨?_, rfl⟩
          rw [hR]; unfold abW; rw [if_neg (by omega), if_neg (by omega)]
          exact congrArg (fun w : Nat => AV.int .u64 (w : Int)) (show aaR neg + (u1 + 1075).toNat * 2 ^ 52 + m1 - 4503599627370496 = aaR neg + (m1 + (u1 + 1074).toNat * 4503599627370496) by rw [shl52 (by omega)]; omega)
theorem rne_zero {n k : Nat} {more : Bool} (h : n < 2 ^ (k - 1)) : rne n k more = 0 := by
 have h1 : n / 2 ^ (k - 1) = 0 := Nat.div_eq_of_lt h
 have h2 : n / 2 ^ k = 0 := Nat.div_eq_of_lt (Nat.lt_of_lt_of_le h (Nat.pow_le_pow_right (by decide) (by omega)))
 unfold rne
 rw [h1, h2, if_neg (by omega)]
theorem auF {n : Nat} {e : Int} {more : Bool} (h : e + yR n ≤ -1076) (he : e ≤ 0) : yL false n e more = 0 := by
 unfold yL
 split
 ·rfl
 ·rw [if_neg (by omega)]
  have hu : yI n e = -1074 := by unfold yI; rw [if_pos (by omega)]
  have hm : abO n e more = 0 := by
   rcases Nat.eq_zero_or_pos n with h0 | h0
   ·rename_i hn; exact absurd (.inl h0) hn
   ·have hb := acT h0
    unfold abO
    rw [hu, if_neg (by omega)]
    refine rne_zero (Nat.lt_of_lt_of_le (aeB n) (Nat.pow_le_pow_right (by decide) (by omega)))
  rw [hm, hu]; rfl
theorem akY {n : Nat} {e : Int} {more : Bool} (h : 1026 ≤ e + yR n) (he : -10000 ≤ e) (hn : 0 < n) : yL false n e more = amC := by
 unfold yL
 rw [if_neg (by omega)]
 split
 ·unfold aaR; simp
 ·rw [apV]
  have hu : yI n e = e + yR n - 53 := by unfold yI; rw [if_neg (by omega)]
  have hg := beS (n := n) (e := e) (more := more) (by omega) hn
  unfold aaR pk
  rw [if_neg (by decide), Nat.zero_add]
  split
  ·unfold abW; rw [if_neg (by omega), if_pos (by omega)]
  ·unfold abW; rw [if_neg (by omega), if_pos (by omega)]
theorem ten_330 : ∃ a b : Nat, a = 1080 ∧ b = 330 ∧ 2 ^ a ≤ 10 ^ b := ⟨1080, 330, rfl, rfl, by decide +kernel⟩
theorem ten_310 : ∃ a b : Nat, a = 1026 ∧ b = 310 ∧ 2 ^ a ≤ 10 ^ b := ⟨1026, 310, rfl, rfl, by decide +kernel⟩
theorem azH {m : Nat} {k : Int} {L : Nat} (hm : m < 10 ^ L) (hp : (L : Int) + k ≤ -330) (hk : -2000 ≤ k) : agX m k = 0 := by
 obtain ⟨A, B, hA, hB, h330⟩ := ten_330
 unfold agX
 rw [if_neg (by omega)]
 obtain ⟨j, hj⟩ : ∃ j : Nat, k = -(j : Int) := ⟨(-k).toNat, by omega⟩
 subst hj
 rw [show (-(-(j : Int))).toNat = j by omega]
 have hjl := afX j
 unfold arU
 refine auF ?_ (by omega)
 generalize hK : yR (10 ^ j) + 127 = K
 have h1 : m * 2 ^ K / 10 ^ j < 2 ^ (K - A) ∧ A ≤ K ∨ K < A := by
  rcases Nat.lt_or_ge K A with h | h
  ·exact .inr h
  ·refine .inl ⟨?_, h⟩
   rw [Nat.div_lt_iff_lt_mul (abM j)]
   have e1 : 2 ^ K = 2 ^ (K - A) * 2 ^ A := by rw [← Nat.pow_add]; congr 1; omega
   have e2 : 10 ^ L * 10 ^ B ≤ 10 ^ j := by rw [← Nat.pow_add]; exact Nat.pow_le_pow_right (by decide) (by omega)
   rw [e1, Nat.mul_comm m, Nat.mul_assoc]
   refine Nat.mul_lt_mul_of_pos_left ?_ (Nat.pow_pos (by decide))
   calc 2 ^ A * m ≤ 10 ^ B * m := Nat.mul_le_mul_right _ h330
    _ < 10 ^ B * 10 ^ L := Nat.mul_lt_mul_of_pos_left hm (abM _)
    _ = 10 ^ L * 10 ^ B := Nat.mul_comm _ _
    _ ≤ 10 ^ j := e2
 rcases h1 with ⟨h1, hKA⟩ | h1
 ·have := qK.2 h1
  omega
 ·exfalso
  have h2 : 2 ^ A ≤ 10 ^ j := Nat.le_trans h330 (Nat.pow_le_pow_right (by decide) (by omega))
  have := aaZ.2 h2
  omega
theorem azI {m : Nat} {k : Int} {L : Nat} (hm : 10 ^ L ≤ m) (hp : 310 ≤ (L : Int) + k) (hk : -2000 ≤ k) : agX m k = amC := by
 obtain ⟨A, B, hA, hB, h310⟩ := ten_310
 have hm0 : 0 < m := Nat.lt_of_lt_of_le (abM L) hm
 unfold agX
 split
 ·refine akY ?_ (by decide) (Nat.mul_pos hm0 (abM _))
  have h1 : 2 ^ A ≤ m * 10 ^ k.toNat := by
   refine Nat.le_trans h310 (Nat.le_trans (Nat.pow_le_pow_right (by decide) (show B ≤ L + k.toNat by omega)) ?_)
   rw [Nat.pow_add]; exact Nat.mul_le_mul_right _ hm
  have := aaZ.2 h1
  omega
 ·obtain ⟨j, hj⟩ : ∃ j : Nat, k = -(j : Int) := ⟨(-k).toNat, by omega⟩
  subst hj
  rw [show (-(-(j : Int))).toNat = j by omega]
  have hjl := afX j
  have h1 : 2 ^ (yR (10 ^ j) + 127 + A) ≤ m * 2 ^ (yR (10 ^ j) + 127) / 10 ^ j := by
   rw [Nat.le_div_iff_mul_le (abM j), Nat.pow_add, Nat.mul_comm m, Nat.mul_assoc]
   refine Nat.mul_le_mul_left _ ?_
   refine Nat.le_trans (Nat.mul_le_mul_right _ h310) ?_
   rw [← Nat.pow_add]
   exact Nat.le_trans (Nat.pow_le_pow_right (by decide) (by omega)) hm
  have h2 := aaZ.2 h1
  unfold arU
  refine akY (by omega) (by omega) (Nat.lt_of_lt_of_le (Nat.pow_pos (by decide)) h1)
/-! ### short decimals -/
theorem akF {n t : Nat} (h0 : 0 < n) (h : n < 9007199254740992) (ht : t ≤ 500) : ∃ j : Nat, j ≤ 52 ∧ acD (yL false n t false) = n * 2 ^ j ∧ aeF (yL false n t false) = (t : Int) - j ∧ qA (yL false n t false) = 2 ∧ yL false n t false < 9223372036854775808 := by
 have e53 : (9007199254740992 : Nat) = 2 ^ 53 := by decide
 have hb : yR n ≤ 53 := qK.2 (by rw [← e53]; exact h)
 have hb0 := acT h0
 have hu : yI n t = (t : Int) + yR n - 53 := by unfold yI; rw [if_neg (by omega)]
 refine ⟨53 - yR n, by omega, ?_⟩
 have hm : abO n t false = n * 2 ^ (53 - yR n) := by
  unfold abO
  rw [hu, if_pos (by omega)]
  congr 2; omega
 have hlo : 4503599627370496 ≤ n * 2 ^ (53 - yR n) := by
  have h1 := amP h0
  have h2 := Nat.mul_le_mul_right (2 ^ (53 - yR n)) h1
  rw [← Nat.pow_add, show yR n - 1 + (53 - yR n) = 52 by omega] at h2
  have e52 : (4503599627370496 : Nat) = 2 ^ 52 := by decide
  omega
 have hhi : n * 2 ^ (53 - yR n) < 9007199254740992 := by
  have h2 := Nat.mul_lt_mul_of_pos_right (aeB n) (show 0 < 2 ^ (53 - yR n) from Nat.pow_pos (by decide))
  rw [← Nat.pow_add, show yR n + (53 - yR n) = 53 by omega] at h2
  omega
 have hr : yL false n t false = n * 2 ^ (53 - yR n) + (t + yR n + 1021) * 4503599627370496 := by
  unfold yL
  rw [if_neg (by omega), if_neg (by omega), hm, hu, apV]
  unfold aaR pk abW
  rw [if_neg (by decide), Nat.zero_add, if_neg (by omega), if_neg (by omega), if_neg (by omega)]
  congr 2
  omega
 rw [hr]
 generalize n * 2 ^ (53 - yR n) = q at *
 have hd : (q + (t + yR n + 1021) * 4503599627370496) / 4503599627370496 % 2048 = t + yR n + 1022 := by omega
 have hmod : (q + (t + yR n + 1021) * 4503599627370496) % 4503599627370496 = q - 4503599627370496 := by omega
 have hk : qA (q + (t + yR n + 1021) * 4503599627370496) = 2 := by
  unfold qA
  rw [hd, if_neg (by omega), if_neg (by omega)]
 refine ⟨?_, ?_, hk, by omega⟩
 ·unfold acD
  rw [hk, if_neg (by decide), if_pos rfl, hmod]; omega
 ·unfold aeF
  rw [hk, if_neg (by decide), if_pos rfl, hd]; omega
theorem baQ {a b s t : Nat} (ha0 : 0 < a) (ha : a < 9007199254740992) (hb0 : 0 < b) (hb : b < 9007199254740992) (hs : s ≤ 500) (ht : t ≤ 500) : ahC (yL false a s false) (yL false b t false) = yL false (a * b) ((s + t : Nat) : Int) false := by
 obtain ⟨i, hi, a1, a2, a3, a4⟩ := akF ha0 ha hs
 obtain ⟨j, hj, b1, b2, b3, b4⟩ := akF hb0 hb ht
 have hn : alU (yL false a s false) (yL false b t false) = false := by
  unfold alU
  refine decide_eq_false ?_
  rw [Nat.div_eq_of_lt (show _ < 2 ^ 63 from a4), Nat.div_eq_of_lt (show _ < 2 ^ 63 from b4)]
  simp
 unfold ahC
 rw [a3, b3, if_neg (by decide), if_neg (by decide), hn, a1, a2, b1, b2]
 rw [show a * 2 ^ i * (b * 2 ^ j) = a * b * 2 ^ (i + j) by rw [Nat.pow_add, Nat.mul_mul_mul_comm], adK (by omega) (by omega)]
 congr 1; omega
theorem ten_five (i : Nat) (hi : i ≤ 500) : yL false (10 ^ i) 0 false = yL false (5 ^ i) (i : Int) false := by
 rw [show (10 : Nat) = 5 * 2 by decide, Nat.mul_pow, adK (by decide) (by omega)]
 congr 1; omega
theorem bcF : ∀ i : Fin 23, tenB i.1 = yL false (10 ^ i.1) 0 false := by decide +kernel
theorem bfO {m j : Nat} (hm : 0 < m) (hm2 : m < 9007199254740992) (hj : j ≤ 22) : fastN m j = agX m (j : Int) := by
 have h5 : 5 ^ j < 9007199254740992 := Nat.lt_of_le_of_lt (Nat.pow_le_pow_right (by decide) hj) (by decide)
 have hf := baQ (s := 0) (t := j) hm hm2 (Nat.pow_pos (by decide) : 0 < 5 ^ j) h5 (by decide) (by omega)
 unfold fastN agX
 rw [if_pos (by omega), bcF ⟨j, by omega⟩, ten_five j (by omega)]
 rw [show ((0 : Nat) : Int) = 0 from rfl, Nat.zero_add] at hf
 rw [hf, show ((j : Int)).toNat = j by omega, show (10 : Nat) = 5 * 2 by decide, Nat.mul_pow, ← Nat.mul_assoc, adK (by decide) (by omega)]
 congr 1; omega
theorem num_low {c : UInt8} {r : List UInt8} (hc : isD c) (h0 : c ≠ 48) : 10 ^ r.length ≤ num (c :: r) := by
 rw [ahT]
 have : 49 ≤ c.toNat := by
  rcases Nat.lt_or_ge c.toNat 49 with h | h
  ·have h48 : c.toNat = 48 := by unfold isD at hc; omega
   exact absurd (UInt8.toNat_inj.1 (show c.toNat = (48 : UInt8).toNat by simp only [UInt8.reduceToNat]; omega)) h0
  ·exact h
 exact Nat.le_trans (Nat.le_mul_of_pos_left _ (by omega)) (Nat.le_add_right _ _)
theorem arL {ds : List UInt8} {e : Int} (h : qE ds e = true) (hne : ds ≠ []) : 10 ^ (ds.length - 1) ≤ num ds ∧ num ds < 10 ^ ds.length := by
 have hd := qS h
 refine ⟨?_, aeO hd⟩
 match ds, hne with
 | c :: r, _ =>
  refine num_low (hd c (by simp)) ?_
  rintro rfl
  unfold qE at h
  simp at h
theorem bcQ {ds : List UInt8} {e : Int} (h : qE ds e = true) (hne : ds ≠ []) (hp : -400 ≤ (ds.length : Int) + e ∧ (ds.length : Int) + e ≤ 400) : afO ds e = agX (num ds) e := by
 have hd := qS h
 have hl := aaL h
 have hlp := List.length_pos_iff.2 hne
 obtain ⟨hn1, hn2⟩ := arL h hne
 have hn0 : 0 < num ds := Nat.lt_of_lt_of_le (abM _) hn1
 unfold afO
 by_cases h1 : (ds.length : Int) + e < -330
 ·rw [if_pos (.inr h1), azH hn2 (by omega) (by omega)]
 rw [if_neg (fun q => q.elim hne h1)]
 by_cases h2 : 310 < (ds.length : Int) + e
 ·rw [if_pos h2, azI hn1 (by omega) (by omega)]
 rw [if_neg h2]
 by_cases h3 : ds.length ≤ 19
 ·rw [if_pos h3]
  by_cases h4 : ds.length ≤ 15 ∧ 0 ≤ e ∧ e ≤ 22
  ·rw [if_pos h4]
   have h15 : num ds < 9007199254740992 := Nat.lt_of_lt_of_le hn2 (Nat.le_trans (Nat.pow_le_pow_right (by decide) h4.1) (by decide))
   have := bfO hn0 h15 (j := e.toNat) (by omega)
   rw [this]; congr 1; omega
  ·rw [if_neg h4]
   split
   ·rename_i hq
    exact auO hn0 (by omega) hq
   ·exact arH hn0 (by omega)
 ·rw [if_neg h3]
  exact arH hn0 (by omega)
theorem BIG_bits : ∃ a : Nat, a = 8192 ∧ BIG = 2 ^ a := ⟨8192, rfl, by decide +kernel⟩
theorem adA {x : Nat} (h : yR x ≤ 8192) : x < BIG := by
 obtain ⟨a, ha, e⟩ := BIG_bits
 rw [e]; exact qK.1 (by omega)
theorem anW (neg : Bool) (n : Nat) (e : Int) (more : Bool) : yL neg n e more = aaR neg + yL false n e more := by
 unfold yL
 split
 ·rfl
 ·split
  ·unfold aaR; simp
  ·rw [apV, apV]; unfold aaR; simp
theorem num_step {ds : List UInt8} {i : Nat} (h : i < ds.length) : num (ds.take (i + 1)) = num (ds.take i) * 10 + ((ds.getD i 0).toNat - 48) := by
 rw [List.take_add_one, List.getD_eq_getElem?_getD, List.getElem?_eq_getElem h]
 generalize ds[i] = c
 show num (ds.take i ++ [c]) = _
 rw [agB]; unfold num; rw [acB, agC]; simp
theorem avW (n : Nat) : yR (n * 10) ≤ yR n + 4 := by
 have h1 : n < 2 ^ yR n := qK.1 (Nat.le_refl _)
 refine qK.2 ?_
 rw [Nat.pow_add]; omega
theorem num_bl {ds : List UInt8} (hd : Digs ds) : yR (num ds) ≤ 10 * ds.length / 3 + 2 := Nat.le_trans (aeU (Nat.le_of_lt (aeO hd))) (agO _)
theorem mul_bl {ds : List UInt8} (hd : Digs ds) {j : Nat} (h : ds.length + j ≤ 2000) : yR (num ds * 10 ^ j) ≤ 8192 := by
 have h1 : num ds * 10 ^ j ≤ 10 ^ (ds.length + j) := by rw [Nat.pow_add]; exact Nat.mul_le_mul_right _ (Nat.le_of_lt (aeO hd))
 have := Nat.le_trans (aeU h1) (agO _)
 omega
def rK (m : Nat) (b : Nat) : Nat := yR b + 70 - yR m
def bdN (neg : Bool) (ds : List UInt8) (e : Int) : Nat := aaR neg + (if ds = [] ∨ (ds.length : Int) + e < -400 then 0 else if 400 < (ds.length : Int) + e then amC else agX (num ds) e)
theorem rat_read {m : Nat} {k : Int} (hm : 0 < m) (hk : -2000 ≤ k) (h0 : k < 0) : arU m (10 ^ (-k).toNat) (rK m (10 ^ (-k).toNat)) = agX m k := by
 unfold agX
 rw [if_neg (by omega)]
 have hbl := afX (-k).toNat
 have ht := abM (-k).toNat
 have hb := acT hm
 refine (awV ht ?_ (by unfold rK; omega) (by omega)).symm
 have h1 := amP hm
 have h2 := aeB (10 ^ (-k).toNat)
 have h3 : 2 ^ 65 ≤ m * 2 ^ rK m (10 ^ (-k).toNat) / 10 ^ (-k).toNat := by
  rw [Nat.le_div_iff_mul_le ht]
  refine Nat.le_trans (Nat.mul_le_mul_left _ (Nat.le_of_lt h2)) (Nat.le_trans ?_ (Nat.mul_le_mul_right _ h1))
  rw [← Nat.pow_add, ← Nat.pow_add]
  exact Nat.pow_le_pow_right (by decide) (by unfold rK; omega)
 have := aaZ.2 h3
 omega
theorem baJ {r : Nat} : decide ((0 : Int) < ((zJ r).length : Int)) = decide (r ≠ 0) := by
 refine decide_eq_decide.2 ⟨fun h q => ?_, fun h => ?_⟩
 ·subst q; rw [show zJ 0 = [] by decide +kernel] at h; simp at h
 ·rw [qQ (Nat.pos_of_ne_zero h)]; simp only [List.length_cons]; omega

def bdO (ds : List UInt8) (H : Heap) : Nat → Env → Heap → Prop := fun k env H1 => ∃ (i : Nat) (tl : Tail), i ≤ ds.length ∧ env = [(0, .str ds), (3, .slice 1 (U .u32 (zJ (num (ds.take i)))) tl), (4, .int .i64 (i : Int))] ∧ H = H1 ∧ k = ds.length - i

set_option maxRecDepth 100000 in
theorem auM (ds : List UInt8) (hd : Digs ds) (hl : ds.length ≤ 1200) (H : Heap) : ACall Tryz.prog 51 [.str ds] H (fun y H' => y = aaG (num ds) ∧ H' = H) := by
 refine ACall.of_body Tryz.func51 rfl Tryz.ntmps51 Tryz.results51 rfl ?_
 refine .sr ?_
 refine .p rfl (zB (qI (sz := 1) (tl := .full))) ?_
 refine .nr (.e rfl (apB Tryz.underlying94 Tryz.sizeOf112 Tryz.zeroValue112 ) (.as rfl rfl (.ng (.seq (.sr (.p rfl (zB (zI 0)) (.ng (.block ?_))))))))
 refine AWP.loopW (bdO ds H) (ds.length) ⟨0, .full, Nat.zero_le _, rfl, rfl, rfl⟩ (zA rfl (yE rfl (acM rfl) (zA rfl zK))) (Heap.le.refl _) ?_
 rintro _ _ _ ⟨i, tl, hi, rfl, rfl, hk⟩
 have hbl := num_bl (hd.take i)
 have htl : (ds.take i).length ≤ 1200 := by rw [List.length_take]; omega
 have hl := yS (n := num (ds.take i)) (adA (by omega))
 refine .seq (.sr (.mv rfl rfl (.mv rfl rfl (.p rfl (yF Tryz.underlying9 (tm rfl)) (.p rfl (zZ (tm rfl) (tm rfl)) (.ng ?_))))))
 refine AWP.cond (tm rfl) (fun hc9 => ?_) (fun hc9 => ?_)
 ·try simp only [decide_eq_true_eq] at hc9
  have hil : i < ds.length := by omega
  have hdi := hd.at hil
  have hdi2 : 48 ≤ (ds.getD ((i : Nat) : Int).toNat 0).toNat ∧ (ds.getD ((i : Nat) : Int).toNat 0).toNat ≤ 57 := hdi
  have hl2 := yS (n := val (zJ (num (ds.take i))) * val [10]) (adA (by have h1 := avW (num (ds.take i)); rw [zT]; show yR (num (ds.take i) * 10) ≤ _; omega))
  refine .skip ?_
  refine Next.go ?_
  refine .seq (.block ?_)
  refine AWP.draw [(0, true), (1, true), (2, true), (3, true), (4, true), (5, true), (6, true), (7, true), (8, true), (9, true), (10, true)] rfl (by decide +kernel) ?_
  refine .p rfl rfl (zE (tm rfl)) ?_
  refine APlan.f rfl rfl (fun _ => qV Tryz.underlying94 Tryz.sizeOf112 Tryz.zeroValue112 rfl (zI 10) (.inl rfl) ⟨rfl, rfl⟩) ?_
  refine APlan.f rfl rfl (fun _ => zQ Tryz.call53 (evs2 rfl rfl) (acR (zJ (num (ds.take i))) tl (zN _) (by omega) [10] .full (Limbs.mk (by decide) Limbs.nil) (by decide) _)) ?_
  refine .p rfl rfl (zE (tm rfl)) (.p rfl rfl (zE (tm rfl)) (.p rfl rfl (qL Tryz.underlying9 (tm rfl) (tm rfl) (by omega) (by omega)) (.p rfl rfl (azP (tm rfl) (zI 48) (by omega) (by omega)) (.p rfl rfl (yA Tryz.underlying5 Tryz.underlying112 (tm rfl) (wrapN32 (by omega))) ?_))))
  refine APlan.f rfl rfl (fun _ => qV Tryz.underlying94 Tryz.sizeOf112 Tryz.zeroValue112 rfl (tm rfl) (.inl rfl) ⟨rfl, rfl⟩) ?_
  refine APlan.f rfl rfl (fun _ => zQ Tryz.call85 (evs2 rfl rfl) (auK (zJ (val (zJ (num (ds.take i))) * val [10])) .shared (zN _) (by omega) [(ds.getD i 0).toNat - 48] .full (Limbs.mk (by omega) Limbs.nil) (by simp) _)) ?_
  refine .p rfl rfl (zB (tm rfl)) (.nil ?_)
  refine Block.go ?_
  refine Next.go ?_
  refine .region (.mv rfl rfl (.p rfl (zS (tm rfl) (zI 1) (by omega)) (.as rfl rfl (.ng ?_))))
  refine Round.mk (J := bdO ds H) ⟨i + 1, .shared, by omega, rfl, rfl, rfl⟩ (zA rfl (yE rfl (congrArg aaG (show _ = num (ds.take (i + 1)) by rw [zT, zT, num_step hil]; rfl)) (zA rfl zK))) (Heap.le.refl _) (by omega)
 ·try simp only [decide_eq_false_iff_not, Int.not_lt] at hc9
  refine .exit ?_
  refine Next.ex ?_
  refine Next.ex ?_
  refine Block.hit ?_
  refine Next.go ?_
  refine .sr (.mv rfl rfl (.as rfl rfl (.ng (.ret ?_))))
  refine Ret.go (.cons (.weak _ _ _ rfl (.slice _ _ _)) .nil) _ (Heap.le.refl _) ?_
  refine ⟨?_, rfl⟩
  rw [show i = ds.length by omega, List.take_length]; rfl

set_option maxRecDepth 100000 in
theorem akS (neg : Bool) (x : Nat) (hx : x < 9223372036854775808) (H : Heap) : ACall Tryz.prog 50 [.bool neg, .int .u64 (x : Int)] H (fun y H' => y = .int .u64 ((aaR neg + x : Nat) : Int) ∧ H' = H) := by
 refine ACall.of_body Tryz.func50 rfl Tryz.ntmps50 Tryz.results50 rfl ?_
 refine .sr (.p rfl (zB (zI 0)) (.ng (.seq (.sr (.mv rfl rfl (.ng ?_))))))
 refine AWP.cond (tm rfl) (fun hc5 => ?_) (fun hc5 => ?_)
 ·try simp only [decide_eq_true_eq, decide_eq_false_iff_not, Bool.not_eq_true', Bool.not_eq_false', Int.not_lt, Int.not_le, ne_eq, Decidable.not_not] at hc5
  refine .sr (.mv rfl rfl (.p rfl (yK (tm rfl) (zI 9223372036854775808) (by omega)) (.as rfl rfl (.ng (.ret ?_)))))
  refine Next.rt ?_
  refine Ret.go (.cons (.tmp _ _ rfl) .nil) _ (Heap.le.refl _) ?_
  refine ⟨?_, rfl⟩
  unfold aaR; rw [if_pos (by assumption), Nat.add_comm]; rfl
 ·try simp only [decide_eq_true_eq, decide_eq_false_iff_not, Bool.not_eq_true', Bool.not_eq_false', Int.not_lt, Int.not_le, ne_eq, Decidable.not_not] at hc5
  refine .skip ?_
  refine Next.go ?_
  refine .sr (.mv rfl rfl (.as rfl rfl (.ng (.ret ?_))))
  refine Ret.go (.cons (.tmp _ _ rfl) .nil) _ (Heap.le.refl _) ?_
  refine ⟨?_, rfl⟩
  unfold aaR; rw [if_neg (by simp_all), Nat.zero_add]; rfl

set_option maxRecDepth 100000 in
theorem afQ (neg : Bool) (ds : List UInt8) (e : Int) (hr : qE ds e = true) (hl : ds.length ≤ 1000) (H : Heap) : ACall Tryz.prog 18 [dA neg ds e] H (fun y H' => y = .int .u64 ((bdN neg ds e : Nat) : Int) ∧ H' = H) := by
 have hd := qS hr
 have hnb := num_bl hd
 have hrl := aaL hr
 refine ACall.of_body Tryz.func18 rfl Tryz.ntmps18 Tryz.results18 rfl ?_
 refine .sr (.e rfl (yU (tm rfl) (.inr ⟨_, rfl⟩)) (.p rfl (zB (zI 0)) (.nr (.p rfl (zY Tryz.isAgg48 Tryz.sizeOf48 (tm rfl) (Nat.le_of_ble_eq_true rfl)) (.cl rfl Tryz.call45 (evs1 rfl) (arX neg ds e (by rw [yB]; omega) _) ?_)))))
 rw [show afF ds e = (ds.length : Int) + e by unfold afF; rw [if_pos hr]]
 refine .as rfl rfl (.ng (.seq (.block ?_)))
 refine AWP.seqTo 11 (.bool (decide (ds = [] ∨ (ds.length : Int) + e < -400))) [1, 2, 3] ?_ ?_
 ·-- region 2
  refine .region (.p rfl (zG Tryz.underlying48 rfl Tryz.sizeOf9 (tm rfl)) (.p rfl (zF Tryz.isAgg9 (tm rfl)) (.p rfl (yF Tryz.underlying9 (tm rfl)) (.p rfl (zX (tm rfl) zD) (.mv rfl rfl ?_)))))
  refine zP (t := 16) rfl (fun hg16 => ?_) (fun hg16 => ?_)
  ·refine .gn rfl rfl rfl (by assumption) (.gn rfl rfl rfl (by assumption) (.p rfl (zO (tm rfl) (by assumption) zL) (.as rfl rfl (.nil ?_))))
   exact ⟨rfl, yP rfl (by (simp_all; done)) (zA rfl (zA rfl (zA rfl zK))), rfl⟩
  ·refine .gp rfl rfl rfl (by assumption) (zE (tm rfl)) (.gp rfl rfl rfl (by assumption) (zZ (tm rfl) zD) (.p rfl (zM (tm rfl) (by assumption) (tm rfl)) (.as rfl rfl (.nil ?_))))
   exact ⟨rfl, yP rfl (by (simp_all; done)) (zA rfl (zA rfl (zA rfl zK))), rfl⟩
 ·refine AWP.sub [(11, _), (1, _), (2, _), (3, _)] (zA rfl (zA rfl (zA rfl (zA rfl zK)))) ?_
  refine AWP.cond (tm rfl) (fun hc11 => ?_) (fun hc11 => ?_)
  ·try simp only [decide_eq_true_eq] at hc11
   have hc0 : ds = [] ∨ (ds.length : Int) + e < -400 := hc11
   refine .sr (.p rfl (zG Tryz.underlying48 rfl Tryz.sizeOf4 (tm rfl)) (.p rfl (zF Tryz.isAgg4 (tm rfl)) (.cl rfl Tryz.call50 (.cons (tm rfl) (.cons (zI 0) .nil)) (akS neg 0 (by decide) _) (.as rfl rfl (.ng (.ret ?_))))))
   refine Block.rt ?_
   refine Next.rt ?_
   refine Ret.go (.cons (.tmp _ _ rfl) .nil) _ (Heap.le.refl _) ?_
   exact ⟨congrArg (fun w : Nat => AV.int .u64 (w : Int)) (show _ = bdN neg ds e by unfold bdN; rw [if_pos hc0]), rfl⟩
  ·try simp only [decide_eq_false_iff_not] at hc11
   have hc0 : ¬ (ds = [] ∨ (ds.length : Int) + e < -400) := hc11
   have hne : ds ≠ [] := fun q => hc0 (.inl q)
   refine .sr (.mv rfl rfl (.p rfl (yC (tm rfl) zD) (.as rfl rfl (.ng ?_))))
   refine AWP.cond (tm rfl) (fun hc23 => ?_) (fun hc23 => ?_)
   ·try simp only [decide_eq_true_eq] at hc23
    refine .sr (.p rfl (zG Tryz.underlying48 rfl Tryz.sizeOf4 (tm rfl)) (.p rfl (zF Tryz.isAgg4 (tm rfl)) (.cl rfl Tryz.call50 (.cons (tm rfl) (.cons (zI 9218868437227405312) .nil)) (akS neg 9218868437227405312 (by decide) _) (.as rfl rfl (.ng (.ret ?_))))))
    refine Block.rt ?_
    refine Next.rt ?_
    refine Ret.go (.cons (.tmp _ _ rfl) .nil) _ (Heap.le.refl _) ?_
    exact ⟨congrArg (fun w : Nat => AV.int .u64 (w : Int)) (show _ = bdN neg ds e by unfold bdN; rw [if_neg hc0, if_pos (by omega)]; rfl), rfl⟩
   ·try simp only [decide_eq_false_iff_not, Int.not_lt] at hc23
    have hnl := yS (n := num ds) (adA (by omega))
    have hn0 : 0 < num ds := Nat.lt_of_lt_of_le (abM _) (arL hr hne).1
    refine .skip ?_
    refine Block.go ?_
    refine Next.go ?_
    refine .sr (.p rfl (zG Tryz.underlying48 rfl Tryz.sizeOf9 (tm rfl)) (.p rfl (zF Tryz.isAgg9 (tm rfl)) (.cl rfl Tryz.call51 (evs1 rfl) (auM ds hd (by omega) _) (.as rfl rfl (.ng (.seq (.sr (.p rfl (zG Tryz.underlying48 rfl Tryz.sizeOf3 (tm rfl)) ?_))))))))
    refine .p rfl (zF Tryz.isAgg3 (tm rfl)) (.p rfl (yW (tm rfl) zD) (.ng ?_))
    refine AWP.cond (tm rfl) (fun hc34 => ?_) (fun hc34 => ?_)
    ·try simp only [decide_eq_true_eq] at hc34
     have hbe := agO e.toNat
     have htl := yS (n := 10 ^ e.toNat) (adA (by omega))
     have hml := yS (n := num ds * 10 ^ e.toNat) (adA (mul_bl hd (by omega)))
     refine .seq ?_
     refine AWP.draw [(0, true), (1, true), (2, true), (3, true), (4, true), (5, false), (6, true), (7, false), (8, true)] rfl (by decide +kernel) ?_
     refine .p rfl rfl (zG Tryz.underlying48 rfl Tryz.sizeOf4 (tm rfl)) (.p rfl rfl (zF Tryz.isAgg4 (tm rfl)) (.p rfl rfl (zE (tm rfl)) (.p rfl rfl (zG Tryz.underlying48 rfl Tryz.sizeOf3 (tm rfl)) (.p rfl rfl (zF Tryz.isAgg3 (tm rfl)) ?_))))
     refine .s rfl rfl (zQ Tryz.call54 (evs1 rfl) (anU e.toNat (by omega) _ (by omega) (adA (by have := agO e.toNat; omega)) _)) ?_
     rintro _ _ ⟨rfl, hH⟩
     obtain rfl := hH.symm
     refine APlan.f rfl rfl (fun _ => zQ Tryz.call53 (evs2 rfl rfl) (acR (zJ (num ds)) .shared (zN _) (by omega) (zJ (10 ^ e.toNat)) .shared (zN _) (by omega) _)) ?_
     refine .s rfl rfl (zQ Tryz.call52 (.cons (tm rfl) (.cons (tm rfl) (.cons zD (.cons zL .nil)))) (ajJ neg (zJ (val (zJ (num ds)) * val (zJ (10 ^ e.toNat)))) .shared (zN _) (by rw [zT, zT]; omega) 0 (by decide) false _)) ?_
     rintro _ _ ⟨rfl, hH⟩
     obtain rfl := hH.symm
     refine .p rfl rfl (zB (tm rfl)) (.nil ?_)
     refine Next.go ?_
     refine .ret ?_
     refine Next.rt ?_
     refine Ret.go (.cons (.tmp _ _ rfl) .nil) _ (Heap.le.refl _) ?_
     have e1 : yL neg (val (zJ (val (zJ (num ds)) * val (zJ (10 ^ e.toNat))))) 0 false = bdN neg ds e := by
      unfold bdN agX
      rw [if_neg hc0, if_neg (by omega), if_pos (by omega), anW, zT, zT, zT]
     exact ⟨congrArg (fun w : Nat => AV.int .u64 (w : Int)) e1, rfl⟩
    ·try simp only [decide_eq_false_iff_not, Int.not_le] at hc34
     have hbe := agO (-e).toNat
     have htl := yS (n := 10 ^ (-e).toNat) (adA (by omega))
     have hbp := abM (-e).toNat
     have hbb := acT hbp
     have hnp := acT hn0
     have hk : rK (num ds) (10 ^ (-e).toNat) = yR (10 ^ (-e).toNat) + 70 - yR (num ds) := rfl
     have hup : num ds * 2 ^ rK (num ds) (10 ^ (-e).toNat) < BIG := adA (by rw [ayA hn0]; omega)
     have hul := yS hup
     have hql := yS (n := num ds * 2 ^ rK (num ds) (10 ^ (-e).toNat) / 10 ^ (-e).toNat) (Nat.lt_of_le_of_lt (Nat.div_le_self _ _) hup)
     refine .skip ?_
     refine Next.go ?_
     refine .sr (.p rfl (zG Tryz.underlying48 rfl Tryz.sizeOf3 (tm rfl)) (.p rfl (zF Tryz.isAgg3 (tm rfl)) (.p rfl (aaU (tm rfl) (by omega)) (.cl rfl Tryz.call54 (evs1 rfl) (anU (-e).toNat (by omega) _ (by omega) (adA (by omega)) _) (.as rfl rfl (.nr (.p rfl (zB zD) (.ng ?_))))))))
     refine AWP.seqToL [(6, .int .i64 ((rK (num ds) (10 ^ (-e).toNat) : Nat) : Int))] [1, 2, 4, 5] ?_ ?_
     ·refine .sr (.mv rfl rfl (.cl rfl Tryz.call55 (evs1 rfl) (aeI (zJ (10 ^ (-e).toNat)) .shared (zN _) (by omega) _) ?_))
      rw [zT]
      refine .mv rfl rfl (.cl rfl Tryz.call55 (evs1 rfl) (aeI (zJ (num ds)) .shared (zN _) (by omega) _) ?_)
      rw [zT]
      refine .p rfl (zW (tm rfl) (tm rfl) (by omega)) (.p rfl (zS (tm rfl) zD (by omega)) (.p rfl (yC (tm rfl) zD) (.ng ?_)))
      refine AWP.cond (tm rfl) (fun hc53 => ?_) (fun hc53 => ?_)
      ·try simp only [decide_eq_true_eq] at hc53
       refine .region (.mv rfl rfl (.cl rfl Tryz.call55 (evs1 rfl) (aeI (zJ (10 ^ (-e).toNat)) .shared (zN _) (by omega) _) ?_))
       rw [zT]
       refine .mv rfl rfl (.cl rfl Tryz.call55 (evs1 rfl) (aeI (zJ (num ds)) .shared (zN _) (by omega) _) ?_)
       rw [zT]
       refine .p rfl (zW (tm rfl) (tm rfl) (by omega)) (.p rfl (zS (tm rfl) zD (by omega)) (.as rfl rfl (.nil ?_)))
       exact ⟨rfl, (yE rfl (by (rw [hk]; exact congrArg (AV.int .i64) (by omega))) (zA rfl (zA rfl (zA rfl (zA rfl zK))))), rfl⟩
      ·try simp only [decide_eq_false_iff_not, Int.not_lt] at hc53
       refine .skip ?_
       exact ⟨rfl, (yE rfl (by (rw [hk]; exact congrArg (AV.int .i64) (by omega))) (zA rfl (zA rfl (zA rfl (zA rfl zK))))), rfl⟩
     ·refine AWP.sub [(6, _), (1, _), (2, _), (4, _), (5, _)] (zA rfl (zA rfl (zA rfl (zA rfl (zA rfl zK))))) ?_
      refine .sr (.mv rfl rfl (.mv rfl rfl (.cl rfl Tryz.call57 (evs2 rfl rfl) (alG (zJ (num ds)) .shared (zN _) (by omega) (rK (num ds) (10 ^ (-e).toNat)) (by omega) _ rfl (by rw [zT]; exact hup) _) ?_)))
      rw [zT]
      refine .mv rfl rfl ?_
      refine .cl rfl Tryz.call56 (evs2 rfl rfl) (ajL (zJ (num ds * 2 ^ rK (num ds) (10 ^ (-e).toNat))) .shared (zN _) (by omega) (zJ (10 ^ (-e).toNat)) .shared (zN _) (by omega) (by rw [zT]; exact hbp) _) ?_
      rw [zT]
      rw [zT]
      refine .mv rfl rfl (.p rfl (zC (tm rfl) rfl) (.p rfl (zC (tm rfl) rfl) (.as rfl rfl (.as rfl rfl (.nr (.p rfl (zG Tryz.underlying48 rfl Tryz.sizeOf4 (tm rfl)) (.p rfl (zF Tryz.isAgg4 (tm rfl)) (.mv rfl rfl ?_))))))))
      refine .mv rfl rfl (.p rfl (aaU (tm rfl) (by omega)) (.mv rfl rfl (.p rfl (zV Tryz.underlying94 (tm rfl)) (.p rfl (yC (tm rfl) zD) ?_))))
      refine .cl rfl Tryz.call52 (.cons (tm rfl) (evs3 rfl rfl rfl)) (ajJ neg (zJ (num ds * 2 ^ rK (num ds) (10 ^ (-e).toNat) / (10 ^ (-e).toNat))) .shared (zN _) (by omega) (-((rK (num ds) (10 ^ (-e).toNat) : Nat) : Int)) (by omega) _ _) ?_
      refine .as rfl rfl (.ng (.ret ?_))
      refine Ret.go (.cons (.tmp _ _ rfl) .nil) _ (Heap.le.refl _) ?_
      have hrr := rat_read (m := num ds) (k := e) hn0 (by omega) (by omega)
      unfold arU at hrr
      have e1 : yL neg (val (zJ (num ds * 2 ^ rK (num ds) (10 ^ (-e).toNat) / 10 ^ (-e).toNat))) (-((rK (num ds) (10 ^ (-e).toNat) : Nat) : Int)) (decide ((0 : Int) < ((zJ (num ds * 2 ^ rK (num ds) (10 ^ (-e).toNat) % 10 ^ (-e).toNat)).length : Int))) = bdN neg ds e := by
       unfold bdN
       rw [if_neg hc0, if_neg (by omega), anW, zT, baJ, hrr]
      exact ⟨congrArg (fun w : Nat => AV.int .u64 (w : Int)) e1, rfl⟩

theorem alF {neg : Bool} {ds : List UInt8} {e : Int} (hr : qE ds e = true) : bdN neg ds e = abU neg ds e := by
 unfold bdN abU
 congr 1
 by_cases h0 : ds = []
 ·unfold afO; rw [if_pos (.inl h0), if_pos (.inl h0)]
 by_cases h1 : (ds.length : Int) + e < -400
 ·unfold afO; rw [if_pos (.inr h1), if_pos (.inr (by omega))]
 by_cases h2 : 400 < (ds.length : Int) + e
 ·unfold afO; rw [if_neg (by simp [h0, h1]), if_pos h2, if_neg (by simp [h0]; omega), if_pos (by omega)]
 ·rw [if_neg (by simp [h0, h1]), if_neg h2, bcQ hr h0 ⟨by omega, by omega⟩]
end Go.Proofs.YtfkeflcdadlmdaaGreatDoor
