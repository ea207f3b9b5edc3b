import Derived.Test.YtfkeflcdadlmdaaGreatDoorSsk
import Derived.Test.YtfkeflcdadlmdaaGreatDoorR1
import Derived.Test.YtfkeflcdadlmdaaGreatDoorN1
import Derived.Test.YtfkeflcdadlmdaaGreatDoorP2
import Derived.Test.YtfkeflcdadlmdaaGreatDoorQ3
import Derived.Test.YtfkeflcdadlmdaaGreatDoorD1
namespace Go.Proofs.YtfkeflcdadlmdaaGreatDoor
open Go Go.RowKit

theorem ayL {y : Nat} (h : 0 < y) : yQ y = yQ (y / 2) + 1 := by
 rcases Nat.lt_or_ge y 2 with q | q
 ·have : y = 1 := by omega
  subst this; rfl
 ·have := adE (n := y) (k := 1) (m := y / 2) (by omega) rfl
  omega

theorem bfI {a m k : Nat} : a / 2 ^ m % 2 ^ (k + 1) = 2 * (a / 2 ^ (m + 1) % 2 ^ k) + a / 2 ^ m % 2 := by
 rw [Nat.pow_succ 2 m, ← Nat.div_div_eq_div_mul, Nat.pow_succ 2 k, Nat.mul_comm (2 ^ k), Nat.mod_mul]
 omega
theorem awJ {v i : Nat} (h : v % 2 ^ i = 0) : v % 2 ^ (i + 1) = 2 ^ i * (v / 2 ^ i % 2) := by
 rw [Nat.pow_succ, Nat.mod_mul, h, Nat.zero_add]
theorem low_over {v i n : Nat} (h : v % 2 ^ i = 0) (hn : i = n ∨ v < 2 ^ i) (hin : i ≤ n) : v % 2 ^ n = 0 := by
 rcases hn with rfl | hn
 ·exact h
 ·rw [Nat.mod_eq_of_lt hn] at h
  subst h; exact Nat.zero_mod _
theorem low_hit {v i n : Nat} (hin : i < n) (h : v % 2 ^ i = 0) (hb : v / 2 ^ i % 2 = 1) : v % 2 ^ n ≠ 0 := by
 intro q
 have h1 := awJ h
 rw [hb, Nat.mul_one] at h1
 have h2 : v % 2 ^ (i + 1) = 0 := by
  have := Nat.mod_mod_of_dvd v (Nat.pow_dvd_pow 2 (show i + 1 ≤ n by omega))
  rw [q] at this
  rw [← this]; exact Nat.zero_mod _
 have := Nat.pow_pos (n := i) (show 0 < 2 by decide)
 omega

def rlen_J (v : Nat) (H : Heap) : Nat → Env → Heap → Prop := fun k env H1 => ∃ (i y : Nat), i + yQ y = yQ ((zI v).getD ((zI v).length - 1) 0) ∧ y < 4294967296 ∧ env = [(4, .int .i64 (32 * (((zI v).length : Int) - 1) + (i : Int))), (5, .int .u32 (y : Int))] ∧ H = H1 ∧ k = yQ y

set_option maxRecDepth 100000 in
theorem aeB (xs : List Nat) (tl : Tail) (hx : Limbs xs) (hl : xs.length ≤ 100000) (H : Heap) : ACall Tryz.prog 55 [.slice 1 (U .u32 xs) tl] H (fun y H' => y = .int .i64 (yQ (val xs) : Int) ∧ H' = H) := by
 have hT := aaR xs tl hx (by omega)
 have hvl : (zI (val xs)).length ≤ xs.length := by rw [← aaP hx]; exact aaI xs
 generalize val xs = v at *
 have hgt := Limbs.getD (zO v) ((zI v).length - 1)
 have hb32 := (qJ (n := ((zI v).getD ((zI v).length - 1) 0)) (k := 32)).2 (by rw [show (2 : Nat) ^ 32 = 4294967296 by decide]; exact hgt)
 refine ACall.of_body Tryz.func55 rfl Tryz.ntmps55 Tryz.results55 rfl ?_
 refine .sr (.p rfl (zB zE) (.nr (.mv rfl rfl (.cl rfl Tryz.call89 (evs1 rfl) (hT _) (.as rfl rfl (.ng (.seq (.sr ?_))))))))
 refine .mv rfl rfl (.p rfl (zW Tryz.underlying94 (tm rfl)) (.p rfl (yA (tm rfl) zE) (.ng ?_)))
 refine AWP.cond (tm rfl) (fun hc10 => ?_) (fun hc10 => ?_)
 ·try simp only [decide_eq_true_eq] at hc10
  have hv0 : v = 0 := by
   rcases Nat.eq_zero_or_pos v with h | h
   ·exact h
   ·rw [qN h] at hc10; simp only [List.length_cons] at hc10; omega
  refine .sr (.p rfl (zB zE) (.ng (.ret ?_)))
  refine Next.rt ?_
  refine Ret.go (.cons (.tmp _ _ rfl) .nil) _ (Heap.le.refl _) ?_
  refine ⟨?_, rfl⟩
  subst hv0; rfl
 ·try simp only [decide_eq_false_iff_not] at hc10
  have hvp : 0 < v := by
   rcases Nat.eq_zero_or_pos v with h | h
   ·subst h; exact absurd rfl hc10
   ·exact h
  have hbl := afX hvp
  have hlp : 0 < (zI v).length := by rw [qN hvp]; simp
  refine .skip ?_
  refine Next.go ?_
  refine .sr (.mv rfl rfl (.p rfl (zW Tryz.underlying94 (tm rfl)) (.p rfl (zZ (tm rfl) zE (by omega)) (.p rfl (ahD zE (tm rfl) (by omega)) (.as rfl rfl (.nr (.mv rfl rfl (.mv rfl rfl ?_))))))))
  refine .p rfl (zW Tryz.underlying94 (tm rfl)) (.p rfl (zZ (tm rfl) zE (by omega)) (.p rfl (yE ((zI v).length - 1) Tryz.underlying94 Tryz.sizeOf112 (tm rfl) (tm rfl) (by omega) (by omega)) (.p rfl (zF Tryz.isAgg112 (tm rfl)) (.as rfl rfl (.ng (.seq (.block ?_)))))))
  refine AWP.loopW (rlen_J v H) (yQ ((zI v).getD ((zI v).length - 1) 0)) ⟨0, ((zI v).getD ((zI v).length - 1) 0), by omega, hgt, rfl, rfl, rfl⟩ (yH rfl (by congr 1; try omega) (zA rfl zL)) (Heap.le.refl _) ?_
  rintro _ _ _ ⟨i, y, hi, hy, rfl, rfl, rfl⟩
  refine .seq (.sr (.mv rfl rfl (.p rfl (yF (tm rfl) (zJ 0)) (.ng ?_))))
  refine AWP.cond (tm rfl) (fun hc22 => ?_) (fun hc22 => ?_)
  ·try simp only [decide_eq_true_eq] at hc22
   refine .skip ?_
   refine Next.go ?_
   refine .block (.sr (.mv rfl rfl (.p rfl (zR (tm rfl) zE (by omega)) (.as rfl rfl (.ng (.region (.mv rfl rfl (.p rfl (ayQ (tm rfl) (zJ 2) (by assumption) (by omega)) ?_))))))))
   refine .as rfl rfl (.nil ?_)
   refine Block.go ?_
   refine Next.go ?_
   have hbh := ayL (y := y) (by omega)
   refine Round.mk (J := rlen_J v H) ⟨i + 1, y / 2, by omega, by omega, rfl, rfl, rfl⟩ (yH rfl (by congr 1; try omega) (zA rfl zL)) (Heap.le.refl _) (by omega)
  ·try simp only [decide_eq_false_iff_not, Int.not_lt] at hc22
   have hy0 : y = 0 := by omega
   subst hy0
   rw [bfG] at hi
   refine .exit ?_
   refine Next.ex ?_
   refine Next.ex ?_
   refine Block.hit ?_
   refine Next.go ?_
   refine .sr (.mv rfl rfl (.as rfl rfl (.ng (.ret ?_))))
   refine Ret.go (.cons (.tmp _ _ rfl) .nil) _ (Heap.le.refl _) ?_
   refine ⟨?_, rfl⟩
   show AV.int .i64 _ = AV.int .i64 _
   congr 1
   omega

def beO (xs : List Nat) (tl : Tail) (n : Nat) (q : Int) (H : Heap) : Nat → Env → Heap → Prop := fun k env H1 => ∃ c : Nat, c ≤ 64 ∧ env = [(0, .slice 1 (U .u32 xs) tl), (1, .int .i64 q), (5, .int .u64 ((val xs / 2 ^ (n + c) % 2 ^ (64 - c) : Nat) : Int)), (6, .int .i64 ((c : Int) - 1))] ∧ H = H1 ∧ c = k

set_option maxRecDepth 100000 in
theorem akS (xs : List Nat) (tl : Tail) (hx : Limbs xs) (hl : xs.length ≤ 100000) (n : Nat) (hn : n ≤ 100000000) (q : Int) (hq : q = (n : Int)) (H : Heap) : ACall Tryz.prog 86 [.slice 1 (U .u32 xs) tl, .int .i64 q] H (fun y H' => y = .int .u64 ((val xs / 2 ^ n % 18446744073709551616 : Nat) : Int) ∧ H' = H) := by
 subst hq
 refine ACall.of_body Tryz.func86 rfl Tryz.ntmps86 Tryz.results86 rfl ?_
 refine .sr (.p rfl (zB (zJ 0)) (.nr (.p rfl (zB (zJ 0)) (.ng (.seq (.sr (.p rfl (zB zE) (.ng ?_))))))))
 refine .block ?_
 refine AWP.loopW (beO xs tl n (n : Int) H) (64) ⟨64, Nat.le_refl _, rfl, rfl, rfl⟩ (zA rfl (zA rfl (yH rfl (by simp [Nat.mod_one]) (zA rfl zL)))) (Heap.le.refl _) ?_
 rintro _ _ _ ⟨c, hc, rfl, rfl, rfl⟩
 refine .seq (.sr (.mv rfl rfl (.p rfl (qH (tm rfl) zE) (.ng ?_))))
 refine AWP.cond (tm rfl) (fun hc8 => ?_) (fun hc8 => ?_)
 ·try simp only [decide_eq_true_eq] at hc8
  have hbn : val xs / 2 ^ (n + (c - 1)) % 2 ^ (64 - (c - 1)) = 2 * (val xs / 2 ^ (n + c) % 2 ^ (64 - c)) + val xs / 2 ^ (n + (c - 1)) % 2 := by
   have := @bfI (val xs) (n + (c - 1)) (64 - c)
   rw [show 64 - c + 1 = 64 - (c - 1) by omega, show n + (c - 1) + 1 = n + c by omega] at this
   exact this
  have hlt : val xs / 2 ^ (n + c) % 2 ^ (64 - c) < 9223372036854775808 := Nat.lt_of_lt_of_le (Nat.mod_lt _ (Nat.pow_pos (by decide))) (Nat.le_trans (Nat.pow_le_pow_right (by decide) (show 64 - c ≤ 63 by omega)) (by decide))
  refine .skip ?_
  refine Next.go ?_
  refine .seq (.block (.sr (.mv rfl rfl (.p rfl (acG (zJ 2) (tm rfl) (by omega)) (.as rfl rfl (.nr (.mv rfl rfl (.mv rfl rfl ?_))))))))
  refine .mv rfl rfl (.p rfl (zR (tm rfl) (tm rfl) (by omega)) (.cl rfl Tryz.call87 (evs2 rfl rfl) (afQ xs tl hx (by omega) (n + (c - 1)) (by omega) _ (by omega) _) (.ng ?_)))
  refine AWP.cond (tm rfl) (fun hc17 => ?_) (fun hc17 => ?_)
  ·try simp only [decide_eq_true_eq] at hc17
   refine .region (.mv rfl rfl (.p rfl (yL (tm rfl) (zJ 1) (by omega)) (.as rfl rfl (.nil ?_))))
   refine Block.go ?_
   refine Next.go ?_
   refine .region (.mv rfl rfl (.p rfl (zZ (tm rfl) zE (by omega)) (.as rfl rfl (.ng ?_))))
   refine Round.mk (J := beO xs tl n (n : Int) H) ⟨c - 1, by omega, rfl, rfl, rfl⟩ (zA rfl (zA rfl (yH rfl (congrArg (fun w : Nat => AV.int .u64 (w : Int)) (show _ = val xs / 2 ^ (n + (c - 1)) % 2 ^ (64 - (c - 1)) by omega)) (yH rfl (by congr 1; omega) zL)))) (Heap.le.refl _) (by omega)
  ·try simp only [decide_eq_false_iff_not] at hc17
   refine .skip ?_
   refine Block.go ?_
   refine Next.go ?_
   refine .region (.mv rfl rfl (.p rfl (zZ (tm rfl) zE (by omega)) (.as rfl rfl (.ng ?_))))
   refine Round.mk (J := beO xs tl n (n : Int) H) ⟨c - 1, by omega, rfl, rfl, rfl⟩ (zA rfl (zA rfl (yH rfl (congrArg (fun w : Nat => AV.int .u64 (w : Int)) (show _ = val xs / 2 ^ (n + (c - 1)) % 2 ^ (64 - (c - 1)) by omega)) (yH rfl (by congr 1; omega) zL)))) (Heap.le.refl _) (by omega)
 ·try simp only [decide_eq_false_iff_not, Int.not_le] at hc8
  have hc0 : c = 0 := by omega
  subst hc0
  refine .exit ?_
  refine Next.ex ?_
  refine Next.ex ?_
  refine Block.hit ?_
  refine Next.go ?_
  refine .sr (.mv rfl rfl (.as rfl rfl (.ng (.ret ?_))))
  refine Ret.go (.cons (.tmp _ _ rfl) .nil) _ (Heap.le.refl _) ?_
  refine ⟨?_, rfl⟩
  rw [Nat.add_zero, Nat.sub_zero, show (2 : Nat) ^ 64 = 18446744073709551616 by decide]; rfl

def low_J (xs : List Nat) (tl : Tail) (n : Nat) (H : Heap) : Nat → Env → Heap → Prop := fun k env H1 => ∃ i : Nat, i ≤ n ∧ val xs % 2 ^ i = 0 ∧ env = [(0, .slice 1 (U .u32 xs) tl), (1, .int .i64 (n : Int)), (5, .int .i64 (i : Int))] ∧ H = H1 ∧ k = n - i

set_option maxRecDepth 100000 in
theorem ayC (xs : List Nat) (tl : Tail) (hx : Limbs xs) (hl : xs.length ≤ 100000) (n : Nat) (hn : n ≤ 100000000) (q : Int) (hq : q = (n : Int)) (H : Heap) : ACall Tryz.prog 88 [.slice 1 (U .u32 xs) tl, .int .i64 q] H (fun y H' => y = .bool (decide (val xs % 2 ^ n ≠ 0)) ∧ H' = H) := by
 subst hq
 refine ACall.of_body Tryz.func88 rfl Tryz.ntmps88 Tryz.results88 rfl ?_
 refine .sr (.p rfl (zB zK) (.ng (.seq (.sr (.p rfl (zB zE) (.ng (.block ?_)))))))
 refine AWP.loopW (low_J xs tl n H) (n) ⟨0, Nat.zero_le _, by simp [Nat.mod_one], rfl, rfl, rfl⟩ (zA rfl (zA rfl (zA rfl zL))) (Heap.le.refl _) ?_
 rintro _ _ _ ⟨i, hi, hl0, rfl, rfl, rfl⟩
 refine .seq ?_
 refine AWP.seqTo 15 (.bool (decide ((i : Int) < (n : Int)) && decide ((i : Int) < 32 * (xs.length : Int)))) [0, 1, 5] ?_ ?_
 ·-- region 2
  refine .region (.mv rfl rfl (.mv rfl rfl (.p rfl (zY (tm rfl) (tm rfl)) (.mv rfl rfl ?_))))
  refine zQ (t := 9) rfl (fun hg9 => ?_) (fun hg9 => ?_)
  ·refine .gp rfl rfl rfl (by assumption) (zC (tm rfl)) (.gp rfl rfl rfl (by assumption) (zC (tm rfl)) (.gp rfl rfl rfl (by assumption) (zW Tryz.underlying94 (tm rfl)) (.gp rfl rfl rfl (by assumption) (ahD zE (tm rfl) (by omega)) (.gp rfl rfl rfl (by assumption) (zY (tm rfl) (tm rfl)) (.p rfl (zN (tm rfl) (by assumption) (tm rfl)) (.nil ?_))))))
   exact ⟨rfl, yV rfl (by (rw [show decide ((i : Int) < (n : Int)) = _ from hg9]; rfl)) (zA rfl (zA rfl (zA rfl zL))), rfl⟩
  ·refine .gn rfl rfl rfl (by assumption) (.gn rfl rfl rfl (by assumption) (.gn rfl rfl rfl (by assumption) (.gn rfl rfl rfl (by assumption) (.gn rfl rfl rfl (by assumption) (.p rfl (zM (tm rfl) (by assumption) zK) (.nil ?_))))))
   exact ⟨rfl, yV rfl (by (rw [show decide ((i : Int) < (n : Int)) = _ from hg9]; rfl)) (zA rfl (zA rfl (zA rfl zL))), rfl⟩
 ·refine AWP.sub [(15, _), (0, _), (1, _), (5, _)] (zA rfl (zA rfl (zA rfl (zA rfl zL)))) ?_
  refine AWP.cond (tm rfl) (fun hc15 => ?_) (fun hc15 => ?_)
  ·try simp only [decide_eq_true_eq, decide_eq_false_iff_not, Bool.not_eq_true', Bool.not_eq_false', Int.not_lt, Int.not_le, ne_eq, Decidable.not_not] at hc15
   simp only [Bool.and_eq_true, decide_eq_true_eq] at hc15
   refine .skip ?_
   refine Next.go ?_
   refine .seq (.block (.sr (.mv rfl rfl (.mv rfl rfl (.cl rfl Tryz.call87 (evs2 rfl rfl) (afQ xs tl hx (by omega) i (by omega) _ rfl _) (.ng ?_))))))
   refine AWP.cond (tm rfl) (fun hc20 => ?_) (fun hc20 => ?_)
   ·try simp only [decide_eq_true_eq] at hc20
    refine .sr (.p rfl (zB zK) (.ng (.ret ?_)))
    refine Block.rt ?_
    refine Next.rt ?_
    refine Next.rt ?_
    refine Block.rt ?_
    refine Next.rt ?_
    refine Ret.go (.cons (.tmp _ _ rfl) .nil) _ (Heap.le.refl _) ?_
    refine ⟨?_, rfl⟩
    rw [decide_eq_true (low_hit (by omega) hl0 (by omega))]; rfl
   ·try simp only [decide_eq_false_iff_not] at hc20
    refine .skip ?_
    refine Block.go ?_
    refine Next.go ?_
    refine .region (.mv rfl rfl (.p rfl (zR (tm rfl) zE (by omega)) (.as rfl rfl (.ng ?_))))
    refine Round.mk (J := low_J xs tl n H) ⟨i + 1, by omega, by rw [awJ hl0, show val xs / 2 ^ i % 2 = 0 by omega, Nat.mul_zero], rfl, rfl, rfl⟩ (zA rfl (zA rfl (zA rfl zL))) (Heap.le.refl _) (by omega)
  ·try simp only [decide_eq_true_eq, decide_eq_false_iff_not, Bool.not_eq_true', Bool.not_eq_false', Int.not_lt, Int.not_le, ne_eq, Decidable.not_not] at hc15
   simp only [Bool.and_eq_false_iff, decide_eq_false_iff_not] at hc15
   have hvl := adR hx
   rw [show (4294967296 : Nat) = 2 ^ 32 by decide, ← Nat.pow_mul] at hvl
   have hov : val xs % 2 ^ n = 0 := low_over hl0 (by rcases hc15 with h | h; exact .inl (by omega); exact .inr (Nat.lt_of_lt_of_le hvl (Nat.pow_le_pow_right (by decide) (by omega)))) hi
   refine .exit ?_
   refine Next.ex ?_
   refine Next.ex ?_
   refine Block.hit ?_
   refine Next.go ?_
   refine .sr (.p rfl (zB zK) (.ng (.ret ?_)))
   refine Ret.go (.cons (.tmp _ _ rfl) .nil) _ (Heap.le.refl _) ?_
   refine ⟨?_, rfl⟩
   rw [decide_eq_false (by rw [hov]; simp)]; rfl
theorem blen_row {xs : List Nat} (hx : Limbs xs) : yQ (val xs) ≤ 32 * xs.length := qJ.2 (by have := adR hx; rw [show (4294967296 : Nat) = 2 ^ 32 by decide, ← Nat.pow_mul] at this; exact this)
theorem mant_ref {v : Nat} {e : Int} {more : Bool} (h : e < yI v e) : abJ v e more = if (decide (((v / 2 ^ (((yI v e - e).toNat) - 1) % 2 : Nat) : Int) = 1) && ((decide (v % 2 ^ (((yI v e - e).toNat) - 1) ≠ 0) || more) || decide (((v / 2 ^ ((yI v e - e).toNat) % 2 : Nat) : Int) = ((1 : Nat) : Int)))) = true then v / 2 ^ ((yI v e - e).toNat) + 1 else v / 2 ^ ((yI v e - e).toNat) := by
 rw [bdT h]
 simp only [Bool.and_eq_true, Bool.or_eq_true, decide_eq_true_eq, or_assoc]
 congr 1
 refine propext ⟨fun q => ⟨by omega, q.2.imp_right (Or.imp_right (fun w => by omega))⟩, fun q => ⟨by omega, q.2.imp_right (Or.imp_right (fun w => by omega))⟩⟩

set_option maxRecDepth 100000 in
theorem ajB (neg : Bool) (xs : List Nat) (tl : Tail) (hx : Limbs xs) (hl : xs.length ≤ 10000) (e : Int) (he : -10000 ≤ e ∧ e ≤ 1000000) (more : Bool) (H : Heap) : ACall Tryz.prog 52 [.bool neg, .slice 1 (U .u32 xs) tl, .int .i64 e, .bool more] H (fun y H' => y = .int .u64 ((yM neg (val xs) e more : Nat) : Int) ∧ H' = H) := by
 have hbl : yQ (val xs) ≤ 320000 := by have := blen_row hx; omega
 have hb0 := @blen0 (val xs)
 have hun : yI (val xs) e = if e + yQ (val xs) - 53 < -1074 then -1074 else e + yQ (val xs) - 53 := rfl
 have hul := aoC (val xs) e
 have hur : yI (val xs) e ≤ 2000000 := by rw [hun]; split <;> omega
 have hml := agP (val xs) e more
 have hsg : aaD neg ≤ 9223372036854775808 := by unfold aaD; split <;> omega
 refine ACall.of_body Tryz.func52 rfl Tryz.ntmps52 Tryz.results52 rfl ?_
 refine .sr (.p rfl (zB (zJ 0)) (.nr (.p rfl (zB (zJ 0)) (.ng ?_))))
 refine AWP.seqToL [(9, .int .u64 ((aaD neg : Nat) : Int))] [1, 2, 3, 8] ?_ ?_
 ·refine .sr (.mv rfl rfl (.ng ?_))
  refine AWP.cond (tm rfl) (fun hc16 => ?_) (fun hc16 => ?_)
  ·try simp only [decide_eq_true_eq, decide_eq_false_iff_not, Bool.not_eq_true', Bool.not_eq_false', Int.not_lt, Int.not_le, ne_eq, Decidable.not_not] at hc16
   refine .region (.p rfl (zB (zJ 9223372036854775808)) (.nil ?_))
   exact ⟨rfl, (yH rfl (by (unfold aaD; rw [if_pos (by assumption)]; done)) (zA rfl (zA rfl (zA rfl (zA rfl zL))))), rfl⟩
  ·try simp only [decide_eq_true_eq, decide_eq_false_iff_not, Bool.not_eq_true', Bool.not_eq_false', Int.not_lt, Int.not_le, ne_eq, Decidable.not_not] at hc16
   refine .skip ?_
   exact ⟨rfl, (yH rfl (by (unfold aaD; rw [if_neg (by simp_all)]; done)) (zA rfl (zA rfl (zA rfl (zA rfl zL))))), rfl⟩
 ·refine AWP.sub [(9, _), (1, _), (2, _), (3, _), (8, _)] (zA rfl (zA rfl (zA rfl (zA rfl (zA rfl zL))))) ?_
  refine .sr (.mv rfl rfl (.cl rfl Tryz.call55 (evs1 rfl) (aeB xs tl hx (by omega) _) (.as rfl rfl (.ng (.seq ?_)))))
  refine AWP.seqTo 30 (.bool (decide (val xs = 0))) [9, 1, 2, 3, 8, 10] ?_ ?_
  ·-- region 5
   refine .region (.mv rfl rfl (.p rfl (yA (tm rfl) zE) (.mv rfl rfl ?_)))
   refine zQ (t := 21) rfl (fun hg21 => ?_) (fun hg21 => ?_)
   ·have hh21 := hg21; try simp only [decide_eq_true_eq] at hh21
    refine .gn rfl rfl rfl (by assumption) (.gn rfl rfl rfl (by assumption) (.gn rfl rfl rfl (by assumption) ?_))
    refine AList.gdead rfl rfl rfl ?_
    refine AList.gdead rfl rfl rfl ?_
    refine AList.gdead rfl rfl rfl ?_
    refine AList.gdead rfl rfl rfl ?_
    refine .gn rfl rfl rfl (by assumption) (.p rfl (zN (tm rfl) (by assumption) zK) (.nil ?_))
    exact ⟨rfl, yV rfl (by (simp_all; done)) (zA rfl (zA rfl (zA rfl (zA rfl (zA rfl (zA rfl zL)))))), rfl⟩
   ·have hh21 := hg21; try simp only [decide_eq_false_iff_not] at hh21
    refine .gp rfl rfl rfl (by assumption) (zC (tm rfl)) (.gp rfl rfl rfl (by assumption) (zY (tm rfl) zE) (.gp rfl rfl rfl (by assumption) (zC (tm rfl)) ?_))
    refine zQ (t := 24) rfl (fun hg24 => ?_) (fun hg24 => ?_)
    ·have hh24 := hg24; try simp only [decide_eq_true_eq] at hh24
     refine .gp rfl rfl rfl (by assumption) (zC (tm rfl)) (.gp rfl rfl rfl (by assumption) (zC (tm rfl)) (.gp rfl rfl rfl (by assumption) (zR (tm rfl) (tm rfl) (by omega)) (.gp rfl rfl rfl (by assumption) (zY (tm rfl) zE) (.gp rfl rfl rfl (by assumption) (zN (tm rfl) (by assumption) (tm rfl)) (.p rfl (zM (tm rfl) (by assumption) (tm rfl)) (.nil ?_))))))
     exact ⟨rfl, yV rfl (by (simp_all; omega)) (zA rfl (zA rfl (zA rfl (zA rfl (zA rfl (zA rfl zL)))))), rfl⟩
    ·have hh24 := hg24; try simp only [decide_eq_false_iff_not, Int.not_lt] at hh24
     refine .gn rfl rfl rfl (by assumption) (.gn rfl rfl rfl (by assumption) (.gn rfl rfl rfl (by assumption) (.gn rfl rfl rfl (by assumption) (.gp rfl rfl rfl (by assumption) (zM (tm rfl) (by assumption) zK) (.p rfl (zM (tm rfl) (by assumption) (tm rfl)) (.nil ?_))))))
     exact ⟨rfl, yV rfl (by (simp_all; done)) (zA rfl (zA rfl (zA rfl (zA rfl (zA rfl (zA rfl zL)))))), rfl⟩
  ·refine AWP.sub [(30, _), (9, _), (1, _), (2, _), (3, _), (8, _), (10, _)] (zA rfl (zA rfl (zA rfl (zA rfl (zA rfl (zA rfl (zA rfl zL))))))) ?_
   refine AWP.cond (tm rfl) (fun hc30 => ?_) (fun hc30 => ?_)
   ·try simp only [decide_eq_true_eq] at hc30
    have hv0 : val xs = 0 := by simpa using hc30
    refine .sr (.mv rfl rfl (.as rfl rfl (.ng (.ret ?_))))
    refine Next.rt ?_
    refine Ret.go (.cons (.tmp _ _ rfl) .nil) _ (Heap.le.refl _) ?_
    refine ⟨?_, rfl⟩
    unfold yM; rw [if_pos (.inl hv0)]; rfl
   ·try simp only [decide_eq_false_iff_not] at hc30
    have hv0 : 0 < val xs := Nat.pos_of_ne_zero (by simpa using hc30)
    have hbp : 0 < yQ (val xs) := by omega
    refine .skip ?_
    refine Next.go ?_
    refine .seq (.sr (.mv rfl rfl (.p rfl (yF (tm rfl) zE) (.ng ?_))))
    refine AWP.cond (tm rfl) (fun hc33 => ?_) (fun hc33 => ?_)
    ·try simp only [decide_eq_true_eq] at hc33
     refine .sr (.mv rfl rfl (.p rfl (yL (tm rfl) (zJ 9218868437227405312) (by omega)) (.as rfl rfl (.ng (.ret ?_)))))
     refine Next.rt ?_
     refine Ret.go (.cons (.tmp _ _ rfl) .nil) _ (Heap.le.refl _) ?_
     refine ⟨?_, rfl⟩
     unfold yM; rw [if_neg (by omega), if_pos (by omega)]; rfl
    ·try simp only [decide_eq_false_iff_not, Int.not_lt] at hc33
     refine .skip ?_
     refine Next.go ?_
     refine .sr (.mv rfl rfl (.mv rfl rfl (.p rfl (zR (tm rfl) (tm rfl) (by omega)) (.p rfl (zZ (tm rfl) zE (by omega)) (.as rfl rfl (.ng ?_))))))
     refine AWP.seqToL [(11, .int .i64 (yI (val xs) e))] [9, 1, 2, 3, 8] ?_ ?_
     ·refine .sr (.mv rfl rfl (.p rfl (zY (tm rfl) zE) (.ng ?_)))
      refine AWP.cond (tm rfl) (fun hc41 => ?_) (fun hc41 => ?_)
      ·try simp only [decide_eq_true_eq] at hc41
       refine .region (.p rfl (zB zE) (.nil ?_))
       exact ⟨rfl, (yH rfl (by (rw [hun, if_pos (by omega)]; done)) (zA rfl (zA rfl (zA rfl (zA rfl (zA rfl zL)))))), rfl⟩
      ·try simp only [decide_eq_false_iff_not, Int.not_lt] at hc41
       refine .skip ?_
       exact ⟨rfl, (yH rfl (by (rw [hun, if_neg (by omega)]; done)) (zA rfl (zA rfl (zA rfl (zA rfl (zA rfl zL)))))), rfl⟩
     ·refine AWP.sub [(11, _), (9, _), (1, _), (2, _), (3, _), (8, _)] (zA rfl (zA rfl (zA rfl (zA rfl (zA rfl (zA rfl zL)))))) ?_
      refine .sr (.p rfl (zB (zJ 0)) (.ng ?_))
      refine AWP.seqToL [(12, .int .u64 ((abJ (val xs) e more : Nat) : Int))] [11, 9, 8] ?_ ?_
      ·refine .sr (.mv rfl rfl (.mv rfl rfl (.p rfl (abM (tm rfl) (tm rfl)) (.ng ?_))))
       refine AWP.cond (tm rfl) (fun hc44 => ?_) (fun hc44 => ?_)
       ·try simp only [decide_eq_true_eq] at hc44
        have hfs : val xs * 2 ^ (e - yI (val xs) e).toNat < 18446744073709551616 := arQ hc44
        have hms := alK (more := more) hc44
        have hur2 := bbF hv0 hc44
        refine .region (.mv rfl rfl (.mv rfl rfl (.mv rfl rfl (.p rfl (zZ (tm rfl) (tm rfl) (by omega)) (.cl rfl Tryz.call57 (evs2 rfl rfl) (aqS xs tl hx hl (e - yI (val xs) e).toNat (by omega) _ (by omega) (Nat.lt_trans hfs (by decide +kernel)) _) ?_)))))
        refine .cl rfl Tryz.call86 (.cons (tm rfl) (.cons zE .nil)) (akS (zI (val xs * 2 ^ (e - yI (val xs) e).toNat)) .shared (zO _) (Nat.le_trans (qE (Nat.lt_trans hfs (by decide +kernel))) (by decide)) 0 (by decide) _ rfl _) ?_
        rw [zV, Nat.pow_zero, Nat.div_one, Nat.mod_eq_of_lt hfs]
        refine .as rfl rfl (.nil ?_)
        exact ⟨rfl, (yH rfl (by rw [hms]) (zA rfl (zA rfl (zA rfl zL)))), rfl⟩
       ·try simp only [decide_eq_false_iff_not, Int.not_le] at hc44
        have hms := mant_ref (more := more) hc44
        have hds : val xs / 2 ^ ((yI (val xs) e - e).toNat) < 18446744073709551616 := by
         have := anV hc44
         rw [← awV (by omega)]; omega
        refine .sr (.mv rfl rfl (.mv rfl rfl (.p rfl (zZ (tm rfl) (tm rfl) (by omega)) (.as rfl rfl (.nr (.mv rfl rfl (.mv rfl rfl (.cl rfl Tryz.call86 (evs2 rfl rfl) (akS xs tl hx (by omega) ((yI (val xs) e - e).toNat) (by omega) _ (by omega) _) ?_))))))))
        rw [Nat.mod_eq_of_lt hds]
        refine .as rfl rfl (.nr (.mv rfl rfl (.mv rfl rfl (.p rfl (zZ (tm rfl) zE (by omega)) (.cl rfl Tryz.call87 (evs2 rfl rfl) (afQ xs tl hx (by omega) (((yI (val xs) e - e).toNat) - 1) (by omega) _ (by omega) _) (.as rfl rfl (.ng ?_)))))))
        refine AWP.seqTo 15 (.bool (decide (val xs % 2 ^ (((yI (val xs) e - e).toNat) - 1) ≠ 0) || more)) [11, 9, 8, 12, 14] ?_ ?_
        ·-- region 18
         refine .region (.mv rfl rfl (.mv rfl rfl (.p rfl (zZ (tm rfl) zE (by omega)) (.cl rfl Tryz.call88 (evs2 rfl rfl) (ayC xs tl hx (by omega) (((yI (val xs) e - e).toNat) - 1) (by omega) _ (by omega) _) (.mv rfl rfl ?_)))))
         refine zQ (t := 65) rfl (fun hg65 => ?_) (fun hg65 => ?_)
         ·have hh65 := hg65; try simp only [decide_eq_true_eq, ne_eq] at hh65
          refine .gn rfl rfl rfl (by assumption) (.p rfl (zN (tm rfl) (by assumption) zK) (.as rfl rfl (.nil ?_)))
          exact ⟨rfl, yV rfl (by (simp_all; done)) (zA rfl (zA rfl (zA rfl (zA rfl (zA rfl zL))))), rfl⟩
         ·have hh65 := hg65; try simp only [decide_eq_false_iff_not, ne_eq, Decidable.not_not] at hh65
          refine .gp rfl rfl rfl (by assumption) (zC (tm rfl)) (.p rfl (zM (tm rfl) (by assumption) (tm rfl)) (.as rfl rfl (.nil ?_)))
          exact ⟨rfl, yV rfl (by (simp_all; done)) (zA rfl (zA rfl (zA rfl (zA rfl (zA rfl zL))))), rfl⟩
        ·refine AWP.sub [(15, _), (11, _), (9, _), (8, _), (12, _), (14, _)] (zA rfl (zA rfl (zA rfl (zA rfl (zA rfl (zA rfl zL)))))) ?_
         refine AWP.seqTo 76 (.bool ((decide (((val xs / 2 ^ (((yI (val xs) e - e).toNat) - 1) % 2 : Nat) : Int) = 1) && ((decide (val xs % 2 ^ (((yI (val xs) e - e).toNat) - 1) ≠ 0) || more) || decide (((val xs / 2 ^ ((yI (val xs) e - e).toNat) % 2 : Nat) : Int) = ((1 : Nat) : Int)))))) [11, 9, 8, 12] ?_ ?_
         ·-- region 19
          refine .region (.mv rfl rfl (.mv rfl rfl ?_))
          refine zQ (t := 69) rfl (fun hg69 => ?_) (fun hg69 => ?_)
          ·have hh69 := hg69; try simp only [decide_eq_true_eq] at hh69
           refine .gp rfl rfl rfl (by assumption) (zC (tm rfl)) (.gp rfl rfl rfl (by assumption) (zC (tm rfl)) ?_)
           refine zQ (t := 71) rfl (fun hg71 => ?_) (fun hg71 => ?_)
           ·have hh71 := hg71; try simp only [ne_eq] at hh71
            refine .gn rfl rfl rfl (by assumption) (.gn rfl rfl rfl (by assumption) (.gn rfl rfl rfl (by assumption) (.gp rfl rfl rfl (by assumption) (zN (tm rfl) (by assumption) zK) (.p rfl (zN (tm rfl) (by assumption) (tm rfl)) (.nil ?_)))))
            exact ⟨rfl, yV rfl (by (simp_all; done)) (zA rfl (zA rfl (zA rfl (zA rfl zL)))), rfl⟩
           ·have hh71 := hg71; try simp only [ne_eq] at hh71
            refine .gp rfl rfl rfl (by assumption) (zC (tm rfl)) (.gp rfl rfl rfl (by assumption) (aaC (tm rfl) (zJ 2) (by omega)) (.gp rfl rfl rfl (by assumption) (yA (tm rfl) (zJ 1)) (.gp rfl rfl rfl (by assumption) (zM (tm rfl) (by assumption) (tm rfl)) (.p rfl (zN (tm rfl) (by assumption) (tm rfl)) (.nil ?_)))))
            exact ⟨rfl, yV rfl (by (simp_all; done)) (zA rfl (zA rfl (zA rfl (zA rfl zL)))), rfl⟩
          ·have hh69 := hg69; try simp only [decide_eq_false_iff_not] at hh69
           refine .gn rfl rfl rfl (by assumption) (.gn rfl rfl rfl (by assumption) ?_)
           refine AList.gdead rfl rfl rfl ?_
           refine AList.gdead rfl rfl rfl ?_
           refine AList.gdead rfl rfl rfl ?_
           refine .gn rfl rfl rfl (by assumption) (.p rfl (zM (tm rfl) (by assumption) zK) (.nil ?_))
           exact ⟨rfl, yV rfl (by (simp_all; done)) (zA rfl (zA rfl (zA rfl (zA rfl zL)))), rfl⟩
         ·refine AWP.sub [(76, _), (11, _), (9, _), (8, _), (12, _)] (zA rfl (zA rfl (zA rfl (zA rfl (zA rfl zL))))) ?_
          refine AWP.cond (tm rfl) (fun hc76 => ?_) (fun hc76 => ?_)
          ·try simp only [ne_eq] at hc76
           rw [if_pos hc76] at hms
           refine .region (.mv rfl rfl (.p rfl (yL (tm rfl) (zJ 1) (by omega)) (.as rfl rfl (.nil ?_))))
           exact ⟨rfl, (yH rfl (by rw [hms]) (zA rfl (zA rfl (zA rfl zL)))), rfl⟩
          ·try simp only [ne_eq] at hc76
           rw [if_neg (by rw [hc76]; decide)] at hms
           refine .skip ?_
           exact ⟨rfl, (yH rfl (by rw [hms]) (zA rfl (zA rfl (zA rfl zL)))), rfl⟩
      ·refine AWP.sub [(12, _), (11, _), (9, _), (8, _)] (zA rfl (zA rfl (zA rfl (zA rfl zL)))) ?_
       refine AWP.seqToL [(12, .int .u64 ((aiG (abJ (val xs) e more) : Nat) : Int)), (11, .int .i64 (ahI (abJ (val xs) e more) (yI (val xs) e)))] [9, 8] ?_ ?_
       ·refine .sr (.mv rfl rfl (.p rfl (yA (tm rfl) (zJ 9007199254740992)) (.ng ?_)))
        refine AWP.cond (tm rfl) (fun hc80 => ?_) (fun hc80 => ?_)
        ·try simp only [decide_eq_true_eq] at hc80
         refine .sr (.p rfl (zB (zJ 4503599627370496)) (.ng (.region (.mv rfl rfl (.p rfl (zR (tm rfl) zE (by omega)) (.as rfl rfl (.nil ?_)))))))
         exact ⟨rfl, (yH rfl (by (unfold aiG; rw [if_pos (by omega)]; done)) (yH rfl (by (unfold ahI; rw [if_pos (by omega)]; done)) (zA rfl (zA rfl zL)))), rfl⟩
        ·try simp only [decide_eq_false_iff_not] at hc80
         refine .skip ?_
         exact ⟨rfl, (yH rfl (by (unfold aiG; rw [if_neg (by omega)]; done)) (yH rfl (by (unfold ahI; rw [if_neg (by omega)]; done)) (zA rfl (zA rfl zL)))), rfl⟩
       ·refine AWP.sub [(12, _), (11, _), (9, _), (8, _)] (zA rfl (zA rfl (zA rfl (zA rfl zL)))) ?_
        have hR : yM neg (val xs) e more = aaD neg + abS (aiG (abJ (val xs) e more)) (ahI (abJ (val xs) e more) (yI (val xs) e)) := by
         unfold yM; rw [if_neg (by omega), if_neg (by omega), awB]
        have hA := awC hml
        have hU := awA (abJ (val xs) e more) (yI (val xs) e)
        generalize aiG (abJ (val xs) e more) = m1 at hA hR ⊢
        generalize ahI (abJ (val xs) e more) (yI (val xs) e) = u1 at hU hR ⊢
        refine .seq (.sr (.mv rfl rfl (.p rfl (zY (tm rfl) (zJ 4503599627370496)) (.ng ?_))))
        refine AWP.cond (tm rfl) (fun hc84 => ?_) (fun hc84 => ?_)
        ·try simp only [decide_eq_true_eq] at hc84
         refine .sr (.mv rfl rfl (.mv rfl rfl (.p rfl (yL (tm rfl) (tm rfl) (by omega)) (.as rfl rfl (.ng (.ret ?_))))))
         refine Next.rt ?_
         refine Ret.go (.cons (.tmp _ _ rfl) .nil) _ (Heap.le.refl _) ?_
         refine ⟨?_, rfl⟩
         rw [hR]; unfold abS; rw [if_pos (by omega)]; rfl
        ·try simp only [decide_eq_false_iff_not, Int.not_lt] at hc84
         refine .skip ?_
         refine Next.go ?_
         refine .seq (.sr (.mv rfl rfl (.p rfl (zR (tm rfl) zE (by omega)) (.p rfl (qH (tm rfl) zE) (.ng ?_)))))
         refine AWP.cond (tm rfl) (fun hc90 => ?_) (fun hc90 => ?_)
         ·try simp only [decide_eq_true_eq] at hc90
          refine .sr (.mv rfl rfl (.p rfl (yL (tm rfl) (zJ 9218868437227405312) (by omega)) (.as rfl rfl (.ng (.ret ?_)))))
          refine Next.rt ?_
          refine Ret.go (.cons (.tmp _ _ rfl) .nil) _ (Heap.le.refl _) ?_
          refine ⟨?_, rfl⟩
          rw [hR]; unfold abS; rw [if_neg (by omega), if_pos (by omega)]; rfl
         ·try simp only [decide_eq_false_iff_not, Int.not_le] at hc90
          refine .skip ?_
          refine Next.go ?_
          refine .sr (.mv rfl rfl (.mv rfl rfl (.p rfl (zR (tm rfl) zE (by omega)) ?_)))
          refine .p rfl (.as (b := .int .u64 (((u1 + 1075).toNat : Nat) : Int)) (by congr 1; omega) (yD Tryz.underlying3 Tryz.underlying30 (tm rfl) (wrap64 (by omega) (by omega)))) ?_
          refine .p rfl (aaE (tm rfl) (zJ 52) (by omega) (by rw [shl52 (by omega)]; omega)) (.p rfl (yL (tm rfl) (tm rfl) (by (rw [shl52 (by omega)]; omega))) (.mv rfl rfl (.p rfl (yL (tm rfl) (tm rfl) (by (rw [shl52 (by omega)]; omega))) (.p rfl (adL (tm rfl) (zJ 4503599627370496) (by (rw [shl52 (by omega)]; omega)) (by (rw [shl52 (by omega)]; omega))) (.as rfl rfl (.ng (.ret ?_)))))))
          refine Ret.go (.cons (.tmp _ _ rfl) .nil) _ (Heap.le.refl _) ?_
          refine ⟨?_, rfl⟩
          rw [hR]; unfold abS; rw [if_neg (by omega), if_neg (by omega)]
          exact congrArg (fun w : Nat => AV.int .u64 (w : Int)) (show aaD neg + (u1 + 1075).toNat * 2 ^ 52 + m1 - 4503599627370496 = aaD neg + (m1 + (u1 + 1074).toNat * 4503599627370496) by rw [shl52 (by omega)]; omega)
theorem rne_zero {n k : Nat} {more : Bool} (h : n < 2 ^ (k - 1)) : rne n k more = 0 := by
 have h1 : n / 2 ^ (k - 1) = 0 := Nat.div_eq_of_lt h
 have h2 : n / 2 ^ k = 0 := Nat.div_eq_of_lt (Nat.lt_of_lt_of_le h (Nat.pow_le_pow_right (by decide) (by omega)))
 unfold rne
 rw [h1, h2, if_neg (by omega)]
theorem atD {n : Nat} {e : Int} {more : Bool} (h : e + yQ n ≤ -1076) (he : e ≤ 0) : yM false n e more = 0 := by
 unfold yM
 split
 ·rfl
 ·rw [if_neg (by omega)]
  have hu : yI n e = -1074 := by unfold yI; rw [if_pos (by omega)]
  have hm : abJ n e more = 0 := by
   rcases Nat.eq_zero_or_pos n with h0 | h0
   ·rename_i hn; exact absurd (.inl h0) hn
   ·have hb := acS h0
    unfold abJ
    rw [hu, if_neg (by omega)]
    refine rne_zero (Nat.lt_of_lt_of_le (adX n) (Nat.pow_le_pow_right (by decide) (by omega)))
  rw [hm, hu]; rfl
theorem akN {n : Nat} {e : Int} {more : Bool} (h : 1026 ≤ e + yQ n) (he : -10000 ≤ e) (hn : 0 < n) : yM false n e more = ajF := by
 unfold yM
 rw [if_neg (by omega)]
 split
 ·unfold aaD; simp
 ·rw [aoW]
  have hu : yI n e = e + yQ n - 53 := by unfold yI; rw [if_neg (by omega)]
  have hg := bdU (n := n) (e := e) (more := more) (by omega) hn
  unfold aaD pk
  rw [if_neg (by decide), Nat.zero_add]
  split
  ·unfold abS; rw [if_neg (by omega), if_pos (by omega)]
  ·unfold abS; rw [if_neg (by omega), if_pos (by omega)]
theorem ten_330 : ∃ a b : Nat, a = 1080 ∧ b = 330 ∧ 2 ^ a ≤ 10 ^ b := ⟨1080, 330, rfl, rfl, by decide +kernel⟩
theorem ten_310 : ∃ a b : Nat, a = 1026 ∧ b = 310 ∧ 2 ^ a ≤ 10 ^ b := ⟨1026, 310, rfl, rfl, by decide +kernel⟩
theorem ayJ {m : Nat} {k : Int} {L : Nat} (hm : m < 10 ^ L) (hp : (L : Int) + k ≤ -330) (hk : -2000 ≤ k) : agL m k = 0 := by
 obtain ⟨A, B, hA, hB, h330⟩ := ten_330
 unfold agL
 rw [if_neg (by omega)]
 obtain ⟨j, hj⟩ : ∃ j : Nat, k = -(j : Int) := ⟨(-k).toNat, by omega⟩
 subst hj
 rw [show (-(-(j : Int))).toNat = j by omega]
 have hjl := afL j
 unfold aqR
 refine atD ?_ (by omega)
 generalize hK : yQ (10 ^ j) + 127 = K
 have h1 : m * 2 ^ K / 10 ^ j < 2 ^ (K - A) ∧ A ≤ K ∨ K < A := by
  rcases Nat.lt_or_ge K A with h | h
  ·exact .inr h
  ·refine .inl ⟨?_, h⟩
   rw [Nat.div_lt_iff_lt_mul (abH j)]
   have e1 : 2 ^ K = 2 ^ (K - A) * 2 ^ A := by rw [← Nat.pow_add]; congr 1; omega
   have e2 : 10 ^ L * 10 ^ B ≤ 10 ^ j := by rw [← Nat.pow_add]; exact Nat.pow_le_pow_right (by decide) (by omega)
   rw [e1, Nat.mul_comm m, Nat.mul_assoc]
   refine Nat.mul_lt_mul_of_pos_left ?_ (Nat.pow_pos (by decide))
   calc 2 ^ A * m ≤ 10 ^ B * m := Nat.mul_le_mul_right _ h330
    _ < 10 ^ B * 10 ^ L := Nat.mul_lt_mul_of_pos_left hm (abH _)
    _ = 10 ^ L * 10 ^ B := Nat.mul_comm _ _
    _ ≤ 10 ^ j := e2
 rcases h1 with ⟨h1, hKA⟩ | h1
 ·have := qJ.2 h1
  omega
 ·exfalso
  have h2 : 2 ^ A ≤ 10 ^ j := Nat.le_trans h330 (Nat.pow_le_pow_right (by decide) (by omega))
  have := aaW.2 h2
  omega
theorem ayK {m : Nat} {k : Int} {L : Nat} (hm : 10 ^ L ≤ m) (hp : 310 ≤ (L : Int) + k) (hk : -2000 ≤ k) : agL m k = ajF := by
 obtain ⟨A, B, hA, hB, h310⟩ := ten_310
 have hm0 : 0 < m := Nat.lt_of_lt_of_le (abH L) hm
 unfold agL
 split
 ·refine akN ?_ (by decide) (Nat.mul_pos hm0 (abH _))
  have h1 : 2 ^ A ≤ m * 10 ^ k.toNat := by
   refine Nat.le_trans h310 (Nat.le_trans (Nat.pow_le_pow_right (by decide) (show B ≤ L + k.toNat by omega)) ?_)
   rw [Nat.pow_add]; exact Nat.mul_le_mul_right _ hm
  have := aaW.2 h1
  omega
 ·obtain ⟨j, hj⟩ : ∃ j : Nat, k = -(j : Int) := ⟨(-k).toNat, by omega⟩
  subst hj
  rw [show (-(-(j : Int))).toNat = j by omega]
  have hjl := afL j
  have h1 : 2 ^ (yQ (10 ^ j) + 127 + A) ≤ m * 2 ^ (yQ (10 ^ j) + 127) / 10 ^ j := by
   rw [Nat.le_div_iff_mul_le (abH j), Nat.pow_add, Nat.mul_comm m, Nat.mul_assoc]
   refine Nat.mul_le_mul_left _ ?_
   refine Nat.le_trans (Nat.mul_le_mul_right _ h310) ?_
   rw [← Nat.pow_add]
   exact Nat.le_trans (Nat.pow_le_pow_right (by decide) (by omega)) hm
  have h2 := aaW.2 h1
  unfold aqR
  refine akN (by omega) (by omega) (Nat.lt_of_lt_of_le (Nat.pow_pos (by decide)) h1)
/-! ### short decimals -/
theorem ajT {n t : Nat} (h0 : 0 < n) (h : n < 9007199254740992) (ht : t ≤ 500) : ∃ j : Nat, j ≤ 52 ∧ aeP (yM false n t false) = n * 2 ^ j ∧ aiF (yM false n t false) = (t : Int) - j ∧ yY (yM false n t false) = 2 ∧ yM false n t false < 9223372036854775808 := by
 have e53 : (9007199254740992 : Nat) = 2 ^ 53 := by decide
 have hb : yQ n ≤ 53 := qJ.2 (by rw [← e53]; exact h)
 have hb0 := acS h0
 have hu : yI n t = (t : Int) + yQ n - 53 := by unfold yI; rw [if_neg (by omega)]
 refine ⟨53 - yQ n, by omega, ?_⟩
 have hm : abJ n t false = n * 2 ^ (53 - yQ n) := by
  unfold abJ
  rw [hu, if_pos (by omega)]
  congr 2; omega
 have hlo : 4503599627370496 ≤ n * 2 ^ (53 - yQ n) := by
  have h1 := alZ h0
  have h2 := Nat.mul_le_mul_right (2 ^ (53 - yQ n)) h1
  rw [← Nat.pow_add, show yQ n - 1 + (53 - yQ n) = 52 by omega] at h2
  have e52 : (4503599627370496 : Nat) = 2 ^ 52 := by decide
  omega
 have hhi : n * 2 ^ (53 - yQ n) < 9007199254740992 := by
  have h2 := Nat.mul_lt_mul_of_pos_right (adX n) (show 0 < 2 ^ (53 - yQ n) from Nat.pow_pos (by decide))
  rw [← Nat.pow_add, show yQ n + (53 - yQ n) = 53 by omega] at h2
  omega
 have hr : yM false n t false = n * 2 ^ (53 - yQ n) + (t + yQ n + 1021) * 4503599627370496 := by
  unfold yM
  rw [if_neg (by omega), if_neg (by omega), hm, hu, aoW]
  unfold aaD pk abS
  rw [if_neg (by decide), Nat.zero_add, if_neg (by omega), if_neg (by omega), if_neg (by omega)]
  congr 2
  omega
 rw [hr]
 generalize n * 2 ^ (53 - yQ n) = q at *
 have hd : (q + (t + yQ n + 1021) * 4503599627370496) / 4503599627370496 % 2048 = t + yQ n + 1022 := by omega
 have hmod : (q + (t + yQ n + 1021) * 4503599627370496) % 4503599627370496 = q - 4503599627370496 := by omega
 have hk : yY (q + (t + yQ n + 1021) * 4503599627370496) = 2 := by
  unfold yY
  rw [hd, if_neg (by omega), if_neg (by omega)]
 refine ⟨?_, ?_, hk, by omega⟩
 ·unfold aeP
  rw [hk, if_neg (by decide), if_pos rfl, hmod]; omega
 ·unfold aiF
  rw [hk, if_neg (by decide), if_pos rfl, hd]; omega
theorem azW {a b s t : Nat} (ha0 : 0 < a) (ha : a < 9007199254740992) (hb0 : 0 < b) (hb : b < 9007199254740992) (hs : s ≤ 500) (ht : t ≤ 500) : agR (yM false a s false) (yM false b t false) = yM false (a * b) ((s + t : Nat) : Int) false := by
 obtain ⟨i, hi, a1, a2, a3, a4⟩ := ajT ha0 ha hs
 obtain ⟨j, hj, b1, b2, b3, b4⟩ := ajT hb0 hb ht
 have hn : alI (yM false a s false) (yM false b t false) = false := by
  unfold alI
  refine decide_eq_false ?_
  rw [Nat.div_eq_of_lt (show _ < 2 ^ 63 from a4), Nat.div_eq_of_lt (show _ < 2 ^ 63 from b4)]
  simp
 unfold agR
 rw [a3, b3, if_neg (by decide), if_neg (by decide), hn, a1, a2, b1, b2]
 rw [show a * 2 ^ i * (b * 2 ^ j) = a * b * 2 ^ (i + j) by rw [Nat.pow_add, Nat.mul_mul_mul_comm], adJ (by omega) (by omega)]
 congr 1; omega
theorem ten_five (i : Nat) (hi : i ≤ 500) : yM false (10 ^ i) 0 false = yM false (5 ^ i) (i : Int) false := by
 rw [show (10 : Nat) = 5 * 2 by decide, Nat.mul_pow, adJ (by decide) (by omega)]
 congr 1; omega
theorem bbM : ∀ i : Fin 23, tenB i.1 = yM false (10 ^ i.1) 0 false := by decide +kernel
theorem beQ {m j : Nat} (hm : 0 < m) (hm2 : m < 9007199254740992) (hj : j ≤ 22) : fastN m j = agL m (j : Int) := by
 have h5 : 5 ^ j < 9007199254740992 := Nat.lt_of_le_of_lt (Nat.pow_le_pow_right (by decide) hj) (by decide)
 have hf := azW (s := 0) (t := j) hm hm2 (Nat.pow_pos (by decide) : 0 < 5 ^ j) h5 (by decide) (by omega)
 unfold fastN agL
 rw [if_pos (by omega), bbM ⟨j, by omega⟩, ten_five j (by omega)]
 rw [show ((0 : Nat) : Int) = 0 from rfl, Nat.zero_add] at hf
 rw [hf, show ((j : Int)).toNat = j by omega, show (10 : Nat) = 5 * 2 by decide, Nat.mul_pow, ← Nat.mul_assoc, adJ (by decide) (by omega)]
 congr 1; omega
theorem num_low {c : UInt8} {r : List UInt8} (hc : isD c) (h0 : c ≠ 48) : 10 ^ r.length ≤ num (c :: r) := by
 rw [aoX]
 have : 49 ≤ c.toNat := by
  rcases Nat.lt_or_ge c.toNat 49 with h | h
  ·have h48 : c.toNat = 48 := by unfold isD at hc; omega
   exact absurd (UInt8.toNat_inj.1 (show c.toNat = (48 : UInt8).toNat by simp only [UInt8.reduceToNat]; omega)) h0
  ·exact h
 exact Nat.le_trans (Nat.le_mul_of_pos_left _ (by omega)) (Nat.le_add_right _ _)
theorem aqG {ds : List UInt8} {e : Int} (h : qG ds e = true) (hne : ds ≠ []) : 10 ^ (ds.length - 1) ≤ num ds ∧ num ds < 10 ^ ds.length := by
 have hd := qP h
 refine ⟨?_, aeH hd⟩
 match ds, hne with
 | c :: r, _ =>
  refine num_low (hd c (by simp)) ?_
  rintro rfl
  unfold qG at h
  simp at h
theorem bbX {ds : List UInt8} {e : Int} (h : qG ds e = true) (hne : ds ≠ []) (hp : -400 ≤ (ds.length : Int) + e ∧ (ds.length : Int) + e ≤ 400) : afB ds e = agL (num ds) e := by
 have hd := qP h
 have hl := aaQ h
 have hlp := List.length_pos_iff.2 hne
 obtain ⟨hn1, hn2⟩ := aqG h hne
 have hn0 : 0 < num ds := Nat.lt_of_lt_of_le (abH _) hn1
 unfold afB
 by_cases h1 : (ds.length : Int) + e < -330
 ·rw [if_pos (.inr h1), ayJ hn2 (by omega) (by omega)]
 rw [if_neg (fun q => q.elim hne h1)]
 by_cases h2 : 310 < (ds.length : Int) + e
 ·rw [if_pos h2, ayK hn1 (by omega) (by omega)]
 rw [if_neg h2]
 by_cases h3 : ds.length ≤ 19
 ·rw [if_pos h3]
  by_cases h4 : ds.length ≤ 15 ∧ 0 ≤ e ∧ e ≤ 22
  ·rw [if_pos h4]
   have h15 : num ds < 9007199254740992 := Nat.lt_of_lt_of_le hn2 (Nat.le_trans (Nat.pow_le_pow_right (by decide) h4.1) (by decide))
   have := beQ hn0 h15 (j := e.toNat) (by omega)
   rw [this]; congr 1; omega
  ·rw [if_neg h4]
   split
   ·rename_i hq
    exact atN hn0 (by omega) hq
   ·exact aqC hn0 (by omega)
 ·rw [if_neg h3]
  exact aqC hn0 (by omega)
theorem BIG_bits : ∃ a : Nat, a = 8192 ∧ BIG = 2 ^ a := ⟨8192, rfl, by decide +kernel⟩
theorem adB {x : Nat} (h : yQ x ≤ 8192) : x < BIG := by
 obtain ⟨a, ha, e⟩ := BIG_bits
 rw [e]; exact qJ.1 (by omega)
theorem anA (neg : Bool) (n : Nat) (e : Int) (more : Bool) : yM neg n e more = aaD neg + yM false n e more := by
 unfold yM
 split
 ·rfl
 ·split
  ·unfold aaD; simp
  ·rw [aoW, aoW]; unfold aaD; simp
theorem num_step {ds : List UInt8} {i : Nat} (h : i < ds.length) : num (ds.take (i + 1)) = num (ds.take i) * 10 + ((ds.getD i 0).toNat - 48) := by
 rw [List.take_add_one, List.getD_eq_getElem?_getD, List.getElem?_eq_getElem h]
 generalize ds[i] = c
 show num (ds.take i ++ [c]) = _
 rw [anL]; unfold num; rw [abY, ajM]; simp
theorem auW (n : Nat) : yQ (n * 10) ≤ yQ n + 4 := by
 have h1 : n < 2 ^ yQ n := qJ.1 (Nat.le_refl _)
 refine qJ.2 ?_
 rw [Nat.pow_add]; omega
theorem num_bl {ds : List UInt8} (hd : Digs ds) : yQ (num ds) ≤ 10 * ds.length / 3 + 2 := Nat.le_trans (aeL (Nat.le_of_lt (aeH hd))) (agB _)
theorem mul_bl {ds : List UInt8} (hd : Digs ds) {j : Nat} (h : ds.length + j ≤ 2000) : yQ (num ds * 10 ^ j) ≤ 8192 := by
 have h1 : num ds * 10 ^ j ≤ 10 ^ (ds.length + j) := by rw [Nat.pow_add]; exact Nat.mul_le_mul_right _ (Nat.le_of_lt (aeH hd))
 have := Nat.le_trans (aeL h1) (agB _)
 omega
def rK (m : Nat) (b : Nat) : Nat := yQ b + 70 - yQ m
def bcS (neg : Bool) (ds : List UInt8) (e : Int) : Nat := aaD neg + (if ds = [] ∨ (ds.length : Int) + e < -400 then 0 else if 400 < (ds.length : Int) + e then ajF else agL (num ds) e)
theorem rat_read {m : Nat} {k : Int} (hm : 0 < m) (hk : -2000 ≤ k) (h0 : k < 0) : aqR m (10 ^ (-k).toNat) (rK m (10 ^ (-k).toNat)) = agL m k := by
 unfold agL
 rw [if_neg (by omega)]
 have hbl := afL (-k).toNat
 have ht := abH (-k).toNat
 have hb := acS hm
 refine (avT ht ?_ (by unfold rK; omega) (by omega)).symm
 have h1 := alZ hm
 have h2 := adX (10 ^ (-k).toNat)
 have h3 : 2 ^ 65 ≤ m * 2 ^ rK m (10 ^ (-k).toNat) / 10 ^ (-k).toNat := by
  rw [Nat.le_div_iff_mul_le ht]
  refine Nat.le_trans (Nat.mul_le_mul_left _ (Nat.le_of_lt h2)) (Nat.le_trans ?_ (Nat.mul_le_mul_right _ h1))
  rw [← Nat.pow_add, ← Nat.pow_add]
  exact Nat.pow_le_pow_right (by decide) (by unfold rK; omega)
 have := aaW.2 h3
 omega
theorem azN {r : Nat} : decide ((0 : Int) < ((zI r).length : Int)) = decide (r ≠ 0) := by
 refine decide_eq_decide.2 ⟨fun h q => ?_, fun h => ?_⟩
 ·subst q; rw [show zI 0 = [] by decide +kernel] at h; simp at h
 ·rw [qN (Nat.pos_of_ne_zero h)]; simp only [List.length_cons]; omega

def bcT (ds : List UInt8) (H : Heap) : Nat → Env → Heap → Prop := fun k env H1 => ∃ (i : Nat) (tl : Tail), i ≤ ds.length ∧ env = [(0, .str ds), (3, .slice 1 (U .u32 (zI (num (ds.take i)))) tl), (4, .int .i64 (i : Int))] ∧ H = H1 ∧ k = ds.length - i

set_option maxRecDepth 100000 in
theorem atL (ds : List UInt8) (hd : Digs ds) (hl : ds.length ≤ 1200) (H : Heap) : ACall Tryz.prog 51 [.str ds] H (fun y H' => y = aaM (num ds) ∧ H' = H) := by
 refine ACall.of_body Tryz.func51 rfl Tryz.ntmps51 Tryz.results51 rfl ?_
 refine .sr ?_
 refine .p rfl (zB (qR (sz := 1) (tl := .full))) ?_
 refine .nr (.e rfl (avK Tryz.underlying94 Tryz.sizeOf112 Tryz.zeroValue112 ) (.as rfl rfl (.ng (.seq (.sr (.p rfl (zB (zJ 0)) (.ng (.block ?_))))))))
 refine AWP.loopW (bcT ds H) (ds.length) ⟨0, .full, Nat.zero_le _, rfl, rfl, rfl⟩ (zA rfl (yH rfl (afO rfl) (zA rfl zL))) (Heap.le.refl _) ?_
 rintro _ _ _ ⟨i, tl, hi, rfl, rfl, hk⟩
 have hbl := num_bl (hd.take i)
 have htl : (ds.take i).length ≤ 1200 := by rw [List.length_take]; omega
 have hl := qE (n := num (ds.take i)) (adB (by omega))
 refine .seq (.sr (.mv rfl rfl (.mv rfl rfl (.p rfl (yJ Tryz.underlying9 (tm rfl)) (.p rfl (zY (tm rfl) (tm rfl)) (.ng ?_))))))
 refine AWP.cond (tm rfl) (fun hc9 => ?_) (fun hc9 => ?_)
 ·try simp only [decide_eq_true_eq] at hc9
  have hil : i < ds.length := by omega
  have hdi := hd.at hil
  have hdi2 : 48 ≤ (ds.getD ((i : Nat) : Int).toNat 0).toNat ∧ (ds.getD ((i : Nat) : Int).toNat 0).toNat ≤ 57 := hdi
  have hl2 := qE (n := val (zI (num (ds.take i))) * val [10]) (adB (by have h1 := auW (num (ds.take i)); rw [zV]; show yQ (num (ds.take i) * 10) ≤ _; omega))
  refine .skip ?_
  refine Next.go ?_
  refine .seq (.block ?_)
  refine AWP.draw [(0, true), (1, true), (2, true), (3, true), (4, true), (5, true), (6, true), (7, true), (8, true), (9, true), (10, true)] rfl (by decide +kernel) ?_
  refine .p rfl rfl (zC (tm rfl)) ?_
  refine APlan.f rfl rfl (fun _ => aaY Tryz.underlying94 Tryz.sizeOf112 Tryz.zeroValue112 rfl (zJ 10) (.inl rfl) ⟨rfl, rfl⟩) ?_
  refine APlan.f rfl rfl (fun _ => zP Tryz.call53 (evs2 rfl rfl) (afE (zI (num (ds.take i))) tl (zO _) (by omega) [10] .full (Limbs.mk (by decide) Limbs.nil) (by decide) _)) ?_
  refine .p rfl rfl (zC (tm rfl)) (.p rfl rfl (zC (tm rfl)) (.p rfl rfl (aaS Tryz.underlying9 (tm rfl) (tm rfl) (by omega) (by omega)) (.p rfl rfl (ayP (tm rfl) (zJ 48) (by omega) (by omega)) (.p rfl rfl (yD Tryz.underlying5 Tryz.underlying112 (tm rfl) (wrapN32 (by omega))) ?_))))
  refine APlan.f rfl rfl (fun _ => aaY Tryz.underlying94 Tryz.sizeOf112 Tryz.zeroValue112 rfl (tm rfl) (.inl rfl) ⟨rfl, rfl⟩) ?_
  refine APlan.f rfl rfl (fun _ => zP Tryz.call85 (evs2 rfl rfl) (atI (zI (val (zI (num (ds.take i))) * val [10])) .shared (zO _) (by omega) [(ds.getD i 0).toNat - 48] .full (Limbs.mk (by omega) Limbs.nil) (by simp) _)) ?_
  refine .p rfl rfl (zB (tm rfl)) (.nil ?_)
  refine Block.go ?_
  refine Next.go ?_
  refine .region (.mv rfl rfl (.p rfl (zR (tm rfl) (zJ 1) (by omega)) (.as rfl rfl (.ng ?_))))
  refine Round.mk (J := bcT ds H) ⟨i + 1, .shared, by omega, rfl, rfl, rfl⟩ (zA rfl (yH rfl (congrArg aaM (show _ = num (ds.take (i + 1)) by rw [zV, zV, num_step hil]; rfl)) (zA rfl zL))) (Heap.le.refl _) (by omega)
 ·try simp only [decide_eq_false_iff_not, Int.not_lt] at hc9
  refine .exit ?_
  refine Next.ex ?_
  refine Next.ex ?_
  refine Block.hit ?_
  refine Next.go ?_
  refine .sr (.mv rfl rfl (.as rfl rfl (.ng (.ret ?_))))
  refine Ret.go (.cons (.weak _ _ _ rfl (.slice _ _ _)) .nil) _ (Heap.le.refl _) ?_
  refine ⟨?_, rfl⟩
  rw [show i = ds.length by omega, List.take_length]; rfl

set_option maxRecDepth 100000 in
theorem akI (neg : Bool) (x : Nat) (hx : x < 9223372036854775808) (H : Heap) : ACall Tryz.prog 50 [.bool neg, .int .u64 (x : Int)] H (fun y H' => y = .int .u64 ((aaD neg + x : Nat) : Int) ∧ H' = H) := by
 refine ACall.of_body Tryz.func50 rfl Tryz.ntmps50 Tryz.results50 rfl ?_
 refine .sr (.p rfl (zB (zJ 0)) (.ng (.seq (.sr (.mv rfl rfl (.ng ?_))))))
 refine AWP.cond (tm rfl) (fun hc5 => ?_) (fun hc5 => ?_)
 ·try simp only [decide_eq_true_eq, decide_eq_false_iff_not, Bool.not_eq_true', Bool.not_eq_false', Int.not_lt, Int.not_le, ne_eq, Decidable.not_not] at hc5
  refine .sr (.mv rfl rfl (.p rfl (yL (tm rfl) (zJ 9223372036854775808) (by omega)) (.as rfl rfl (.ng (.ret ?_)))))
  refine Next.rt ?_
  refine Ret.go (.cons (.tmp _ _ rfl) .nil) _ (Heap.le.refl _) ?_
  refine ⟨?_, rfl⟩
  unfold aaD; rw [if_pos (by assumption), Nat.add_comm]; rfl
 ·try simp only [decide_eq_true_eq, decide_eq_false_iff_not, Bool.not_eq_true', Bool.not_eq_false', Int.not_lt, Int.not_le, ne_eq, Decidable.not_not] at hc5
  refine .skip ?_
  refine Next.go ?_
  refine .sr (.mv rfl rfl (.as rfl rfl (.ng (.ret ?_))))
  refine Ret.go (.cons (.tmp _ _ rfl) .nil) _ (Heap.le.refl _) ?_
  refine ⟨?_, rfl⟩
  unfold aaD; rw [if_neg (by simp_all), Nat.zero_add]; rfl

set_option maxRecDepth 100000 in
theorem aqV (neg : Bool) (ds : List UInt8) (e : Int) (hr : qG ds e = true) (hl : ds.length ≤ 1000) (H : Heap) : ACall Tryz.prog 18 [dA neg ds e] H (fun y H' => y = .int .u64 ((bcS neg ds e : Nat) : Int) ∧ H' = H) := by
 have hd := qP hr
 have hnb := num_bl hd
 have hrl := aaQ hr
 refine ACall.of_body Tryz.func18 rfl Tryz.ntmps18 Tryz.results18 rfl ?_
 refine .sr (.e rfl (yR (tm rfl) (.inr ⟨_, rfl⟩)) (.p rfl (zB (zJ 0)) (.nr (.p rfl (zU Tryz.isAgg48 Tryz.sizeOf48 (tm rfl) (Nat.le_of_ble_eq_true rfl)) (.cl rfl Tryz.call45 (evs1 rfl) (aqT neg ds e (by rw [zX]; omega) _) ?_)))))
 rw [show aeU ds e = (ds.length : Int) + e by unfold aeU; rw [if_pos hr]]
 refine .as rfl rfl (.ng (.seq (.block ?_)))
 refine AWP.seqTo 11 (.bool (decide (ds = [] ∨ (ds.length : Int) + e < -400))) [1, 2, 3] ?_ ?_
 ·-- region 2
  refine .region (.p rfl (zG Tryz.underlying48 rfl Tryz.sizeOf9 (tm rfl)) (.p rfl (zF Tryz.isAgg9 (tm rfl)) (.p rfl (yJ Tryz.underlying9 (tm rfl)) (.p rfl (yA (tm rfl) zE) (.mv rfl rfl ?_)))))
  refine zQ (t := 16) rfl (fun hg16 => ?_) (fun hg16 => ?_)
  ·refine .gn rfl rfl rfl (by assumption) (.gn rfl rfl rfl (by assumption) (.p rfl (zN (tm rfl) (by assumption) zK) (.as rfl rfl (.nil ?_))))
   exact ⟨rfl, yV rfl (by (simp_all; done)) (zA rfl (zA rfl (zA rfl zL))), rfl⟩
  ·refine .gp rfl rfl rfl (by assumption) (zC (tm rfl)) (.gp rfl rfl rfl (by assumption) (zY (tm rfl) zE) (.p rfl (zM (tm rfl) (by assumption) (tm rfl)) (.as rfl rfl (.nil ?_))))
   exact ⟨rfl, yV rfl (by (simp_all; done)) (zA rfl (zA rfl (zA rfl zL))), rfl⟩
 ·refine AWP.sub [(11, _), (1, _), (2, _), (3, _)] (zA rfl (zA rfl (zA rfl (zA rfl zL)))) ?_
  refine AWP.cond (tm rfl) (fun hc11 => ?_) (fun hc11 => ?_)
  ·try simp only [decide_eq_true_eq] at hc11
   have hc0 : ds = [] ∨ (ds.length : Int) + e < -400 := hc11
   refine .sr (.p rfl (zG Tryz.underlying48 rfl Tryz.sizeOf4 (tm rfl)) (.p rfl (zF Tryz.isAgg4 (tm rfl)) (.cl rfl Tryz.call50 (.cons (tm rfl) (.cons (zJ 0) .nil)) (akI neg 0 (by decide) _) (.as rfl rfl (.ng (.ret ?_))))))
   refine Block.rt ?_
   refine Next.rt ?_
   refine Ret.go (.cons (.tmp _ _ rfl) .nil) _ (Heap.le.refl _) ?_
   exact ⟨congrArg (fun w : Nat => AV.int .u64 (w : Int)) (show _ = bcS neg ds e by unfold bcS; rw [if_pos hc0]), rfl⟩
  ·try simp only [decide_eq_false_iff_not] at hc11
   have hc0 : ¬ (ds = [] ∨ (ds.length : Int) + e < -400) := hc11
   have hne : ds ≠ [] := fun q => hc0 (.inl q)
   refine .sr (.mv rfl rfl (.p rfl (yF (tm rfl) zE) (.as rfl rfl (.ng ?_))))
   refine AWP.cond (tm rfl) (fun hc23 => ?_) (fun hc23 => ?_)
   ·try simp only [decide_eq_true_eq] at hc23
    refine .sr (.p rfl (zG Tryz.underlying48 rfl Tryz.sizeOf4 (tm rfl)) (.p rfl (zF Tryz.isAgg4 (tm rfl)) (.cl rfl Tryz.call50 (.cons (tm rfl) (.cons (zJ 9218868437227405312) .nil)) (akI neg 9218868437227405312 (by decide) _) (.as rfl rfl (.ng (.ret ?_))))))
    refine Block.rt ?_
    refine Next.rt ?_
    refine Ret.go (.cons (.tmp _ _ rfl) .nil) _ (Heap.le.refl _) ?_
    exact ⟨congrArg (fun w : Nat => AV.int .u64 (w : Int)) (show _ = bcS neg ds e by unfold bcS; rw [if_neg hc0, if_pos (by omega)]; rfl), rfl⟩
   ·try simp only [decide_eq_false_iff_not, Int.not_lt] at hc23
    have hnl := qE (n := num ds) (adB (by omega))
    have hn0 : 0 < num ds := Nat.lt_of_lt_of_le (abH _) (aqG hr hne).1
    refine .skip ?_
    refine Block.go ?_
    refine Next.go ?_
    refine .sr (.p rfl (zG Tryz.underlying48 rfl Tryz.sizeOf9 (tm rfl)) (.p rfl (zF Tryz.isAgg9 (tm rfl)) (.cl rfl Tryz.call51 (evs1 rfl) (atL ds hd (by omega) _) (.as rfl rfl (.ng (.seq (.sr (.p rfl (zG Tryz.underlying48 rfl Tryz.sizeOf3 (tm rfl)) ?_))))))))
    refine .p rfl (zF Tryz.isAgg3 (tm rfl)) (.p rfl (qH (tm rfl) zE) (.ng ?_))
    refine AWP.cond (tm rfl) (fun hc34 => ?_) (fun hc34 => ?_)
    ·try simp only [decide_eq_true_eq] at hc34
     have hbe := agB e.toNat
     have htl := qE (n := 10 ^ e.toNat) (adB (by omega))
     have hml := qE (n := num ds * 10 ^ e.toNat) (adB (mul_bl hd (by omega)))
     refine .seq ?_
     refine AWP.draw [(0, true), (1, true), (2, true), (3, true), (4, true), (5, false), (6, true), (7, false), (8, true)] rfl (by decide +kernel) ?_
     refine .p rfl rfl (zG Tryz.underlying48 rfl Tryz.sizeOf4 (tm rfl)) (.p rfl rfl (zF Tryz.isAgg4 (tm rfl)) (.p rfl rfl (zC (tm rfl)) (.p rfl rfl (zG Tryz.underlying48 rfl Tryz.sizeOf3 (tm rfl)) (.p rfl rfl (zF Tryz.isAgg3 (tm rfl)) ?_))))
     refine .s rfl rfl (zP Tryz.call54 (evs1 rfl) (amY e.toNat (by omega) _ (by omega) (adB (by have := agB e.toNat; omega)) _)) ?_
     rintro _ _ ⟨rfl, hH⟩
     obtain rfl := hH.symm
     refine APlan.f rfl rfl (fun _ => zP Tryz.call53 (evs2 rfl rfl) (afE (zI (num ds)) .shared (zO _) (by omega) (zI (10 ^ e.toNat)) .shared (zO _) (by omega) _)) ?_
     refine .s rfl rfl (zP Tryz.call52 (.cons (tm rfl) (.cons (tm rfl) (.cons zE (.cons zK .nil)))) (ajB neg (zI (val (zI (num ds)) * val (zI (10 ^ e.toNat)))) .shared (zO _) (by rw [zV, zV]; omega) 0 (by decide) false _)) ?_
     rintro _ _ ⟨rfl, hH⟩
     obtain rfl := hH.symm
     refine .p rfl rfl (zB (tm rfl)) (.nil ?_)
     refine Next.go ?_
     refine .ret ?_
     refine Next.rt ?_
     refine Ret.go (.cons (.tmp _ _ rfl) .nil) _ (Heap.le.refl _) ?_
     have e1 : yM neg (val (zI (val (zI (num ds)) * val (zI (10 ^ e.toNat))))) 0 false = bcS neg ds e := by
      unfold bcS agL
      rw [if_neg hc0, if_neg (by omega), if_pos (by omega), anA, zV, zV, zV]
     exact ⟨congrArg (fun w : Nat => AV.int .u64 (w : Int)) e1, rfl⟩
    ·try simp only [decide_eq_false_iff_not, Int.not_le] at hc34
     have hbe := agB (-e).toNat
     have htl := qE (n := 10 ^ (-e).toNat) (adB (by omega))
     have hbp := abH (-e).toNat
     have hbb := acS hbp
     have hnp := acS hn0
     have hk : rK (num ds) (10 ^ (-e).toNat) = yQ (10 ^ (-e).toNat) + 70 - yQ (num ds) := rfl
     have hup : num ds * 2 ^ rK (num ds) (10 ^ (-e).toNat) < BIG := adB (by rw [awZ hn0]; omega)
     have hul := qE hup
     have hql := qE (n := num ds * 2 ^ rK (num ds) (10 ^ (-e).toNat) / 10 ^ (-e).toNat) (Nat.lt_of_le_of_lt (Nat.div_le_self _ _) hup)
     refine .skip ?_
     refine Next.go ?_
     refine .sr (.p rfl (zG Tryz.underlying48 rfl Tryz.sizeOf3 (tm rfl)) (.p rfl (zF Tryz.isAgg3 (tm rfl)) (.p rfl (abB (tm rfl) (by omega)) (.cl rfl Tryz.call54 (evs1 rfl) (amY (-e).toNat (by omega) _ (by omega) (adB (by omega)) _) (.as rfl rfl (.nr (.p rfl (zB zE) (.ng ?_))))))))
     refine AWP.seqToL [(6, .int .i64 ((rK (num ds) (10 ^ (-e).toNat) : Nat) : Int))] [1, 2, 4, 5] ?_ ?_
     ·refine .sr (.mv rfl rfl (.cl rfl Tryz.call55 (evs1 rfl) (aeB (zI (10 ^ (-e).toNat)) .shared (zO _) (by omega) _) ?_))
      rw [zV]
      refine .mv rfl rfl (.cl rfl Tryz.call55 (evs1 rfl) (aeB (zI (num ds)) .shared (zO _) (by omega) _) ?_)
      rw [zV]
      refine .p rfl (zZ (tm rfl) (tm rfl) (by omega)) (.p rfl (zR (tm rfl) zE (by omega)) (.p rfl (yF (tm rfl) zE) (.ng ?_)))
      refine AWP.cond (tm rfl) (fun hc53 => ?_) (fun hc53 => ?_)
      ·try simp only [decide_eq_true_eq] at hc53
       refine .region (.mv rfl rfl (.cl rfl Tryz.call55 (evs1 rfl) (aeB (zI (10 ^ (-e).toNat)) .shared (zO _) (by omega) _) ?_))
       rw [zV]
       refine .mv rfl rfl (.cl rfl Tryz.call55 (evs1 rfl) (aeB (zI (num ds)) .shared (zO _) (by omega) _) ?_)
       rw [zV]
       refine .p rfl (zZ (tm rfl) (tm rfl) (by omega)) (.p rfl (zR (tm rfl) zE (by omega)) (.as rfl rfl (.nil ?_)))
       exact ⟨rfl, (yH rfl (by (rw [hk]; exact congrArg (AV.int .i64) (by omega))) (zA rfl (zA rfl (zA rfl (zA rfl zL))))), rfl⟩
      ·try simp only [decide_eq_false_iff_not, Int.not_lt] at hc53
       refine .skip ?_
       exact ⟨rfl, (yH rfl (by (rw [hk]; exact congrArg (AV.int .i64) (by omega))) (zA rfl (zA rfl (zA rfl (zA rfl zL))))), rfl⟩
     ·refine AWP.sub [(6, _), (1, _), (2, _), (4, _), (5, _)] (zA rfl (zA rfl (zA rfl (zA rfl (zA rfl zL))))) ?_
      refine .sr (.mv rfl rfl (.mv rfl rfl (.cl rfl Tryz.call57 (evs2 rfl rfl) (aqS (zI (num ds)) .shared (zO _) (by omega) (rK (num ds) (10 ^ (-e).toNat)) (by omega) _ rfl (by rw [zV]; exact hup) _) ?_)))
      rw [zV]
      refine .mv rfl rfl ?_
      refine .cl rfl Tryz.call56 (evs2 rfl rfl) (aqU (zI (num ds * 2 ^ rK (num ds) (10 ^ (-e).toNat))) .shared (zO _) (by omega) (zI (10 ^ (-e).toNat)) .shared (zO _) (by omega) (by rw [zV]; exact hbp) _) ?_
      rw [zV]
      rw [zV]
      refine .mv rfl rfl (.p rfl (zD (tm rfl) rfl) (.p rfl (zD (tm rfl) rfl) (.as rfl rfl (.as rfl rfl (.nr (.p rfl (zG Tryz.underlying48 rfl Tryz.sizeOf4 (tm rfl)) (.p rfl (zF Tryz.isAgg4 (tm rfl)) (.mv rfl rfl ?_))))))))
      refine .mv rfl rfl (.p rfl (abB (tm rfl) (by omega)) (.mv rfl rfl (.p rfl (zW Tryz.underlying94 (tm rfl)) (.p rfl (yF (tm rfl) zE) ?_))))
      refine .cl rfl Tryz.call52 (.cons (tm rfl) (evs3 rfl rfl rfl)) (ajB neg (zI (num ds * 2 ^ rK (num ds) (10 ^ (-e).toNat) / (10 ^ (-e).toNat))) .shared (zO _) (by omega) (-((rK (num ds) (10 ^ (-e).toNat) : Nat) : Int)) (by omega) _ _) ?_
      refine .as rfl rfl (.ng (.ret ?_))
      refine Ret.go (.cons (.tmp _ _ rfl) .nil) _ (Heap.le.refl _) ?_
      have hrr := rat_read (m := num ds) (k := e) hn0 (by omega) (by omega)
      unfold aqR at hrr
      have e1 : yM neg (val (zI (num ds * 2 ^ rK (num ds) (10 ^ (-e).toNat) / 10 ^ (-e).toNat))) (-((rK (num ds) (10 ^ (-e).toNat) : Nat) : Int)) (decide ((0 : Int) < ((zI (num ds * 2 ^ rK (num ds) (10 ^ (-e).toNat) % 10 ^ (-e).toNat)).length : Int))) = bcS neg ds e := by
       unfold bcS
       rw [if_neg hc0, if_neg (by omega), anA, zV, azN, hrr]
      exact ⟨congrArg (fun w : Nat => AV.int .u64 (w : Int)) e1, rfl⟩

theorem bcR {neg : Bool} {ds : List UInt8} {e : Int} (hr : qG ds e = true) : bcS neg ds e = qU neg ds e := by
 unfold bcS qU
 congr 1
 by_cases h0 : ds = []
 ·unfold afB; rw [if_pos (.inl h0), if_pos (.inl h0)]
 by_cases h1 : (ds.length : Int) + e < -400
 ·unfold afB; rw [if_pos (.inr h1), if_pos (.inr (by omega))]
 by_cases h2 : 400 < (ds.length : Int) + e
 ·unfold afB; rw [if_neg (by simp [h0, h1]), if_pos h2, if_neg (by simp [h0]; omega), if_pos (by omega)]
 ·rw [if_neg (by simp [h0, h1]), if_neg h2, bbX hr h0 ⟨by omega, by omega⟩]
end Go.Proofs.YtfkeflcdadlmdaaGreatDoor
