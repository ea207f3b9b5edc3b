import Derived.Test.YtfkeflcdadlmdaaGreatDoorSsk
import Derived.Test.YtfkeflcdadlmdaaGreatDoorN2
import Derived.Test.YtfkeflcdadlmdaaGreatDoorN1
import Derived.Test.YtfkeflcdadlmdaaGreatDoorS6
namespace Go.Proofs.YtfkeflcdadlmdaaGreatDoor
open Go Go.RowKit

theorem baK {x c : Nat} (hx : x < 4294967296) (hc : c ≤ 1) : 2 * x + c < 18446744073709551616 ∧ (2 * x + c) / 4294967296 ≤ 1 := by omega
theorem ayP {zs xs : List Nat} {i c : Nat} (hi : zs.length = i) {d : Nat} (h : val zs + 4294967296 ^ i * c = 2 * val (xs.take i) + d) :
  val (zs ++ [(2 * xs.getD i 0 + c) % 4294967296]) + 4294967296 ^ (i + 1) * ((2 * xs.getD i 0 + c) / 4294967296) = 2 * val (xs.take (i + 1)) + d := by
 rw [qR, hi, qC, Nat.pow_succ]
 simp only [val, Nat.mul_zero, Nat.add_zero]
 have e := Nat.mod_add_div (2 * xs.getD i 0 + c) 4294967296
 have e2 : 4294967296 ^ i * ((2 * xs.getD i 0 + c) % 4294967296) + 4294967296 ^ i * 4294967296 * ((2 * xs.getD i 0 + c) / 4294967296) = 2 * (4294967296 ^ i * xs.getD i 0) + 4294967296 ^ i * c := by
  rw [Nat.mul_assoc, ← Nat.mul_add, e, Nat.mul_add, Nat.mul_left_comm]
 omega
theorem bit_limb {xs : List Nat} (hx : Limbs xs) (i : Nat) : xs.getD (i / 32) 0 / 2 ^ (i % 32) % 2 = val xs / 2 ^ i % 2 := by
 have key : ∀ (xs : List Nat) (j : Nat), Limbs xs → xs.getD j 0 = val xs / 4294967296 ^ j % 4294967296 := by
  intro xs
  induction xs with
  | nil => intro j _; simp [val]
  | cons x xs ih =>
   intro j hl
   obtain ⟨h1, h2⟩ := hl.cons
   cases j with
   | zero => rw [Nat.pow_zero, Nat.div_one, val, Nat.add_mul_mod_self_left, Nat.mod_eq_of_lt h1]; rfl
   | succ j =>
    rw [List.getD_cons_succ, ih j h2, Nat.pow_succ, Nat.mul_comm (4294967296 ^ j), ← Nat.div_div_eq_div_mul, val, Nat.add_mul_div_left _ _ (by decide), Nat.div_eq_of_lt h1, Nat.zero_add]
 rw [key xs _ hx]
 have e : (4294967296 : Nat) = 2 ^ 32 := by decide
 rw [e, ← Nat.pow_mul]
 have h32 : i % 32 < 32 := Nat.mod_lt _ (by decide)
 generalize val xs = v
 have hi : i = 32 * (i / 32) + i % 32 := (Nat.div_add_mod i 32).symm
 generalize i / 32 = a at *
 generalize i % 32 = r at *
 subst hi
 rw [Nat.pow_add, ← Nat.div_div_eq_div_mul]
 generalize v / 2 ^ (32 * a) = w
 rw [show (32 : Nat) = r + (32 - r) by omega, Nat.pow_add, Nat.mod_mul, Nat.add_mul_div_left _ _ (Nat.pow_pos (by decide)), Nat.div_eq_of_lt (Nat.mod_lt _ (Nat.pow_pos (by decide))), Nat.zero_add]
 rw [show 32 - r = (31 - r) + 1 by omega, Nat.pow_succ, Nat.mul_comm, Nat.mod_mul_right_mod]

def apH (xs : List Nat) (tl : Tail) (H : Heap) : Nat → Env → Heap → Prop := fun k env H1 => ∃ n : Nat, n ≤ xs.length ∧ qD (xs.take n) = qD xs ∧ env = [(0, .slice 1 (U .u32 xs) tl), (3, .int .i64 (n : Int))] ∧ H = H1 ∧ k = n

set_option maxRecDepth 100000 in
theorem aaC (xs : List Nat) (tl : Tail) (hx : Limbs xs) (hl : xs.length ≤ 1000000) (H : Heap) : ACall Tryz.prog 89 [.slice 1 (U .u32 xs) tl] H (fun y H' => y = aaG (val xs) ∧ H' = H) := by
 refine ACall.of_body Tryz.func89 rfl Tryz.ntmps89 Tryz.results89 rfl ?_
 refine .sr ?_
 refine .p rfl (zB (qI (sz := 1) (tl := .full))) ?_
 refine .nr (.mv rfl rfl (.p rfl (zV Tryz.underlying94 (tm rfl)) (.as rfl rfl (.ng (.seq (.block ?_))))))
 refine AWP.loopW (apH xs tl H) (xs.length) ⟨xs.length, Nat.le_refl _, by rw [List.take_length], rfl, rfl, rfl⟩ (zA rfl (zA rfl zK)) (Heap.le.refl _) ?_
 rintro _ _ _ ⟨n, hn, hr, rfl, rfl, hk⟩
 refine .seq ?_
 refine AWP.seqTo 15 (.bool (decide (0 < (n : Int)) && decide (((xs.getD (n - 1) 0 : Nat) : Int) = 0))) [0, 3] ?_ ?_
 ·-- region 2
  refine .region (.mv rfl rfl (.p rfl (yC (tm rfl) zD) (.mv rfl rfl ?_)))
  refine zP (t := 8) rfl (fun hg8 => ?_) (fun hg8 => ?_)
  ·have hh8 := hg8; try simp only [decide_eq_true_eq] at hh8
   refine .gp rfl rfl rfl (by assumption) (zE (tm rfl)) (.gp rfl rfl rfl (by assumption) (zE (tm rfl)) (.gp rfl rfl rfl (by assumption) (zW (tm rfl) zD (by omega)) (.gp rfl rfl rfl (by assumption) (yD (n - 1) Tryz.underlying94 Tryz.sizeOf112 (tm rfl) (tm rfl) (by omega) (by omega)) (.gp rfl rfl rfl (by assumption) (zF Tryz.isAgg112 (tm rfl)) (.gp rfl rfl rfl (by assumption) (zX (tm rfl) (zI 0)) (.p rfl (zO (tm rfl) (by assumption) (tm rfl)) (.nil ?_)))))))
   exact ⟨rfl, yP rfl (by simp_all) (zA rfl (zA rfl zK)), rfl⟩
  ·have hh8 := hg8; try simp only [decide_eq_false_iff_not, Int.not_lt] at hh8
   refine .gn rfl rfl rfl (by assumption) (.gn rfl rfl rfl (by assumption) (.gn rfl rfl rfl (by assumption) (.gn rfl rfl rfl (by assumption) (.gn rfl rfl rfl (by assumption) (.gn rfl rfl rfl (by assumption) (.p rfl (zM (tm rfl) (by assumption) zL) (.nil ?_)))))))
   exact ⟨rfl, yP rfl (by simp_all) (zA rfl (zA rfl zK)), rfl⟩
 ·refine AWP.sub [(15, _), (0, _), (3, _)] (zA rfl (zA rfl (zA rfl zK))) ?_
  refine AWP.cond (tm rfl) (fun hc15 => ?_) (fun hc15 => ?_)
  ·try simp only [decide_eq_true_eq, decide_eq_false_iff_not, Bool.not_eq_true', Bool.not_eq_false', Int.not_lt, Int.not_le, ne_eq, Decidable.not_not] at hc15
   simp only [Bool.and_eq_true, decide_eq_true_eq] at hc15
   refine .skip ?_
   refine Next.go ?_
   refine .block (.region (.mv rfl rfl (.p rfl (zW (tm rfl) zD (by omega)) (.as rfl rfl (.nil ?_)))))
   refine Block.go ?_
   refine Next.go ?_
   have hs := abI (xs := xs) (k := n - 1) (by omega)
   rw [show n - 1 + 1 = n by omega, if_pos (by omega)] at hs
   refine Round.mk (J := apH xs tl H) ⟨n - 1, by omega, by rw [← hs, hr], rfl, rfl, rfl⟩ (zA rfl (yE rfl (by rw [show ((n : Int) - 1) = ((n - 1 : Nat) : Int) by omega]) zK)) (Heap.le.refl _) (by omega)
  ·try simp only [decide_eq_true_eq, decide_eq_false_iff_not, Bool.not_eq_true', Bool.not_eq_false', Int.not_lt, Int.not_le, ne_eq, Decidable.not_not] at hc15
   simp only [Bool.and_eq_false_iff, decide_eq_false_iff_not] at hc15
   refine .exit ?_
   refine Next.ex ?_
   refine Next.ex ?_
   refine Block.hit ?_
   refine Next.go ?_
   refine .sr (.e rfl (apB Tryz.underlying94 Tryz.sizeOf112 Tryz.zeroValue112 ) (.mv rfl rfl (.mv rfl rfl (.p rfl (abZ (_) Tryz.underlying94 Tryz.sizeOf112 (tm rfl) (tm rfl) rfl (by omega)) ?_))))
   refine .e rfl (ajA Tryz.underlying94 Tryz.underlying94 Tryz.sizeOf112 Tryz.typeInfo112 Tryz.zeroValue112 rfl (by decide) (tm rfl) (tm rfl) (by show (_ + _) * 4 ≤ _; simp only [acW, List.length_take, List.length_nil]; omega) (by repeat' (first | exact yO _ | exact aaT | exact aeE ⟨rfl, rfl⟩ aaT | exact aaI (yO _) | exact aaH (yO _) | refine aaY ?_ ?_ | exact (fun _ h => by simp at h))) (by repeat' (first | exact yO _ | exact aaT | exact aeE ⟨rfl, rfl⟩ aaT | exact aaI (yO _) | exact aaH (yO _) | refine aaY ?_ ?_ | exact aiF _ _))) ?_
   refine .as rfl rfl (.ng (.ret ?_))
   refine Ret.go (.cons (.tmp _ _ rfl) .nil) _ (Heap.le.refl _) ?_
   refine ⟨?_, rfl⟩
   have hq : n = qD xs := by
    rcases Nat.eq_zero_or_pos n with h0 | h0
    ·subst h0; rw [← hr]; rfl
    ·have hs := abI (xs := xs) (k := n - 1) (by omega)
     rw [show n - 1 + 1 = n by omega, if_neg (by omega), hr] at hs
     exact hs.symm
   rw [hq, List.nil_append, acF hx]; rfl

set_option maxRecDepth 100000 in
theorem bdR (v : Nat) (hv : v < 18446744073709551616) (H : Heap) : ACall Tryz.prog 128 [.int .u64 (v : Int)] H (fun y H' => y = aaG v ∧ H' = H) := by
 refine ACall.of_body Tryz.func128 rfl Tryz.ntmps128 Tryz.results128 rfl ?_
 refine .sr ?_
 refine .p rfl (zB (qI (sz := 1) (tl := .full))) ?_
 refine .nr (.mv rfl rfl (.p rfl (qW (tm rfl) (zI 4294967296) (by omega)) (.p rfl (yN Tryz.underlying30 Tryz.underlying112 rfl (tm rfl)) (.mv rfl rfl (.p rfl (yQ (tm rfl) (zI 32) (by assumption)) (.p rfl (yN Tryz.underlying30 Tryz.underlying112 rfl (tm rfl)) (.e rfl (aeX Tryz.underlying94 Tryz.sizeOf112 Tryz.zeroValue112 rfl (tm rfl) (.inl rfl) ⟨rfl, rfl⟩ (tm rfl) (.inl rfl) ⟨rfl, rfl⟩) ?_)))))))
 refine .cl rfl Tryz.call89 (evs1 rfl) (aaC [v % 4294967296 % 2 ^ IntKind.u32.bits, v / 2 ^ 32 % 2 ^ IntKind.u32.bits] .full (Limbs.mk (by simp only [IntKind.bits]; omega) (Limbs.mk (by simp only [IntKind.bits]; omega) Limbs.nil)) (by simp) _) ?_
 refine .as rfl rfl (.ng (.ret ?_))
 refine Ret.go (.cons (.tmp _ _ rfl) .nil) _ (Heap.le.refl _) ?_
 refine ⟨?_, rfl⟩
 show aaG _ = _
 congr 1
 simp only [val, IntKind.bits]; omega

set_option maxRecDepth 100000 in
theorem adL (xs : List Nat) (tl : Tail) (hx : Limbs xs) (hl : xs.length ≤ 1000000) (i : Nat) (q : Int) (hq : q = (i : Int)) (H : Heap) : ACall Tryz.prog 129 [.slice 1 (U .u32 xs) tl, .int .i64 q] H (fun y H' => y = .int .u64 ((xs.getD i 0 : Nat) : Int) ∧ H' = H) := by
 subst hq
 have hg := hx.getD i
 refine ACall.of_body Tryz.func129 rfl Tryz.ntmps129 Tryz.results129 rfl ?_
 refine .sr (.p rfl (zB (zI 0)) (.ng (.seq ?_)))
 refine AWP.seqTo 12 (.bool (decide ((i : Int) < 0) || decide ((xs.length : Int) ≤ (i : Int)))) [0, 1, 4] ?_ ?_
 ·-- region 1
  refine .region (.mv rfl rfl (.p rfl (zZ (tm rfl) zD) (.mv rfl rfl ?_)))
  refine zP (t := 7) rfl (fun hg7 => ?_) (fun hg7 => ?_)
  ·have hh7 := hg7; try simp only [decide_eq_true_eq] at hh7
   refine .gn rfl rfl rfl (by assumption) (.gn rfl rfl rfl (by assumption) (.gn rfl rfl rfl (by assumption) (.gn rfl rfl rfl (by assumption) (.p rfl (zO (tm rfl) (by assumption) zL) (.nil ?_)))))
   exact ⟨rfl, yP rfl (by (simp [*]; done)) (zA rfl (zA rfl (zA rfl zK))), rfl⟩
  ·have hh7 := hg7; try simp only [decide_eq_false_iff_not, Int.not_lt] at hh7
   refine .gp rfl rfl rfl (by rfl) (zE (tm rfl)) (.gp rfl rfl rfl (by rfl) (zE (tm rfl)) (.gp rfl rfl rfl (by rfl) (zV Tryz.underlying94 (tm rfl)) (.gp rfl rfl rfl (by rfl) (yW (tm rfl) (tm rfl)) (.p rfl (zM (tm rfl) (by rfl) (tm rfl)) (.nil ?_)))))
   exact ⟨rfl, yP rfl (by rfl) (zA rfl (zA rfl (zA rfl zK))), rfl⟩
 ·refine AWP.sub [(12, _), (0, _), (1, _), (4, _)] (zA rfl (zA rfl (zA rfl (zA rfl zK)))) ?_
  refine AWP.cond (tm rfl) (fun hc12 => ?_) (fun hc12 => ?_)
  ·try simp only [decide_eq_true_eq, decide_eq_false_iff_not, Bool.not_eq_true', Bool.not_eq_false', Int.not_lt, Int.not_le, ne_eq, Decidable.not_not] at hc12
   simp only [Bool.or_eq_true, decide_eq_true_eq] at hc12
   refine .sr (.p rfl (zB (zI 0)) (.ng (.ret ?_)))
   refine Next.rt ?_
   refine Ret.go (.cons (.tmp _ _ rfl) .nil) _ (Heap.le.refl _) ?_
   refine ⟨?_, rfl⟩
   rw [adY (by omega)]; rfl
  ·try simp only [decide_eq_true_eq, decide_eq_false_iff_not, Bool.not_eq_true', Bool.not_eq_false', Int.not_lt, Int.not_le, ne_eq, Decidable.not_not] at hc12
   simp only [Bool.or_eq_false_iff, decide_eq_false_iff_not] at hc12
   refine .skip ?_
   refine Next.go ?_
   refine .sr (.mv rfl rfl (.mv rfl rfl (.p rfl (yD (i) Tryz.underlying94 Tryz.sizeOf112 (tm rfl) (tm rfl) (by omega) (by omega)) (.p rfl (zF Tryz.isAgg112 (tm rfl)) (.p rfl (yA Tryz.underlying112 Tryz.underlying30 (tm rfl) (wrapN64 (by omega))) (.as rfl rfl (.ng (.ret ?_))))))))
   refine Ret.go (.cons (.tmp _ _ rfl) .nil) _ (Heap.le.refl _) ?_
   exact ⟨rfl, rfl⟩

set_option maxRecDepth 100000 in
theorem aeJ (xs : List Nat) (tl : Tail) (hx : Limbs xs) (hl : xs.length ≤ 1000000) (i : Nat) (hi : i ≤ 1000000000) (q : Int) (hq : q = (i : Int)) (H : Heap) : ACall Tryz.prog 87 [.slice 1 (U .u32 xs) tl, .int .i64 q] H (fun y H' => y = .bool (decide (((val xs / 2 ^ i % 2 : Nat) : Int) = 1)) ∧ H' = H) := by
 subst hq
 have hg := hx.getD (i / 32)
 refine ACall.of_body Tryz.func87 rfl Tryz.ntmps87 Tryz.results87 rfl ?_
 refine .sr (.p rfl (zB zL) (.nr (.mv rfl rfl (.mv rfl rfl (.p rfl (abE (tm rfl) (zI 32) (by omega) (by omega)) (.cl rfl Tryz.call129 (evs2 rfl rfl) (adL _ _ (by assumption) (by assumption) _ _ rfl _) (.mv rfl rfl (.p rfl (adN (tm rfl) (zI 32) (by omega)) ?_))))))))
 refine .p rfl (yA Tryz.underlying3 Tryz.underlying90 (tm rfl) (wrapN64 (by omega))) (.p rfl (yQ (tm rfl) (tm rfl) (by omega)) (.p rfl (qW (tm rfl) (zI 2) (by omega)) (.p rfl (zX (tm rfl) (zI 1)) (.as rfl rfl (.ng (.ret ?_))))))
 refine Ret.go (.cons (.tmp _ _ rfl) .nil) _ (Heap.le.refl _) ?_
 refine ⟨?_, rfl⟩
 rw [← bit_limb hx]; rfl
theorem rTrimX {zs : List Nat} (c : Nat) (m : Int) (tl : Tail) (hz : Limbs zs) (hm : m = (c : Int)) (hc : c < 4294967296) (hl : zs.length + 1 ≤ 1000000) (H : Heap) :
  ACall Tryz.prog 89 [.slice 1 (U .u32 zs ++ [.int .u32 m]) tl] H (fun y H' => y = aaG (val zs + 4294967296 ^ zs.length * c) ∧ H' = H) := by
 subst hm
 have := aaC (zs ++ [c]) tl (hz.append (Limbs.mk hc Limbs.nil)) (by simp; omega) H
 rw [← aqU, qR] at this
 simp only [val, Nat.mul_zero, Nat.add_zero] at this
 exact this
theorem bgI {zs : List Nat} {m : Int} (c : Nat) (hm : m = (c : Int)) : U .u32 zs ++ [.int .u32 m] = U .u32 (zs ++ [c]) := by
 subst hm; rw [← aqU]; rfl
theorem anI : (2 : Nat) ^ 32 = 4294967296 := by decide
theorem aqC {zs : List Nat} {c : Nat} (h : Limbs zs) (hc : c < 4294967296) : Limbs (zs ++ [c]) := h.append (Limbs.mk hc Limbs.nil)

def rtw_J (xs : List Nat) (tl : Tail) (b : Bool) (H : Heap) : Nat → Env → Heap → Prop := fun k env H1 => ∃ (i t : Nat) (zs : List Nat) (c : Nat), i ≤ xs.length ∧ zs.length = i ∧ Limbs zs ∧ c ≤ 1 ∧ val zs + 4294967296 ^ i * c = 2 * val (xs.take i) + b.toNat ∧ env = [(0, .slice 1 (U .u32 xs) tl), (5, .slice 1 (U .u32 zs) (.own t)), (6, .int .u64 (c : Int)), (7, .int .i64 (i : Int))] ∧ H.le H1 ∧ H1.toks t = true ∧ H.toks t = false ∧ k = xs.length - i

set_option maxRecDepth 100000 in
theorem ajH (xs : List Nat) (tl : Tail) (hx : Limbs xs) (hl : xs.length ≤ 900000) (b : Bool) (H : Heap) : ACall Tryz.prog 90 [.slice 1 (U .u32 xs) tl, .bool b] H (fun y H' => y = aaG (2 * val xs + b.toNat) ∧ H' = H) := by
 have hle0 := Heap.le.refl H
 refine ACall.of_body Tryz.func90 rfl Tryz.ntmps90 Tryz.results90 rfl ?_
 refine .sr ?_
 refine .p rfl (zB (qI (sz := 1) (tl := .full))) ?_
 refine .nr ?_
 refine .p rfl (zB (qI (sz := 1) (tl := .full))) ?_
 refine .nr (.p rfl (zB (zI 0)) (.ng ?_))
 refine AWP.seqToL [(6, .int .u64 ((b.toNat : Nat) : Int))] [0, 4, 5] ?_ ?_
 ·refine .sr (.mv rfl rfl (.ng ?_))
  refine AWP.cond (tm rfl) (fun hc9 => ?_) (fun hc9 => ?_)
  ·try simp only [decide_eq_true_eq, decide_eq_false_iff_not, Bool.not_eq_true', Bool.not_eq_false', Int.not_lt, Int.not_le, ne_eq, Decidable.not_not] at hc9
   refine .region (.p rfl (zB (zI 1)) (.nil ?_))
   exact ⟨rfl, (yE rfl (by simp [hc9]) (zA rfl (zA rfl (zA rfl zK)))), rfl⟩
  ·try simp only [decide_eq_true_eq, decide_eq_false_iff_not, Bool.not_eq_true', Bool.not_eq_false', Int.not_lt, Int.not_le, ne_eq, Decidable.not_not] at hc9
   refine .skip ?_
   exact ⟨rfl, (yE rfl (by simp [hc9]) (zA rfl (zA rfl (zA rfl zK)))), rfl⟩
 ·refine AWP.sub [(6, _), (0, _), (4, _), (5, _)] (zA rfl (zA rfl (zA rfl (zA rfl zK)))) ?_
  refine .seq (.sr (.p rfl (zB zD) (.ng (.block ?_))))
  refine AWP.tag (t := 5) rfl (fun u5 hu5 => ?_)
  have hfu5 := Heap.fresh_of hle0 hu5
  have hleu5 := Heap.le_in hle0 u5
  refine AWP.loopW (rtw_J xs tl b H) (xs.length) ⟨0, u5, [], b.toNat, Nat.zero_le _, rfl, Limbs.nil, by cases b <;> decide, by simp [val], rfl, hleu5, Heap.toks_live_same _ _, hfu5, by omega⟩ (zA rfl (zA rfl (zA rfl (zA rfl zK)))) (Heap.le.refl _) ?_
  rintro _ _ H1 ⟨i, t, zs, c, hi, hzl, hz, hc, hv, rfl, hle, hlive, hfr, rfl⟩
  have hg := hx.getD i
  obtain ⟨hp1, hp2⟩ := baK hg hc
  refine .seq (.sr (.mv rfl rfl (.mv rfl rfl (.p rfl (zV Tryz.underlying94 (tm rfl)) (.p rfl (zZ (tm rfl) (tm rfl)) (.ng ?_))))))
  refine AWP.cond (tm rfl) (fun hc13 => ?_) (fun hc13 => ?_)
  ·try simp only [decide_eq_true_eq] at hc13
   refine .skip ?_
   refine Next.go ?_
   refine .seq (.block (.sr (.mv rfl rfl (.mv rfl rfl (.p rfl (yD (_) Tryz.underlying94 Tryz.sizeOf112 (tm rfl) (tm rfl) rfl (by omega)) (.p rfl (zF Tryz.isAgg112 (tm rfl)) (.p rfl (yA Tryz.underlying112 Tryz.underlying30 (tm rfl) (wrapN64 (by omega))) (.p rfl (acI (zI 2) (tm rfl) (by omega)) ?_))))))))
   refine .mv rfl rfl (.p rfl (yK (tm rfl) (tm rfl) (by assumption)) (.as rfl rfl (.nr (.mv rfl rfl (.mv rfl rfl (.p rfl (qW (tm rfl) (zI 4294967296) (by omega)) (.p rfl (yN Tryz.underlying30 Tryz.underlying112 rfl (tm rfl)) (.e rfl (qV Tryz.underlying94 Tryz.sizeOf112 Tryz.zeroValue112 rfl (tm rfl) (.inl rfl) ⟨rfl, rfl⟩) ?_))))))))
   refine .s rfl (abD Tryz.underlying94 Tryz.underlying94 Tryz.sizeOf112 Tryz.typeInfo112 Tryz.zeroValue112 rfl (by decide) (tm rfl) (tm rfl) (by exact .own _ (by assumption)) (by show (_ + _) * 4 ≤ _; simp only [acW, List.length_nil, List.length_cons]; omega) (by repeat' (first | exact yO _ | exact aaT | exact aeE ⟨rfl, rfl⟩ aaT | exact aaI (yO _) | exact aaH (yO _) | refine aaY ?_ ?_ | exact aiF _ _)) (by repeat' (first | exact yO _ | exact aaT | exact aeE ⟨rfl, rfl⟩ aaT | exact aaI (yO _) | exact aaH (yO _) | refine aaY ?_ ?_))) ?_
   rintro _ _ ⟨t29, ht29, rfl, hH⟩
   obtain rfl := hH.symm
   have hf29 := Heap.fresh_of hle ht29
   have hle29 := Heap.le_in (Heap.le_out (t := t) hle (by assumption)) t29
   refine .as rfl rfl (.ng (.region (.mv rfl rfl (.p rfl (yQ (tm rfl) (zI 32) (by assumption)) (.as rfl rfl (.nil ?_))))))
   refine Block.go ?_
   refine Next.go ?_
   refine .region (.mv rfl rfl (.p rfl (zS (tm rfl) zD (by omega)) (.as rfl rfl (.ng ?_))))
   refine Round.mk (J := rtw_J xs tl b H) ⟨i + 1, t29, zs ++ [(2 * xs.getD i 0 + c) % 4294967296], (2 * xs.getD i 0 + c) / 4294967296, by omega, by simp [hzl], aqC hz (Nat.mod_lt _ (by decide)), hp2, ayP hzl hv, rfl, hle29, Heap.toks_live_same _ _, hf29, rfl⟩ (zA rfl (yE rfl (acM (bgI _ (by simp only [IntKind.bits]; rw [Nat.mod_eq_of_lt (Nat.mod_lt _ (by decide))]))) (zA rfl (zA rfl zK)))) (Heap.le.refl _) (by omega)
  ·try simp only [decide_eq_false_iff_not, Int.not_lt] at hc13
   refine .exit ?_
   refine Next.ex ?_
   refine Next.ex ?_
   refine Block.hit ?_
   refine Next.go ?_
   refine .sr (.mv rfl rfl (.mv rfl rfl (.p rfl (yN Tryz.underlying30 Tryz.underlying112 rfl (tm rfl)) (.e rfl (qV Tryz.underlying94 Tryz.sizeOf112 Tryz.zeroValue112 rfl (tm rfl) (.inl rfl) ⟨rfl, rfl⟩) ?_))))
   refine .s rfl (abD Tryz.underlying94 Tryz.underlying94 Tryz.sizeOf112 Tryz.typeInfo112 Tryz.zeroValue112 rfl (by decide) (tm rfl) (tm rfl) (by exact .own _ (by assumption)) (by show (_ + _) * 4 ≤ _; simp only [acW, List.length_nil, List.length_cons]; omega) (by repeat' (first | exact yO _ | exact aaT | exact aeE ⟨rfl, rfl⟩ aaT | exact aaI (yO _) | exact aaH (yO _) | refine aaY ?_ ?_ | exact aiF _ _)) (by repeat' (first | exact yO _ | exact aaT | exact aeE ⟨rfl, rfl⟩ aaT | exact aaI (yO _) | exact aaH (yO _) | refine aaY ?_ ?_))) ?_
   rintro _ _ ⟨t36, ht36, rfl, hH⟩
   obtain rfl := hH.symm
   have hf36 := Heap.fresh_of hle ht36
   have hle36 := Heap.le_in (Heap.le_out (t := t) hle (by assumption)) t36
   refine .as rfl rfl (.nr (.mv rfl rfl (.cl rfl Tryz.call89 (evs1 rfl) (rTrimX c _ _ hz (by simp only [IntKind.bits]; omega) (by omega) (by omega) _) (.as rfl rfl (.ng (.ret ?_))))))
   refine Ret.go (.cons (.tmp _ _ rfl) .nil) _ (hle36) ?_
   refine ⟨?_, rfl⟩
   have hix : i = xs.length := by omega
   rw [hzl, hv, hix, List.take_length]; rfl
theorem bdW {zs xs ys : List Nat} {i c : Nat} (hi : zs.length = i) (h : val zs + 4294967296 ^ i * c = val (xs.take i) + val (ys.take i)) :
  val (zs ++ [(xs.getD i 0 + ys.getD i 0 + c) % 4294967296]) + 4294967296 ^ (i + 1) * ((xs.getD i 0 + ys.getD i 0 + c) / 4294967296) = val (xs.take (i + 1)) + val (ys.take (i + 1)) := by
 rw [qR, hi, qC, qC, Nat.pow_succ]
 simp only [val, Nat.mul_zero, Nat.add_zero]
 have e := Nat.mod_add_div (xs.getD i 0 + ys.getD i 0 + c) 4294967296
 have e2 : 4294967296 ^ i * ((xs.getD i 0 + ys.getD i 0 + c) % 4294967296) + 4294967296 ^ i * 4294967296 * ((xs.getD i 0 + ys.getD i 0 + c) / 4294967296) = 4294967296 ^ i * xs.getD i 0 + 4294967296 ^ i * ys.getD i 0 + 4294967296 ^ i * c := by
  rw [Nat.mul_assoc, ← Nat.mul_add, e, Nat.mul_add, Nat.mul_add]
 omega
theorem azX {x y c : Nat} (hx : x < 4294967296) (hy : y < 4294967296) (hc : c ≤ 1) : (x + y + c) / 4294967296 ≤ 1 := by omega
theorem bfA {zs xs ys : List Nat} {i c m d : Nat} (hi : zs.length = i) (h : val zs + val (ys.take i) = val (xs.take i) + 4294967296 ^ i * c) (hm : m + (ys.getD i 0 + c) = xs.getD i 0 + 4294967296 * d) :
  val (zs ++ [m]) + val (ys.take (i + 1)) = val (xs.take (i + 1)) + 4294967296 ^ (i + 1) * d := by
 rw [qR, hi, qC, qC, Nat.pow_succ]
 simp only [val, Nat.mul_zero, Nat.add_zero]
 have e2 : 4294967296 ^ i * m + 4294967296 ^ i * ys.getD i 0 + 4294967296 ^ i * c = 4294967296 ^ i * xs.getD i 0 + 4294967296 ^ i * 4294967296 * d := by
  rw [Nat.mul_assoc, ← Nat.mul_add, ← Nat.mul_add, ← Nat.mul_add]
  congr 1; omega
 omega
theorem less_end {zs xs ys : List Nat} {n c : Nat} (hn : xs.length = n) (hzl : zs.length = n) (hz : Limbs zs) (hx : Limbs xs) (hc : c ≤ 1) (h : val zs + val (ys.take n) = val xs + 4294967296 ^ n * c) (hle : val ys ≤ val xs) : val zs = val xs - val ys := by
 have h1 := adU hz
 have h2 := adU hx
 rw [hzl] at h1
 rw [hn] at h2
 have h3 : val (ys.take n) = val ys := by
  rcases Nat.lt_or_ge n ys.length with hl | hl
  ·have h4 : val ys = val (ys.take n) + 4294967296 ^ n * val (ys.drop n) := by
    have := qR (ys.take n) (ys.drop n)
    rw [List.take_append_drop, List.length_take, Nat.min_eq_left (by omega)] at this
    exact this
   rcases Nat.eq_zero_or_pos (val (ys.drop n)) with h5 | h5
   ·rw [h5] at h4; omega
   ·have h6 : 4294967296 ^ n * 1 ≤ 4294967296 ^ n * val (ys.drop n) := Nat.mul_le_mul_left _ h5
    omega
  ·rw [List.take_of_length_le hl]
 rcases Nat.eq_zero_or_pos c with h5 | h5
 ·rw [h5] at h; omega
 ·have : c = 1 := by omega
  rw [this] at h; omega

def bdD (xs ys : List Nat) (tl tl2 : Tail) (H : Heap) : Nat → Env → Heap → Prop := fun k env H1 => ∃ (i t : Nat) (zs : List Nat) (c : Nat), zs.length = i ∧ i ≤ 100000 ∧ Limbs zs ∧ c ≤ 1 ∧ val zs + 4294967296 ^ i * c = val (xs.take i) + val (ys.take i) ∧ env = [(0, .slice 1 (U .u32 xs) tl), (1, .slice 1 (U .u32 ys) tl2), (5, .slice 1 (U .u32 zs) (.own t)), (6, .int .u64 (c : Int)), (7, .int .i64 (i : Int))] ∧ H.le H1 ∧ H1.toks t = true ∧ H.toks t = false ∧ k = xs.length + ys.length - i

set_option maxRecDepth 100000 in
theorem auK (xs : List Nat) (tl : Tail) (hx : Limbs xs) (hl : xs.length ≤ 100000) (ys : List Nat) (tl2 : Tail) (hy : Limbs ys) (hm : ys.length ≤ 100000) (H : Heap) : ACall Tryz.prog 85 [.slice 1 (U .u32 xs) tl, .slice 1 (U .u32 ys) tl2] H (fun y H' => y = aaG (val xs + val ys) ∧ H' = H) := by
 have hle0 := Heap.le.refl H
 refine ACall.of_body Tryz.func85 rfl Tryz.ntmps85 Tryz.results85 rfl ?_
 refine .sr ?_
 refine .p rfl (zB (qI (sz := 1) (tl := .full))) ?_
 refine .nr ?_
 refine .p rfl (zB (qI (sz := 1) (tl := .full))) ?_
 refine .nr (.p rfl (zB (zI 0)) (.ng (.seq (.sr (.p rfl (zB zD) (.ng (.block ?_)))))))
 refine AWP.tag (t := 5) rfl (fun u5 hu5 => ?_)
 have hfu5 := Heap.fresh_of hle0 hu5
 have hleu5 := Heap.le_in hle0 u5
 refine AWP.loopW (bdD xs ys tl tl2 H) (xs.length + ys.length) ⟨0, u5, [], 0, rfl, Nat.zero_le _, Limbs.nil, by decide, by simp [val], rfl, hleu5, Heap.toks_live_same _ _, hfu5, by omega⟩ (zA rfl (zA rfl (zA rfl (zA rfl (zA rfl zK))))) (Heap.le.refl _) ?_
 rintro _ _ H1 ⟨i, t, zs, c, hzl, hi, hz, hc, hv, rfl, hle, hlive, hfr, rfl⟩
 refine .seq ?_
 refine AWP.seqTo 18 (.bool (decide ((i : Int) < (xs.length : Int)) || decide ((i : Int) < (ys.length : Int)))) [0, 1, 5, 6, 7] ?_ ?_
 ·-- region 4
  refine .region (.mv rfl rfl (.mv rfl rfl (.p rfl (zV Tryz.underlying94 (tm rfl)) (.p rfl (zZ (tm rfl) (tm rfl)) (.mv rfl rfl ?_)))))
  refine zP (t := 13) rfl (fun hg13 => ?_) (fun hg13 => ?_)
  ·have hh13 := hg13; try simp only [decide_eq_true_eq] at hh13
   refine .gn rfl rfl rfl (by assumption) (.gn rfl rfl rfl (by assumption) (.gn rfl rfl rfl (by assumption) (.gn rfl rfl rfl (by assumption) (.p rfl (zO (tm rfl) (by assumption) zL) (.nil ?_)))))
   exact ⟨rfl, yP rfl (by (rw [hg13]; rfl)) (zA rfl (zA rfl (zA rfl (zA rfl (zA rfl zK))))), rfl⟩
  ·have hh13 := hg13; try simp only [decide_eq_false_iff_not, Int.not_lt] at hh13
   refine .gp rfl rfl rfl (by assumption) (zE (tm rfl)) (.gp rfl rfl rfl (by assumption) (zE (tm rfl)) (.gp rfl rfl rfl (by assumption) (zV Tryz.underlying94 (tm rfl)) (.gp rfl rfl rfl (by assumption) (zZ (tm rfl) (tm rfl)) (.p rfl (zM (tm rfl) (by assumption) (tm rfl)) (.nil ?_)))))
   exact ⟨rfl, yP rfl (by (rw [hg13]; rfl)) (zA rfl (zA rfl (zA rfl (zA rfl (zA rfl zK))))), rfl⟩
 ·refine AWP.sub [(18, _), (0, _), (1, _), (5, _), (6, _), (7, _)] (zA rfl (zA rfl (zA rfl (zA rfl (zA rfl (zA rfl zK)))))) ?_
  refine AWP.cond (tm rfl) (fun hc18 => ?_) (fun hc18 => ?_)
  ·try simp only [decide_eq_true_eq, decide_eq_false_iff_not, Bool.not_eq_true', Bool.not_eq_false', Int.not_lt, Int.not_le, ne_eq, Decidable.not_not] at hc18
   simp only [Bool.or_eq_true, decide_eq_true_eq] at hc18
   have hgx := hx.getD i
   have hgy := hy.getD i
   have hcc := azX hgx hgy hc
   refine .skip ?_
   refine Next.go ?_
   refine .seq (.block (.sr (.mv rfl rfl (.mv rfl rfl (.cl rfl Tryz.call129 (evs2 rfl rfl) (adL _ _ (by assumption) (by omega) _ _ rfl _) (.mv rfl rfl (.mv rfl rfl (.cl rfl Tryz.call129 (evs2 rfl rfl) (adL _ _ (by assumption) (by omega) _ _ rfl _) ?_))))))))
   refine .p rfl (yK (tm rfl) (tm rfl) (by omega)) (.mv rfl rfl (.p rfl (yK (tm rfl) (tm rfl) (by omega)) (.as rfl rfl (.nr (.mv rfl rfl (.mv rfl rfl (.p rfl (qW (tm rfl) (zI 4294967296) (by omega)) (.p rfl (yN Tryz.underlying30 Tryz.underlying112 rfl (tm rfl)) ?_))))))))
   refine .e rfl (qV Tryz.underlying94 Tryz.sizeOf112 Tryz.zeroValue112 rfl (tm rfl) (.inl rfl) ⟨rfl, rfl⟩) ?_
   refine .s rfl (abD Tryz.underlying94 Tryz.underlying94 Tryz.sizeOf112 Tryz.typeInfo112 Tryz.zeroValue112 rfl (by decide) (tm rfl) (tm rfl) (by exact .own _ (by assumption)) (by show (_ + _) * 4 ≤ _; simp only [acW, List.length_nil, List.length_cons]; omega) (by repeat' (first | exact yO _ | exact aaT | exact aeE ⟨rfl, rfl⟩ aaT | exact aaI (yO _) | exact aaH (yO _) | refine aaY ?_ ?_ | exact aiF _ _)) (by repeat' (first | exact yO _ | exact aaT | exact aeE ⟨rfl, rfl⟩ aaT | exact aaI (yO _) | exact aaH (yO _) | refine aaY ?_ ?_))) ?_
   rintro _ _ ⟨t35, ht35, rfl, hH⟩
   obtain rfl := hH.symm
   have hf35 := Heap.fresh_of hle ht35
   have hle35 := Heap.le_in (Heap.le_out (t := t) hle (by assumption)) t35
   refine .as rfl rfl (.ng (.region (.mv rfl rfl (.p rfl (yQ (tm rfl) (zI 32) (by omega)) (.as rfl rfl (.nil ?_))))))
   refine Block.go ?_
   refine Next.go ?_
   refine .region (.mv rfl rfl (.p rfl (zS (tm rfl) zD (by omega)) (.as rfl rfl (.ng ?_))))
   refine Round.mk (J := bdD xs ys tl tl2 H) ⟨i + 1, t35, zs ++ [(xs.getD i 0 + ys.getD i 0 + c) % 4294967296], (xs.getD i 0 + ys.getD i 0 + c) / 4294967296, by simp [hzl], by omega, aqC hz (Nat.mod_lt _ (by decide)), hcc, bdW hzl hv, rfl, hle35, Heap.toks_live_same _ _, hf35, rfl⟩ (zA rfl (zA rfl (yE rfl (acM (bgI _ (by simp only [IntKind.bits]; rw [Nat.mod_eq_of_lt (Nat.mod_lt _ (by decide))]))) (zA rfl (zA rfl zK))))) (Heap.le.refl _) (by omega)
  ·try simp only [decide_eq_true_eq, decide_eq_false_iff_not, Bool.not_eq_true', Bool.not_eq_false', Int.not_lt, Int.not_le, ne_eq, Decidable.not_not] at hc18
   simp only [Bool.or_eq_false_iff, decide_eq_false_iff_not] at hc18
   refine .exit ?_
   refine Next.ex ?_
   refine Next.ex ?_
   refine Block.hit ?_
   refine Next.go ?_
   refine .sr (.mv rfl rfl (.mv rfl rfl (.p rfl (yN Tryz.underlying30 Tryz.underlying112 rfl (tm rfl)) (.e rfl (qV Tryz.underlying94 Tryz.sizeOf112 Tryz.zeroValue112 rfl (tm rfl) (.inl rfl) ⟨rfl, rfl⟩) ?_))))
   refine .s rfl (abD Tryz.underlying94 Tryz.underlying94 Tryz.sizeOf112 Tryz.typeInfo112 Tryz.zeroValue112 rfl (by decide) (tm rfl) (tm rfl) (by exact .own _ (by assumption)) (by show (_ + _) * 4 ≤ _; simp only [acW, List.length_nil, List.length_cons]; omega) (by repeat' (first | exact yO _ | exact aaT | exact aeE ⟨rfl, rfl⟩ aaT | exact aaI (yO _) | exact aaH (yO _) | refine aaY ?_ ?_ | exact aiF _ _)) (by repeat' (first | exact yO _ | exact aaT | exact aeE ⟨rfl, rfl⟩ aaT | exact aaI (yO _) | exact aaH (yO _) | refine aaY ?_ ?_))) ?_
   rintro _ _ ⟨t42, ht42, rfl, hH⟩
   obtain rfl := hH.symm
   have hf42 := Heap.fresh_of hle ht42
   have hle42 := Heap.le_in (Heap.le_out (t := t) hle (by assumption)) t42
   refine .as rfl rfl (.nr (.mv rfl rfl (.cl rfl Tryz.call89 (evs1 rfl) (rTrimX c _ _ hz (by simp only [IntKind.bits]; omega) (by omega) (by omega) _) (.as rfl rfl (.ng (.ret ?_))))))
   refine Ret.go (.cons (.tmp _ _ rfl) .nil) _ (hle42) ?_
   refine ⟨?_, rfl⟩
   rw [List.take_of_length_le (by omega), List.take_of_length_le (by omega)] at hv
   rw [hzl, hv]; rfl

def bdK (xs ys : List Nat) (tl tl2 : Tail) (H : Heap) : Nat → Env → Heap → Prop := fun k env H1 => ∃ (i t : Nat) (zs : List Nat) (c : Nat), i ≤ xs.length ∧ zs.length = i ∧ Limbs zs ∧ c ≤ 1 ∧ val zs + val (ys.take i) = val (xs.take i) + 4294967296 ^ i * c ∧ env = [(0, .slice 1 (U .u32 xs) tl), (1, .slice 1 (U .u32 ys) tl2), (5, .slice 1 (U .u32 zs) (.own t)), (6, .int .u64 (c : Int)), (7, .int .i64 (i : Int))] ∧ H.le H1 ∧ H1.toks t = true ∧ H.toks t = false ∧ k = xs.length - i

set_option maxRecDepth 100000 in
theorem auL (xs : List Nat) (tl : Tail) (hx : Limbs xs) (hl : xs.length ≤ 100000) (ys : List Nat) (tl2 : Tail) (hy : Limbs ys) (hm : ys.length ≤ 100000) (hle : val ys ≤ val xs) (H : Heap) : ACall Tryz.prog 92 [.slice 1 (U .u32 xs) tl, .slice 1 (U .u32 ys) tl2] H (fun y H' => y = aaG (val xs - val ys) ∧ H' = H) := by
 have hle0 := Heap.le.refl H
 refine ACall.of_body Tryz.func92 rfl Tryz.ntmps92 Tryz.results92 rfl ?_
 refine .sr ?_
 refine .p rfl (zB (qI (sz := 1) (tl := .full))) ?_
 refine .nr ?_
 refine .p rfl (zB (qI (sz := 1) (tl := .full))) ?_
 refine .nr (.p rfl (zB (zI 0)) (.ng (.seq (.sr (.p rfl (zB zD) (.ng (.block ?_)))))))
 refine AWP.tag (t := 5) rfl (fun u5 hu5 => ?_)
 have hfu5 := Heap.fresh_of hle0 hu5
 have hleu5 := Heap.le_in hle0 u5
 refine AWP.loopW (bdK xs ys tl tl2 H) (xs.length) ⟨0, u5, [], 0, Nat.zero_le _, rfl, Limbs.nil, by decide, by simp [val], rfl, hleu5, Heap.toks_live_same _ _, hfu5, by omega⟩ (zA rfl (zA rfl (zA rfl (zA rfl (zA rfl zK))))) (Heap.le.refl _) ?_
 rintro _ _ H1 ⟨i, t, zs, c, hi, hzl, hz, hc, hv, rfl, hle1, hlive, hfr, rfl⟩
 refine .seq (.sr (.mv rfl rfl (.mv rfl rfl (.p rfl (zV Tryz.underlying94 (tm rfl)) (.p rfl (zZ (tm rfl) (tm rfl)) (.ng ?_))))))
 refine AWP.cond (tm rfl) (fun hc13 => ?_) (fun hc13 => ?_)
 ·try simp only [decide_eq_true_eq] at hc13
  have hgx := hx.getD i
  have hgy := hy.getD i
  refine .skip ?_
  refine Next.go ?_
  refine .seq (.block (.sr (.mv rfl rfl (.mv rfl rfl (.cl rfl Tryz.call129 (evs2 rfl rfl) (adL _ _ (by assumption) (by omega) _ _ rfl _) (.as rfl rfl (.nr (.mv rfl rfl ?_))))))))
  refine .mv rfl rfl (.cl rfl Tryz.call129 (evs2 rfl rfl) (adL _ _ (by assumption) (by omega) _ _ rfl _) (.mv rfl rfl (.p rfl (yK (tm rfl) (tm rfl) (by omega)) (.as rfl rfl (.nr (.p rfl (zB (zI 0)) (.ng ?_)))))))
  refine AWP.seqToL [(8, .int .u64 ((if xs.getD i 0 < (ys.getD i 0 + c) then xs.getD i 0 + 4294967296 else xs.getD i 0 : Nat) : Int)), (6, .int .u64 (((if xs.getD i 0 < (ys.getD i 0 + c) then 1 else 0) : Nat) : Int))] [0, 1, 5, 7, 9] ?_ ?_
  ·refine .sr (.mv rfl rfl (.mv rfl rfl (.p rfl (zZ (tm rfl) (tm rfl)) (.ng ?_))))
   refine AWP.cond (tm rfl) (fun hc26 => ?_) (fun hc26 => ?_)
   ·try simp only [decide_eq_true_eq] at hc26
    refine .sr (.mv rfl rfl (.p rfl (yK (tm rfl) (zI 4294967296) (by omega)) (.as rfl rfl (.ng (.region (.p rfl (zB (zI 1)) (.nil ?_)))))))
    exact ⟨rfl, (yE rfl (by rw [if_pos (by omega)]) (yE rfl (by rw [if_pos (by omega)]) (zA rfl (zA rfl (zA rfl (zA rfl (zA rfl zK))))))), rfl⟩
   ·try simp only [decide_eq_false_iff_not, Int.not_lt] at hc26
    refine .skip ?_
    exact ⟨rfl, (yE rfl (by (rw [if_neg (by omega)]; done)) (yE rfl (by (rw [if_neg (by omega)]; done)) (zA rfl (zA rfl (zA rfl (zA rfl (zA rfl zK))))))), rfl⟩
  ·refine AWP.sub [(8, _), (6, _), (0, _), (1, _), (5, _), (7, _), (9, _)] (zA rfl (zA rfl (zA rfl (zA rfl (zA rfl (zA rfl (zA rfl zK))))))) ?_
   generalize hw : (if xs.getD i 0 < (ys.getD i 0 + c) then xs.getD i 0 + 4294967296 else xs.getD i 0) = w at *
   generalize hd : (if xs.getD i 0 < (ys.getD i 0 + c) then 1 else 0) = d at *
   have hwd : (ys.getD i 0 + c) ≤ w ∧ w - (ys.getD i 0 + c) < 4294967296 ∧ w < 18446744073709551616 ∧ d ≤ 1 ∧ w - (ys.getD i 0 + c) + (ys.getD i 0 + c) = xs.getD i 0 + 4294967296 * d := by (split at hw <;> rename_i hq <;> (first | rw [if_pos hq] at hd | rw [if_neg hq] at hd) <;> omega)
   obtain ⟨hw1, hw2, hw3, hw4, hw5⟩ := hwd
   refine .region (.mv rfl rfl (.mv rfl rfl (.mv rfl rfl (.p rfl (adM (tm rfl) (tm rfl) (by assumption) (by assumption)) (.p rfl (yN Tryz.underlying30 Tryz.underlying112 rfl (tm rfl)) (.e rfl (qV Tryz.underlying94 Tryz.sizeOf112 Tryz.zeroValue112 rfl (tm rfl) (.inl rfl) ⟨rfl, rfl⟩) ?_))))))
   refine .s rfl (abD Tryz.underlying94 Tryz.underlying94 Tryz.sizeOf112 Tryz.typeInfo112 Tryz.zeroValue112 rfl (by decide) (tm rfl) (tm rfl) (by exact .own _ (by assumption)) (by show (_ + _) * 4 ≤ _; simp only [acW, List.length_nil, List.length_cons]; omega) (by repeat' (first | exact yO _ | exact aaT | exact aeE ⟨rfl, rfl⟩ aaT | exact aaI (yO _) | exact aaH (yO _) | refine aaY ?_ ?_ | exact aiF _ _)) (by repeat' (first | exact yO _ | exact aaT | exact aeE ⟨rfl, rfl⟩ aaT | exact aaI (yO _) | exact aaH (yO _) | refine aaY ?_ ?_))) ?_
   rintro _ _ ⟨t35, ht35, rfl, hH⟩
   obtain rfl := hH.symm
   have hf35 := Heap.fresh_of hle1 ht35
   have hle35 := Heap.le_in (Heap.le_out (t := t) hle1 (by assumption)) t35
   refine .as rfl rfl (.nil ?_)
   refine Block.go ?_
   refine Next.go ?_
   refine .region (.mv rfl rfl (.p rfl (zS (tm rfl) zD (by omega)) (.as rfl rfl (.ng ?_))))
   refine Round.mk (J := bdK xs ys tl tl2 H) ⟨i + 1, t35, zs ++ [w - (ys.getD i 0 + c)], d, by omega, by simp [hzl], aqC hz hw2, hw4, bfA hzl hv hw5, rfl, hle35, Heap.toks_live_same _ _, hf35, rfl⟩ (zA rfl (zA rfl (yE rfl (acM (bgI _ (by simp only [IntKind.bits]; omega))) (zA rfl (zA rfl zK))))) (Heap.le.refl _) (by omega)
 ·try simp only [decide_eq_false_iff_not, Int.not_lt] at hc13
  refine .exit ?_
  refine Next.ex ?_
  refine Next.ex ?_
  refine Block.hit ?_
  refine Next.go ?_
  refine .sr (.mv rfl rfl (.cl rfl Tryz.call89 (evs1 rfl) (aaC _ _ hz (by omega) _) (.as rfl rfl (.ng (.ret ?_)))))
  refine Ret.go (.cons (.tmp _ _ rfl) .nil) _ (hle1) ?_
  refine ⟨?_, rfl⟩
  have hix : i = xs.length := by omega
  rw [hix, List.take_length] at hv
  rw [less_end rfl (hzl.trans hix) hz hx hc hv hle]; rfl

def rcmp_J (xs ys : List Nat) (H : Heap) : Nat → Env → Heap → Prop := fun k env H1 => ∃ i : Nat, i ≤ xs.length ∧ xs.drop (xs.length - i) = ys.drop (xs.length - i) ∧ env = [(5, .slice 1 (U .u32 xs) .shared), (6, .slice 1 (U .u32 ys) .shared), (7, .int .i64 ((xs.length : Int) - 1 - i))] ∧ H = H1 ∧ k = xs.length - i

set_option maxRecDepth 100000 in
theorem azN (xs : List Nat) (tl : Tail) (hx : Limbs xs) (hl : xs.length ≤ 100000) (ys : List Nat) (tl2 : Tail) (hy : Limbs ys) (hm : ys.length ≤ 100000) (H : Heap) : ACall Tryz.prog 91 [.slice 1 (U .u32 xs) tl, .slice 1 (U .u32 ys) tl2] H (fun y H' => y = .int .i64 (aqO (val xs) (val ys)) ∧ H' = H) := by
 have hr := aaJ xs
 have hrl := aaS hx
 have hs := aaJ ys
 have hsl := aaS hy
 refine ACall.of_body Tryz.func91 rfl Tryz.ntmps91 Tryz.results91 rfl ?_
 refine .sr (.p rfl (zB zD) (.nr (.mv rfl rfl (.cl rfl Tryz.call89 (evs1 rfl) (aaC _ _ (by assumption) (by omega) _) (.as rfl rfl (.nr (.mv rfl rfl (.cl rfl Tryz.call89 (evs1 rfl) (aaC _ _ (by assumption) (by omega) _) ?_))))))))
 refine .as rfl rfl (.ng (.seq (.sr (.mv rfl rfl (.p rfl (zV Tryz.underlying94 (tm rfl)) (.mv rfl rfl (.p rfl (zV Tryz.underlying94 (tm rfl)) (.p rfl (aaO (tm rfl) (tm rfl)) ?_))))))))
 refine .ng ?_
 refine AWP.cond (tm rfl) (fun hc16 => ?_) (fun hc16 => ?_)
 ·try simp only [decide_eq_true_eq, ne_eq] at hc16
  refine .seq (.sr (.mv rfl rfl (.p rfl (zV Tryz.underlying94 (tm rfl)) (.mv rfl rfl (.p rfl (zV Tryz.underlying94 (tm rfl)) (.p rfl (zZ (tm rfl) (tm rfl)) (.ng ?_)))))))
  refine AWP.cond (tm rfl) (fun hc21 => ?_) (fun hc21 => ?_)
  ·try simp only [decide_eq_true_eq] at hc21
   refine .sr (.p rfl (zB zD) (.ng (.ret ?_)))
   refine Next.rt ?_
   refine Next.rt ?_
   refine Ret.go (.cons (.tmp _ _ rfl) .nil) _ (Heap.le.refl _) ?_
   refine ⟨?_, rfl⟩
   rw [aqO, if_pos (adX (by omega))]; rfl
  ·try simp only [decide_eq_false_iff_not, Int.not_lt] at hc21
   refine .skip ?_
   refine Next.go ?_
   refine .sr (.p rfl (zB zD) (.ng (.ret ?_)))
   refine Next.rt ?_
   refine Ret.go (.cons (.tmp _ _ rfl) .nil) _ (Heap.le.refl _) ?_
   refine ⟨?_, rfl⟩
   have := adX (a := val ys) (b := val xs) (by omega)
   rw [aqO, if_neg (by omega), if_pos this]; rfl
 ·try simp only [decide_eq_false_iff_not, ne_eq, Decidable.not_not] at hc16
  have hLx := zN (val xs)
  have hLy := zN (val ys)
  have hvx := zT (val xs)
  have hvy := zT (val ys)
  have hlen : (zJ (val xs)).length = (zJ (val ys)).length := by omega
  refine .skip ?_
  refine Next.go ?_
  refine .seq (.sr (.mv rfl rfl (.p rfl (zV Tryz.underlying94 (tm rfl)) (.p rfl (zW (tm rfl) zD (by omega)) (.as rfl rfl (.ng (.block ?_)))))))
  refine AWP.loopW (rcmp_J (zJ (val xs)) (zJ (val ys)) H) ((zJ (val xs)).length) ⟨0, Nat.zero_le _, by rw [Nat.sub_zero, List.drop_length, hlen, List.drop_length], rfl, rfl, rfl⟩ (zA rfl (zA rfl (yE rfl (by simp) zK))) (Heap.le.refl _) ?_
  rintro _ _ _ ⟨i, hi, hd, rfl, rfl, rfl⟩
  refine .seq (.sr (.mv rfl rfl (.p rfl (yW (tm rfl) zD) (.ng ?_))))
  refine AWP.cond (tm rfl) (fun hc26 => ?_) (fun hc26 => ?_)
  ·try simp only [decide_eq_true_eq] at hc26
   have hds : (zJ (val xs)).drop ((zJ (val xs)).length - 1 - i + 1) = (zJ (val ys)).drop ((zJ (val xs)).length - 1 - i + 1) := by rw [show (zJ (val xs)).length - 1 - i + 1 = (zJ (val xs)).length - i by omega]; exact hd
   refine .skip ?_
   refine Next.go ?_
   refine .seq (.block (.seq (.seq ?_)))
   refine AWP.draw [(0, true), (1, true), (2, true), (3, true), (4, true), (5, true), (6, true), (7, true), (8, true)] rfl (by decide +kernel) ?_
   refine .p rfl rfl (zE (tm rfl)) (.p rfl rfl (zE (tm rfl)) (.p rfl rfl (yD ((zJ (val xs)).length - 1 - i) Tryz.underlying94 Tryz.sizeOf112 (tm rfl) (tm rfl) (by omega) (by omega)) (.p rfl rfl (zF Tryz.isAgg112 (tm rfl)) (.p rfl rfl (zE (tm rfl)) (.p rfl rfl (zE (tm rfl)) (.p rfl rfl (yD ((zJ (val xs)).length - 1 - i) Tryz.underlying94 Tryz.sizeOf112 (tm rfl) (tm rfl) (by omega) (by omega)) (.p rfl rfl (zF Tryz.isAgg112 (tm rfl)) (.p rfl rfl (zZ (tm rfl) (tm rfl)) ?_))))))))
   refine .nil ?_
   refine Next.go ?_
   refine AWP.cond (tm rfl) (fun hc37 => ?_) (fun hc37 => ?_)
   ·try simp only [decide_eq_true_eq] at hc37
    refine .sr (.p rfl (zB zD) (.ng (.ret ?_)))
    refine Next.rt ?_
    refine Block.rt ?_
    refine Next.rt ?_
    refine Next.rt ?_
    refine Block.rt ?_
    refine Next.rt ?_
    refine Ret.go (.cons (.tmp _ _ rfl) .nil) _ (Heap.le.refl _) ?_
    refine ⟨?_, rfl⟩
    have := aeV hLx hLy hlen (k := (zJ (val xs)).length - 1 - i) (by omega) hds (by omega)
    rw [hvx, hvy] at this
    rw [aqO, if_pos (by omega)]; rfl
   ·try simp only [decide_eq_false_iff_not, Int.not_lt] at hc37
    refine .skip ?_
    refine Next.go ?_
    refine .seq ?_
    refine AWP.draw [(0, true), (1, true), (2, true), (3, true), (4, true), (5, true), (6, true), (7, true), (8, true)] rfl (by decide +kernel) ?_
    refine .p rfl rfl (zE (tm rfl)) (.p rfl rfl (zE (tm rfl)) (.p rfl rfl (yD ((zJ (val xs)).length - 1 - i) Tryz.underlying94 Tryz.sizeOf112 (tm rfl) (tm rfl) (by omega) (by omega)) (.p rfl rfl (zF Tryz.isAgg112 (tm rfl)) (.p rfl rfl (zE (tm rfl)) (.p rfl rfl (zE (tm rfl)) (.p rfl rfl (yD ((zJ (val xs)).length - 1 - i) Tryz.underlying94 Tryz.sizeOf112 (tm rfl) (tm rfl) (by omega) (by omega)) (.p rfl rfl (zF Tryz.isAgg112 (tm rfl)) (.p rfl rfl (yC (tm rfl) (tm rfl)) ?_))))))))
    refine .nil ?_
    refine Next.go ?_
    refine AWP.cond (tm rfl) (fun hc46 => ?_) (fun hc46 => ?_)
    ·try simp only [decide_eq_true_eq] at hc46
     refine .sr (.p rfl (zB zD) (.ng (.ret ?_)))
     refine Block.rt ?_
     refine Next.rt ?_
     refine Next.rt ?_
     refine Block.rt ?_
     refine Next.rt ?_
     refine Ret.go (.cons (.tmp _ _ rfl) .nil) _ (Heap.le.refl _) ?_
     refine ⟨?_, rfl⟩
     have := aeV hLy hLx hlen.symm (k := (zJ (val xs)).length - 1 - i) (by omega) hds.symm (by omega)
     rw [hvx, hvy] at this
     rw [aqO, if_neg (by omega), if_pos (by omega)]; rfl
    ·try simp only [decide_eq_false_iff_not, Int.not_lt] at hc46
     refine .skip ?_
     refine Block.go ?_
     refine Next.go ?_
     refine .region (.mv rfl rfl (.p rfl (zW (tm rfl) zD (by omega)) (.as rfl rfl (.ng ?_))))
     refine Round.mk (J := rcmp_J (zJ (val xs)) (zJ (val ys)) H) ⟨i + 1, by omega, by rw [show (zJ (val xs)).length - (i + 1) = (zJ (val xs)).length - 1 - i by omega]; exact asX hlen (by omega) hds (by omega), rfl, rfl, rfl⟩ (zA rfl (zA rfl (yE rfl (by congr 1; omega) zK))) (Heap.le.refl _) (by omega)
  ·try simp only [decide_eq_false_iff_not, Int.not_le] at hc26
   refine .exit ?_
   refine Next.ex ?_
   refine Next.ex ?_
   refine Block.hit ?_
   refine Next.go ?_
   refine .sr (.p rfl (zB zD) (.ng (.ret ?_)))
   refine Ret.go (.cons (.tmp _ _ rfl) .nil) _ (Heap.le.refl _) ?_
   refine ⟨?_, rfl⟩
   have h0 : (zJ (val xs)).length - i = 0 := by omega
   have hxy : zJ (val xs) = zJ (val ys) := by rw [h0] at hd; simpa using hd
   rw [asM hxy, aqO, if_neg (Nat.lt_irrefl _), if_neg (Nat.lt_irrefl _)]; rfl
def rtim_J (xs ys : List Nat) (tl tl2 : Tail) (b : Nat) (H : Heap) : Nat → Env → Heap → Prop := fun k env H1 => ∃ (i : Nat) (zs : List Nat), i ≤ xs.length ∧ zs.length = (xs.length + ys.length + 1) ∧ Limbs zs ∧ (∀ j, i + ys.length ≤ j → zs.getD j 0 = 0) ∧ val zs = val (xs.take i) * val ys ∧ env = [(0, .slice 1 (U .u32 xs) tl), (1, .slice 1 (U .u32 ys) tl2), (5, .mslice (some ⟨b, 0, none⟩) (xs.length + ys.length + 1) (xs.length + ys.length + 1)), (6, .int .i64 (i : Int))] ∧ H1 = H.set b (.box 112 (U .u32 zs)) ∧ k = xs.length - i

def bdC (xs ys : List Nat) (tl tl2 : Tail) (b i : Nat) (o0 : List Nat) (H : Heap) : Nat → Env → Heap → Prop := fun k env H1 => ∃ (j c : Nat) (zs : List Nat), j ≤ ys.length ∧ zs.length = (xs.length + ys.length + 1) ∧ Limbs zs ∧ c < 4294967296 ∧ (∀ j, i + ys.length ≤ j → zs.getD j 0 = 0) ∧ val zs + 4294967296 ^ (i + j) * c = val o0 + 4294967296 ^ i * xs.getD i 0 * val (ys.take j) ∧ env = [(0, .slice 1 (U .u32 xs) tl), (1, .slice 1 (U .u32 ys) tl2), (5, .mslice (some ⟨b, 0, none⟩) (xs.length + ys.length + 1) (xs.length + ys.length + 1)), (6, .int .i64 (i : Int)), (7, .int .u64 (c : Int)), (8, .int .i64 (j : Int))] ∧ H1 = H.set b (.box 112 (U .u32 zs)) ∧ k = ys.length - j

set_option maxRecDepth 100000 in
theorem acR (xs : List Nat) (tl : Tail) (hx : Limbs xs) (hl : xs.length ≤ 100000) (ys : List Nat) (tl2 : Tail) (hy : Limbs ys) (hm : ys.length ≤ 100000) (H : Heap) : ACall Tryz.prog 53 [.slice 1 (U .u32 xs) tl, .slice 1 (U .u32 ys) tl2] H (fun y H' => y = aaG (val xs * val ys) ∧ H' = H) := by
 refine ACall.of_body Tryz.func53 rfl Tryz.ntmps53 Tryz.results53 rfl ?_
 refine .sr ?_
 refine .p rfl (zB (qI (sz := 1) (tl := .full))) ?_
 refine .nr (.mv rfl rfl (.p rfl (zV Tryz.underlying94 (tm rfl)) (.mv rfl rfl (.p rfl (zV Tryz.underlying94 (tm rfl)) (.p rfl (zS (tm rfl) (tm rfl) (by omega)) (.p rfl (zS (tm rfl) zD (by omega)) (.s rfl (yT (xs.length + ys.length + 1) Tryz.underlying94 Tryz.typeInfo112 Tryz.sizeOf112 Tryz.zeroValue112 (tm rfl) (tm rfl) (by omega) (by omega) (by decide) (by omega)) ?_)))))))
 rintro _ _ ⟨b16, rfl, hb16, hH⟩
 obtain rfl := hH.symm
 refine .as rfl rfl (.ng (.seq (.sr (.p rfl (zB zD) (.ng (.block ?_))))))
 refine AWP.loopW (rtim_J xs ys tl tl2 b16 H) (xs.length) ⟨0, List.replicate _ 0, Nat.zero_le _, by simp, Limbs.rep (by omega), fun j _ => axS _ _, by rw [aiH, List.take_zero, val, Nat.zero_mul], rfl, rfl, rfl⟩ (zA rfl (zA rfl (zA rfl (zA rfl zK)))) (Heap.le.refl _) ?_
 rintro _ _ _ ⟨i, zs0, hi, hz0, hzl0, h0, hv0, rfl, rfl, hk⟩
 refine .seq (.sr (.mv rfl rfl (.mv rfl rfl (.p rfl (zV Tryz.underlying94 (tm rfl)) (.p rfl (zZ (tm rfl) (tm rfl)) (.ng ?_))))))
 refine AWP.cond (tm rfl) (fun hc20 => ?_) (fun hc20 => ?_)
 ·try simp only [decide_eq_true_eq] at hc20
  refine .skip ?_
  refine Next.go ?_
  refine .seq (.block (.sr (.p rfl (zB (zI 0)) (.ng (.seq (.sr (.p rfl (zB zD) (.ng ?_))))))))
  refine .block ?_
  refine AWP.loopW (bdC xs ys tl tl2 b16 i zs0 H) (ys.length) ⟨0, 0, zs0, Nat.zero_le _, hz0, hzl0, by omega, h0, by rw [List.take_zero, val, Nat.mul_zero, Nat.mul_zero], rfl, rfl, rfl⟩ (zA rfl (zA rfl (zA rfl (zA rfl (zA rfl (zA rfl zK)))))) (Heap.le.refl _) ?_
  rintro _ _ _ ⟨j, c, zs, hj, hz, hzl, hc, hzr, hv, rfl, rfl, hk2⟩
  refine .seq (.sr (.mv rfl rfl (.mv rfl rfl (.p rfl (zV Tryz.underlying94 (tm rfl)) (.p rfl (zZ (tm rfl) (tm rfl)) (.ng ?_))))))
  refine AWP.cond (tm rfl) (fun hc26 => ?_) (fun hc26 => ?_)
  ·try simp only [decide_eq_true_eq] at hc26
   have hPi := Limbs.getD hx i
   have hQj := Limbs.getD hy j
   have hZ := Limbs.getD hzl (i + j)
   have hmf := axJ hPi hQj hZ hc
   refine .skip ?_
   refine Next.go ?_
   refine .seq (.block (.seq ?_))
   refine AWP.draw [(0, true), (1, true), (2, true), (3, true), (4, true), (5, true), (6, true), (7, true), (8, true), (9, true), (10, true), (11, true), (12, true), (13, true), (14, true), (15, true), (19, true), (16, false), (17, true), (18, true), (20, true), (21, true)] rfl (by decide +kernel) ?_
   refine .p rfl rfl (zE (tm rfl)) (.p rfl rfl (zE (tm rfl)) (.p rfl rfl (yD (i) Tryz.underlying94 Tryz.sizeOf112 (tm rfl) (tm rfl) (by omega) (by omega)) (.p rfl rfl (zF Tryz.isAgg112 (tm rfl)) (.p rfl rfl (yA Tryz.underlying112 Tryz.underlying30 (tm rfl) (wrapN64 (by omega))) (.p rfl rfl (zE (tm rfl)) (.p rfl rfl (zE (tm rfl)) (.p rfl rfl (yD (j) Tryz.underlying94 Tryz.sizeOf112 (tm rfl) (tm rfl) (by omega) (by omega)) (.p rfl rfl (zF Tryz.isAgg112 (tm rfl)) ?_))))))))
   refine .p rfl rfl (yA Tryz.underlying112 Tryz.underlying30 (tm rfl) (wrapN64 (by omega))) (.p rfl rfl (acI (tm rfl) (tm rfl) (by omega)) (.p rfl rfl (zE (tm rfl)) (.p rfl rfl (zE (tm rfl)) (.p rfl rfl (zE (tm rfl)) (.p rfl rfl (zS (tm rfl) (tm rfl) (by omega)) (.p rfl rfl (yM (i + j) Tryz.underlying94 Tryz.sizeOf112 (tm rfl) (tm rfl) (by omega) (by omega)) (.p rfl rfl (zE (tm rfl)) (.s rfl rfl (qG Tryz.isAgg112 (tm rfl) (Heap.objs_set_same _ _ _) (by omega)) ?_))))))))
   rintro _ _ ⟨rfl, hH⟩
   obtain rfl := hH.symm
   refine .p rfl rfl (yA Tryz.underlying112 Tryz.underlying30 (tm rfl) (wrapN64 (by omega))) (.p rfl rfl (yK (tm rfl) (tm rfl) (by omega)) (.p rfl rfl (yK (tm rfl) (tm rfl) (by assumption)) (.p rfl rfl (zB (tm rfl)) (.nil ?_))))
   refine Next.go ?_
   refine .sr (.mv rfl rfl (.mv rfl rfl (.mv rfl rfl (.p rfl (zS (tm rfl) (tm rfl) (by omega)) (.mv rfl rfl (.p rfl (qW (tm rfl) (zI 4294967296) (by omega)) (.p rfl (yN Tryz.underlying30 Tryz.underlying112 rfl (tm rfl)) (.p rfl (yM (i + j) Tryz.underlying94 Tryz.sizeOf112 (tm rfl) (tm rfl) (by omega) (by omega)) ?_))))))))
   refine .e0 (qF Tryz.sizeOf112 (tm rfl) (tm rfl) (Heap.objs_set_same _ _ _) (by omega)) ?_
   try first | rw [Heap.set_set] | rw [Heap.set_under (by assumption)]
   refine .ng (.region (.mv rfl rfl (.p rfl (yQ (tm rfl) (zI 32) (by assumption)) (.as rfl rfl (.nil ?_)))))
   refine Block.go ?_
   refine Next.go ?_
   refine .region (.mv rfl rfl (.p rfl (zS (tm rfl) zD (by omega)) (.as rfl rfl (.ng ?_))))
   have hmm : (xs.getD i 0 * ys.getD j 0 + zs.getD (i + j) 0 + c) % 4294967296 % 2 ^ IntKind.u32.bits = (xs.getD i 0 * ys.getD j 0 + zs.getD (i + j) 0 + c) % 4294967296 := Nat.mod_eq_of_lt (Nat.mod_lt _ (by decide))
   rw [hmm]
   refine Round.mk (J := bdC xs ys tl tl2 b16 i zs0 H) ⟨j + 1, _, _, by omega, by simpa using hz, Limbs.set hzl (Nat.mod_lt _ (by decide)), by omega, fun q hq => ajV hzr (by omega) q hq, axI (by omega) hv, rfl, rfl, rfl⟩ (zA rfl (zA rfl (zA rfl (zA rfl (zA rfl (zA rfl zK)))))) (Heap.le.refl _) (by omega)
  ·try simp only [decide_eq_false_iff_not, Int.not_lt] at hc26
   have hj2 : j = ys.length := by omega
   subst hj2
   have hcm : c % 2 ^ IntKind.u32.bits = c := Nat.mod_eq_of_lt hc
   refine .exit ?_
   refine Next.ex ?_
   refine Next.ex ?_
   refine Block.hit ?_
   refine Next.go ?_
   refine .region (.mv rfl rfl (.mv rfl rfl (.mv rfl rfl (.p rfl (zV Tryz.underlying94 (tm rfl)) (.p rfl (zS (tm rfl) (tm rfl) (by omega)) (.mv rfl rfl (.p rfl (yN Tryz.underlying30 Tryz.underlying112 rfl (tm rfl)) (.p rfl (yM (i + ys.length) Tryz.underlying94 Tryz.sizeOf112 (tm rfl) (tm rfl) (by omega) (by omega)) ?_))))))))
   refine .e0 (qF Tryz.sizeOf112 (tm rfl) (tm rfl) (Heap.objs_set_same _ _ _) (by omega)) ?_
   try first | rw [Heap.set_set] | rw [Heap.set_under (by assumption)]
   refine .nil ?_
   refine Block.go ?_
   refine Next.go ?_
   refine .region (.mv rfl rfl (.p rfl (zS (tm rfl) zD (by omega)) (.as rfl rfl (.ng ?_))))
   rw [hcm]
   refine Round.mk (J := rtim_J xs ys tl tl2 b16 H) ⟨i + 1, _, by omega, by simpa using hz, Limbs.set hzl hc, fun j hj => ajV (n := i + 1 + ys.length) (fun j hj => hzr j (by omega)) (by omega) j hj, beK rfl (by omega) (hzr _ (Nat.le_refl _)) hv0 hv, rfl, rfl, rfl⟩ (zA rfl (zA rfl (zA rfl (zA rfl zK)))) (Heap.le.refl _) (by omega)
 ·try simp only [decide_eq_false_iff_not, Int.not_lt] at hc20
  refine .exit ?_
  refine Next.ex ?_
  refine Next.ex ?_
  refine Block.hit ?_
  refine Next.go ?_
  refine .seq ?_
  have hi2 : i = xs.length := by omega
  subst hi2
  rw [List.take_length] at hv0
  refine AWP.frzU (t := 5) rfl hb16 (by omega) (Nat.le_refl _) (by simp only [yB]; omega) ?_
  rw [List.take_of_length_le (by omega)]
  have hz5 : zs0.length ≤ 1000000 := by omega
  refine .region (.mv rfl rfl (.cl rfl Tryz.call89 (evs1 rfl) (aaC _ _ (by assumption) (by assumption) _) (.as rfl rfl (.ng (.ret ?_)))))
  refine Ret.go (.cons (.tmp _ _ rfl) .nil) _ (Heap.le.refl _) ?_
  refine ⟨?_, rfl⟩
  rw [← hv0]; rfl

theorem or_bit {gl s : Nat} (hs : s < 32) (hg : gl < 4294967296) (h0 : gl % 2 ^ (s + 1) = 0) : gl ||| 2 ^ s = gl + 2 ^ s ∧ gl + 2 ^ s < 4294967296 := by
 obtain ⟨q, rfl⟩ := Nat.dvd_of_mod_eq_zero h0
 have hlt : 2 ^ s < 2 ^ (s + 1) := Nat.pow_lt_pow_right (by decide) (by omega)
 refine ⟨by rw [Nat.mul_comm]; exact agR hlt, ?_⟩
 have e : (4294967296 : Nat) = 2 ^ (s + 1) * 2 ^ (31 - s) := by rw [← Nat.pow_add, show s + 1 + (31 - s) = 32 by omega]
 rw [e] at hg ⊢
 have h1 := Nat.lt_of_mul_lt_mul_left hg
 have h2 : 2 ^ (s + 1) * (q + 1) ≤ 2 ^ (s + 1) * 2 ^ (31 - s) := Nat.mul_le_mul_left _ h1
 rw [Nat.mul_add, Nat.mul_one] at h2
 omega
theorem limb_of (xs : List Nat) (j : Nat) (hl : Limbs xs) : xs.getD j 0 = val xs / 4294967296 ^ j % 4294967296 := by
 induction xs generalizing j with
 | nil => simp [val]
 | cons x xs ih =>
  obtain ⟨h1, h2⟩ := hl.cons
  cases j with
  | zero => rw [Nat.pow_zero, Nat.div_one, val, Nat.add_mul_mod_self_left, Nat.mod_eq_of_lt h1]; rfl
  | succ j =>
   rw [List.getD_cons_succ, ih j h2, Nat.pow_succ, Nat.mul_comm (4294967296 ^ j), ← Nat.div_div_eq_div_mul, val, Nat.add_mul_div_left _ _ (by decide), Nat.div_eq_of_lt h1, Nat.zero_add]
theorem low_limb {zs : List Nat} {i Q : Nat} (hz : Limbs zs) (h : val zs = 2 ^ (i + 1) * Q) : zs.getD (i / 32) 0 % 2 ^ (i % 32 + 1) = 0 := by
 rw [limb_of zs _ hz, h]
 have e : (4294967296 : Nat) = 2 ^ 32 := by decide
 rw [e, ← Nat.pow_mul]
 have h32 : i % 32 < 32 := Nat.mod_lt _ (by decide)
 have hi : i = 32 * (i / 32) + i % 32 := (Nat.div_add_mod i 32).symm
 generalize i / 32 = a at *
 generalize i % 32 = r at *
 subst hi
 rw [Nat.add_assoc, Nat.pow_add, Nat.mul_assoc, Nat.mul_div_cancel_left _ (Nat.pow_pos (by decide))]
 rw [Nat.mod_mod_of_dvd _ (Nat.pow_dvd_pow 2 (by omega : r + 1 ≤ 32))]
 exact Nat.mul_mod_right _ _
theorem bdY {zs : List Nat} {i Q : Nat} (hz : Limbs zs) (hl : i / 32 < zs.length) (h : val zs = 2 ^ (i + 1) * Q) : val (zs.set (i / 32) (zs.getD (i / 32) 0 + 2 ^ (i % 32))) = 2 ^ i * (2 * Q + 1) := by
 have e := atM (zs := zs) (i := i / 32) (v := zs.getD (i / 32) 0 + 2 ^ (i % 32)) hl
 have e2 : (4294967296 : Nat) ^ (i / 32) * 2 ^ (i % 32) = 2 ^ i := by
  rw [show (4294967296 : Nat) = 2 ^ 32 by decide, ← Nat.pow_mul, ← Nat.pow_add, Nat.div_add_mod]
 rw [Nat.mul_add, e2] at e
 have e3 : 2 ^ i * (2 * Q + 1) = 2 ^ (i + 1) * Q + 2 ^ i := by rw [Nat.mul_add, Nat.pow_succ, Nat.mul_one, Nat.mul_assoc]
 omega
theorem aoF {a b Q r j : Nat} (h : a / 2 ^ (j + 1) = Q * b + r) : a / 2 ^ j = 2 * Q * b + (2 * r + a / 2 ^ j % 2) := by
 have h1 : a / 2 ^ (j + 1) = a / 2 ^ j / 2 := by rw [Nat.pow_succ, Nat.div_div_eq_div_mul]
 rw [h1] at h
 have h2 := Nat.div_add_mod (a / 2 ^ j) 2
 rw [h, Nat.mul_add, ← Nat.mul_assoc] at h2
 omega
theorem asL {n : Nat} {ys : List Nat} (hy : Limbs ys) (h : n < 2 * val ys) : (zJ n).length ≤ ys.length + 1 := by
 rw [qT, Nat.pow_succ]
 have := adU hy
 omega
def PartsOK (a b : Nat) (zs : List Nat) (r j : Nat) : Prop := ∃ Q, a / 2 ^ j = Q * b + r ∧ r < b ∧ val zs = 2 ^ j * Q
theorem PartsOK.lt {a b r j : Nat} {zs : List Nat} (h : PartsOK a b zs r j) : r < b := by obtain ⟨_, _, h, _⟩ := h; exact h
theorem PartsOK.stay {a b r j : Nat} {zs : List Nat} (h : PartsOK a b zs r (j + 1)) (hb : 2 * r + a / 2 ^ j % 2 < b) : PartsOK a b zs (2 * r + a / 2 ^ j % 2) j := by
 obtain ⟨Q, h1, h2, h3⟩ := h
 exact ⟨2 * Q, aoF h1, hb, by rw [h3, Nat.pow_succ, Nat.mul_assoc]⟩
theorem PartsOK.take {a b r j : Nat} {zs : List Nat} (h : PartsOK a b zs r (j + 1)) (hz : Limbs zs) (hl : j / 32 < zs.length) (hb : b ≤ 2 * r + a / 2 ^ j % 2) : PartsOK a b (zs.set (j / 32) (zs.getD (j / 32) 0 + 2 ^ (j % 32))) (2 * r + a / 2 ^ j % 2 - b) j := by
 obtain ⟨Q, h1, h2, h3⟩ := h
 refine ⟨2 * Q + 1, ?_, ?_, bdY hz hl h3⟩
 ·have e := aoF h1
  rw [Nat.add_mul, Nat.one_mul]; omega
 ·have := Nat.mod_lt (a / 2 ^ j) (by decide : 0 < 2); omega
theorem PartsOK.low {a b r j : Nat} {zs : List Nat} (h : PartsOK a b zs r (j + 1)) (hz : Limbs zs) : zs.getD (j / 32) 0 ||| 2 ^ (j % 32) = zs.getD (j / 32) 0 + 2 ^ (j % 32) ∧ zs.getD (j / 32) 0 + 2 ^ (j % 32) < 4294967296 := by
 obtain ⟨Q, _, _, h3⟩ := h
 exact or_bit (Nat.mod_lt _ (by decide)) (hz.getD _) (low_limb hz h3)
theorem PartsOK.done {a b r : Nat} {zs : List Nat} (h : PartsOK a b zs r 0) : val zs = a / b ∧ r = a % b := by
 obtain ⟨Q, h1, h2, h3⟩ := h
 rw [Nat.pow_zero, Nat.div_one] at h1
 rw [Nat.pow_zero, Nat.one_mul] at h3
 rw [h3, h1]
 exact ⟨by rw [Nat.add_comm, Nat.add_mul_div_right _ _ (by omega), Nat.div_eq_of_lt h2, Nat.zero_add], by rw [Nat.add_comm, Nat.add_mul_mod_self_right, Nat.mod_eq_of_lt h2]⟩
theorem PartsOK.begin {a b n : Nat} (hb : 0 < b) (h : a < 2 ^ n) (k : Nat) : PartsOK a b (List.replicate k 0) 0 n := ⟨0, by rw [Nat.div_eq_of_lt h]; simp, hb, by rw [aiH, Nat.mul_zero]⟩
theorem ayN {xs : List Nat} (h : Limbs xs) : val xs < 2 ^ (32 * xs.length) := by
 have := adU h
 rwa [show (4294967296 : Nat) = 2 ^ 32 by decide, ← Nat.pow_mul] at this
theorem avI {r : Nat} {ys : List Nat} (hy : Limbs ys) (h : r < val ys) : (zJ r).length ≤ ys.length := by
 rw [qT]; exact Nat.lt_trans h (adU hy)
theorem bcZ {s : Nat} (h : s < 32) : 1 * 2 ^ s < 4294967296 := by
 rw [Nat.one_mul]; exact Nat.pow_lt_pow_right (by decide) h
theorem bit_nat {v : Nat} : (decide (((v % 2 : Nat) : Int) = 1)).toNat = v % 2 := by
 by_cases h : v % 2 = 1
 ·rw [h]; rfl
 ·rw [show v % 2 = 0 by omega]; rfl
theorem bgB {a b : Nat} : 0 ≤ aqO a b ↔ b ≤ a := by unfold aqO; split <;> (try split) <;> omega

def awQ (xs ys : List Nat) (tl tl2 : Tail) (b : Nat) (H : Heap) : Nat → Env → Heap → Prop := fun k env H1 => ∃ (j r : Nat) (zs : List Nat), j ≤ 32 * xs.length ∧ zs.length = xs.length ∧ Limbs zs ∧ PartsOK (val xs) (val ys) zs r j ∧ env = [(0, .slice 1 (U .u32 xs) tl), (1, .slice 1 (U .u32 ys) tl2), (6, .mslice (some ⟨b, 0, none⟩) xs.length xs.length), (7, aaG r), (8, .int .i64 ((j : Int) - 1))] ∧ H1 = H.set b (.box 112 (U .u32 zs)) ∧ k = j

set_option maxRecDepth 100000 in
theorem ajL (xs : List Nat) (tl : Tail) (hx : Limbs xs) (hl : xs.length ≤ 100000) (ys : List Nat) (tl2 : Tail) (hy : Limbs ys) (hm : ys.length ≤ 50000) (hb : 0 < val ys) (H : Heap) : ACall Tryz.prog 56 [.slice 1 (U .u32 xs) tl, .slice 1 (U .u32 ys) tl2] H (fun y H' => y = .tuple [aaG (val xs / val ys), aaG (val xs % val ys)] ∧ H' = H) := by
 refine ACall.of_body Tryz.func56 rfl Tryz.ntmps56 Tryz.results56 rfl ?_
 refine .sr ?_
 refine .p rfl (zB (qI (sz := 1) (tl := .shared))) ?_
 refine .p rfl (zB (qI (sz := 1) (tl := .shared))) ?_
 refine .nr (.mv rfl rfl (.p rfl (zV Tryz.underlying94 (tm rfl)) (.s rfl (yT (xs.length) Tryz.underlying94 Tryz.typeInfo112 Tryz.sizeOf112 Tryz.zeroValue112 (tm rfl) (tm rfl) (by omega) (by omega) (by decide) (by omega)) ?_)))
 rintro _ _ ⟨b11, rfl, hb11, hH⟩
 obtain rfl := hH.symm
 refine .as rfl rfl (.nr ?_)
 refine .p rfl (zB (qI (sz := 1) (tl := .shared))) ?_
 refine .ng (.seq (.sr (.mv rfl rfl (.p rfl (zV Tryz.underlying94 (tm rfl)) (.p rfl (ahO (zI 32) (tm rfl) (by omega)) (.p rfl (zW (tm rfl) (zI 1) (by omega)) (.as rfl rfl (.ng ?_))))))))
 refine .block ?_
 refine AWP.loopW (awQ xs ys tl tl2 b11 H) (32 * xs.length) ⟨32 * xs.length, 0, List.replicate xs.length 0, Nat.le_refl _, by simp, Limbs.rep (by omega), .begin hb (ayN hx) _, rfl, rfl, rfl⟩ (zA rfl (zA rfl (zA rfl (zA rfl (yE rfl (by rfl) zK))))) (Heap.le.refl _) ?_
 rintro _ _ _ ⟨j, r, zs, hj, hzl, hz, hp, rfl, rfl, hk⟩
 have hrl := avI hy hp.lt
 have hrl2 := asL (n := (2 * r + val xs / 2 ^ (j - 1) % 2)) hy (by have := hp.lt; have := Nat.mod_lt (val xs / 2 ^ (j - 1)) (by decide : 0 < 2); omega)
 refine .seq (.sr (.mv rfl rfl (.p rfl (yW (tm rfl) (zI 0)) (.ng ?_))))
 refine AWP.cond (tm rfl) (fun hc17 => ?_) (fun hc17 => ?_)
 ·try simp only [decide_eq_true_eq] at hc17
  have hp1 : PartsOK (val xs) (val ys) zs r (j - 1 + 1) := by rw [show j - 1 + 1 = j by omega]; exact hp
  have hlow := hp1.low hz
  have hs1 := bcZ (Nat.mod_lt (j - 1) (by decide : 0 < 32))
  have hgz := hz.getD ((j - 1) / 32)
  rw [show ((j : Int) - 1) = ((j - 1 : Nat) : Int) by omega]
  refine .skip ?_
  refine Next.go ?_
  refine AWP.meet (fun env H2 => ∃ (r2 : Nat) (zs2 : List Nat), zs2.length = xs.length ∧ Limbs zs2 ∧ PartsOK (val xs) (val ys) zs2 r2 (j - 1) ∧ env = [(0, .slice 1 (U .u32 xs) tl), (1, .slice 1 (U .u32 ys) tl2), (6, .mslice (some ⟨b11, 0, none⟩) xs.length xs.length), (7, aaG r2), (8, .int .i64 ((j - 1 : Nat) : Int))] ∧ H2 = H.set b11 (.box 112 (U .u32 zs2))) ?_ ?_
  ·refine .block (.sr (.mv rfl rfl (.mv rfl rfl (.mv rfl rfl (.cl rfl Tryz.call87 (evs2 rfl rfl) (aeJ _ _ hx (by omega) (j - 1) (by omega) _ (by omega) _) (.cl rfl Tryz.call90 (evs2 rfl rfl) (ajH (zJ r) .shared (zN r) (by omega) _ _) ?_))))))
   rw [zT, bit_nat]
   refine .as rfl rfl (.nr (.mv rfl rfl (.mv rfl rfl (.cl rfl Tryz.call91 (evs2 rfl rfl) (azN (zJ (2 * r + val xs / 2 ^ (j - 1) % 2)) .shared (zN _) (by omega) _ _ hy (by omega) _) ?_))))
   rw [zT]
   refine .p rfl (yW (tm rfl) (zI 0)) (.ng ?_)
   refine AWP.cond (tm rfl) (fun hc28 => ?_) (fun hc28 => ?_)
   ·try simp only [decide_eq_true_eq] at hc28
    have hge := bgB.1 hc28
    refine .sr (.mv rfl rfl (.mv rfl rfl (.cl rfl Tryz.call92 (evs2 rfl rfl) (auL (zJ (2 * r + val xs / 2 ^ (j - 1) % 2)) .shared (zN _) (by omega) _ _ hy (by omega) (by rw [zT]; exact hge) _) ?_)))
    rw [zT]
    refine .as rfl rfl (.ng (.region (.mv rfl rfl (.mv rfl rfl (.p rfl (abE (tm rfl) (zI 32) (by omega) (by omega)) (.mv rfl rfl (.mv rfl rfl (.p rfl (abE (tm rfl) (zI 32) (by omega) (by omega)) ?_))))))))
    refine .p rfl (yM ((j - 1) / 32) Tryz.underlying94 Tryz.sizeOf112 (tm rfl) (tm rfl) (by omega) (by omega)) (.e rfl (qG Tryz.isAgg112 (tm rfl) (Heap.objs_set_same _ _ _) (by omega)) (.mv rfl rfl (.p rfl (adN (tm rfl) (zI 32) (by omega)) (.p rfl (yA Tryz.underlying3 Tryz.underlying90 (tm rfl) (wrapN64 (by omega))) (.p rfl (alK (zI 1) (tm rfl) (by omega) (by exact bcZ (Nat.mod_lt _ (by decide)))) (.p rfl (bdT (tm rfl) (tm rfl) (by assumption) (by assumption)) (.p rfl (yM ((j - 1) / 32) Tryz.underlying94 Tryz.sizeOf112 (tm rfl) (tm rfl) (by omega) (by omega)) (.e0 (qF Tryz.sizeOf112 (tm rfl) (tm rfl) (Heap.objs_set_same _ _ _) (by omega)) ?_))))))))
    try first | rw [Heap.set_set] | rw [Heap.set_under (by assumption)]
    refine .nil ?_
    refine Block.go ?_
    refine Next.go ?_
    refine Meets.mk (M := fun env H2 => ∃ (r2 : Nat) (zs2 : List Nat), zs2.length = xs.length ∧ Limbs zs2 ∧ PartsOK (val xs) (val ys) zs2 r2 (j - 1) ∧ env = [(0, .slice 1 (U .u32 xs) tl), (1, .slice 1 (U .u32 ys) tl2), (6, .mslice (some ⟨b11, 0, none⟩) xs.length xs.length), (7, aaG r2), (8, .int .i64 ((j - 1 : Nat) : Int))] ∧ H2 = H.set b11 (.box 112 (U .u32 zs2))) ⟨_, zs.set ((j - 1) / 32) (zs.getD ((j - 1) / 32) 0 ||| (1 * 2 ^ ((j - 1) % 32))), by simpa using hzl, by rw [Nat.one_mul, hlow.1]; exact Limbs.set hz hlow.2, by rw [Nat.one_mul, hlow.1]; exact hp1.take hz (by omega) hge, rfl, rfl⟩ (zA rfl (zA rfl (zA rfl (zA rfl (zA rfl zK))))) (Heap.le.refl _)
   ·try simp only [decide_eq_false_iff_not, Int.not_le] at hc28
    have hlt : (2 * r + val xs / 2 ^ (j - 1) % 2) < val ys := by rcases Nat.lt_or_ge (2 * r + val xs / 2 ^ (j - 1) % 2) (val ys) with h | h; exact h; exact absurd (bgB.2 h) (by omega)
    refine .skip ?_
    refine Block.go ?_
    refine Next.go ?_
    refine Meets.mk (M := fun env H2 => ∃ (r2 : Nat) (zs2 : List Nat), zs2.length = xs.length ∧ Limbs zs2 ∧ PartsOK (val xs) (val ys) zs2 r2 (j - 1) ∧ env = [(0, .slice 1 (U .u32 xs) tl), (1, .slice 1 (U .u32 ys) tl2), (6, .mslice (some ⟨b11, 0, none⟩) xs.length xs.length), (7, aaG r2), (8, .int .i64 ((j - 1 : Nat) : Int))] ∧ H2 = H.set b11 (.box 112 (U .u32 zs2))) ⟨_, zs, hzl, hz, hp1.stay hlt, rfl, rfl⟩ (zA rfl (zA rfl (zA rfl (zA rfl (zA rfl zK))))) (Heap.le.refl _)
  ·rintro _ _ ⟨r2, zs2, hzl2, hz2, hp2, rfl, rfl⟩
   refine .region (.mv rfl rfl (.p rfl (zW (tm rfl) (zI 1) (by omega)) (.as rfl rfl (.ng ?_))))
   refine Round.mk (J := awQ xs ys tl tl2 b11 H) ⟨j - 1, r2, zs2, by omega, hzl2, hz2, hp2, rfl, rfl, rfl⟩ (zA rfl (zA rfl (zA rfl (zA rfl (zA rfl zK))))) (Heap.le.refl _) (by omega)
 ·try simp only [decide_eq_false_iff_not, Int.not_le] at hc17
  refine .exit ?_
  refine Next.ex ?_
  refine Next.ex ?_
  refine Block.hit ?_
  refine Next.go ?_
  refine .seq ?_
  have hj0 : j = 0 := by omega
  subst hj0
  obtain ⟨hq, hrm⟩ := hp.done
  refine AWP.frzU (t := 6) rfl hb11 (by omega) (Nat.le_refl _) (by simp only [yB]; omega) ?_
  rw [List.take_of_length_le (by omega)]
  refine .region (.mv rfl rfl (.cl rfl Tryz.call89 (evs1 rfl) (aaC zs .shared hz (by omega) _) (.mv rfl rfl (.cl rfl Tryz.call89 (evs1 rfl) (aaC (zJ r) .shared (zN r) (by omega) _) ?_))))
  rw [zT]
  refine .as rfl rfl (.as rfl rfl (.ng (.ret ?_)))
  refine Ret.go (.cons (.tmp _ _ rfl) (.cons (.tmp _ _ rfl) .nil)) _ (Heap.le.refl _) ?_
  refine ⟨?_, rfl⟩
  rw [← hq, ← hrm]; rfl
def XS (v : Nat) (H H1 : Heap) (p : Option Addr) (c : Nat) : Prop :=
 (v = 0 ∧ H1 = H) ∨ (0 < v ∧ ∃ b, p = some ⟨b, 0, none⟩ ∧ H.objs b = none ∧ (zJ v).length ≤ c ∧ c ≤ maxLen ∧ H1 = H.set b (.box 112 (U .u32 (zJ v ++ List.replicate (c - (zJ v).length) 0))))
theorem XS.le {v : Nat} {H H1 : Heap} {p : Option Addr} {c : Nat} (h : XS v H H1 p c) : H.le H1 := by
 rcases h with ⟨_, rfl⟩ | ⟨_, b, _, hb, _, _, rfl⟩
 ·exact Heap.le.refl _
 ·exact Heap.le_set hb _
theorem XS.live {v : Nat} {H H1 : Heap} {p : Option Addr} {c : Nat} (h : XS v H H1 p c) (u : Nat) : XS v (H.live u) (H1.live u) p c := by
 rcases h with ⟨h, rfl⟩ | ⟨h, b, h1, hb, h2, h3, rfl⟩
 ·exact .inl ⟨h, rfl⟩
 ·exact .inr ⟨h, b, h1, hb, h2, h3, rfl⟩
theorem avP {g : G} {sz : Nat} {tl : Tail} {v : Value} (h : RelV g (.slice sz [] tl) v) : ∃ p c, v = .slice p 0 c := by
 cases h with
 | nilSlice => exact ⟨none, 0, rfl⟩
 | voidSlice sz a => exact ⟨_, _, rfl⟩
 | slice sz xs tl b off cap vs hsz hi hr hlen hcap htl => exact ⟨_, cap, rfl⟩
theorem agD {n : Nat} (h : 0 < n) : 0 < (zJ n).length := by rw [qQ h]; simp
theorem bytes_of {l : List Nat} (h : ∀ x, x ∈ l → x < 256) : U .u8 l = (l.map UInt8.ofNat).map bv := by
 unfold U
 rw [List.map_map]
 apply List.map_congr_left
 intro x hx
 have := h x hx
 simp only [Function.comp, bv, UInt8.toNat_ofNat']
 rw [Nat.mod_eq_of_lt (by omega)]

set_option maxRecDepth 100000 in
theorem arV (xs : List Nat) (tl : Tail) (hx : Limbs xs) (hl : xs.length ≤ 1000000) (hv : 0 < val xs) (H : Heap) : ACall Tryz.prog 89 [.slice 1 (U .u32 xs) tl] H (fun y H' => ∃ p c, y = .mslice p (zJ (val xs)).length c ∧ XS (val xs) H H' p c) := by
 refine ACall.of_body Tryz.func89 rfl Tryz.ntmps89 Tryz.results89 rfl ?_
 refine .sr ?_
 refine .p rfl (zB (qI (sz := 1) (tl := .full))) ?_
 refine .nr (.mv rfl rfl (.p rfl (zV Tryz.underlying94 (tm rfl)) (.as rfl rfl (.ng (.seq (.block ?_))))))
 refine AWP.loopW (apH xs tl H) (xs.length) ⟨xs.length, Nat.le_refl _, by rw [List.take_length], rfl, rfl, rfl⟩ (zA rfl (zA rfl zK)) (Heap.le.refl _) ?_
 rintro _ _ _ ⟨n, hn, hr, rfl, rfl, hk⟩
 refine .seq ?_
 refine AWP.seqTo 15 (.bool (decide (0 < (n : Int)) && decide (((xs.getD (n - 1) 0 : Nat) : Int) = 0))) [0, 3] ?_ ?_
 ·-- region 2
  refine .region (.mv rfl rfl (.p rfl (yC (tm rfl) zD) (.mv rfl rfl ?_)))
  refine zP (t := 8) rfl (fun hg8 => ?_) (fun hg8 => ?_)
  ·have hh8 := hg8; try simp only [decide_eq_true_eq] at hh8
   refine .gp rfl rfl rfl (by assumption) (zE (tm rfl)) (.gp rfl rfl rfl (by assumption) (zE (tm rfl)) (.gp rfl rfl rfl (by assumption) (zW (tm rfl) zD (by omega)) (.gp rfl rfl rfl (by assumption) (yD (n - 1) Tryz.underlying94 Tryz.sizeOf112 (tm rfl) (tm rfl) (by omega) (by omega)) (.gp rfl rfl rfl (by assumption) (zF Tryz.isAgg112 (tm rfl)) (.gp rfl rfl rfl (by assumption) (zX (tm rfl) (zI 0)) (.p rfl (zO (tm rfl) (by assumption) (tm rfl)) (.nil ?_)))))))
   exact ⟨rfl, yP rfl (by simp_all) (zA rfl (zA rfl zK)), rfl⟩
  ·have hh8 := hg8; try simp only [decide_eq_false_iff_not, Int.not_lt] at hh8
   refine .gn rfl rfl rfl (by assumption) (.gn rfl rfl rfl (by assumption) (.gn rfl rfl rfl (by assumption) (.gn rfl rfl rfl (by assumption) (.gn rfl rfl rfl (by assumption) (.gn rfl rfl rfl (by assumption) (.p rfl (zM (tm rfl) (by assumption) zL) (.nil ?_)))))))
   exact ⟨rfl, yP rfl (by simp_all) (zA rfl (zA rfl zK)), rfl⟩
 ·refine AWP.sub [(15, _), (0, _), (3, _)] (zA rfl (zA rfl (zA rfl zK))) ?_
  refine AWP.cond (tm rfl) (fun hc15 => ?_) (fun hc15 => ?_)
  ·try simp only [decide_eq_true_eq, decide_eq_false_iff_not, Bool.not_eq_true', Bool.not_eq_false', Int.not_lt, Int.not_le, ne_eq, Decidable.not_not] at hc15
   simp only [Bool.and_eq_true, decide_eq_true_eq] at hc15
   refine .skip ?_
   refine Next.go ?_
   refine .block (.region (.mv rfl rfl (.p rfl (zW (tm rfl) zD (by omega)) (.as rfl rfl (.nil ?_)))))
   refine Block.go ?_
   refine Next.go ?_
   have hs := abI (xs := xs) (k := n - 1) (by omega)
   rw [show n - 1 + 1 = n by omega, if_pos (by omega)] at hs
   refine Round.mk (J := apH xs tl H) ⟨n - 1, by omega, by rw [← hs, hr], rfl, rfl, rfl⟩ (zA rfl (yE rfl (by rw [show ((n : Int) - 1) = ((n - 1 : Nat) : Int) by omega]) zK)) (Heap.le.refl _) (by omega)
  ·try simp only [decide_eq_true_eq, decide_eq_false_iff_not, Bool.not_eq_true', Bool.not_eq_false', Int.not_lt, Int.not_le, ne_eq, Decidable.not_not] at hc15
   simp only [Bool.and_eq_false_iff, decide_eq_false_iff_not] at hc15
   have hq : n = qD xs := by
    rcases Nat.eq_zero_or_pos n with h0 | h0
    ·subst h0; rw [← hr]; rfl
    ·have hs := abI (xs := xs) (k := n - 1) (by omega)
     rw [show n - 1 + 1 = n by omega, if_neg (by omega), hr] at hs
     exact hs.symm
   have hxt := acF hx
   rw [← hq] at hxt
   have hnz := agD hv
   refine .exit ?_
   refine Next.ex ?_
   refine Next.ex ?_
   refine Block.hit ?_
   refine Next.go ?_
   refine .sr (.e rfl (apB Tryz.underlying94 Tryz.sizeOf112 Tryz.zeroValue112 ) (.mv rfl rfl (.mv rfl rfl (.p rfl (abZ (_) Tryz.underlying94 Tryz.sizeOf112 (tm rfl) (tm rfl) rfl (by omega)) ?_))))
   refine .s rfl (arF (ys := xs.take n) Tryz.underlying94 Tryz.underlying94 Tryz.sizeOf112 Tryz.typeInfo112 Tryz.zeroValue112 (by decide) (tm rfl) (tm rfl) (by show _ * 4 ≤ _; simp only [List.length_take]; omega) (by rw [hxt]; exact hnz)) ?_
   rintro _ _ ⟨b22, c22, rfl, hb22, hc1, hc2, hH⟩
   obtain rfl := hH.symm
   rw [hxt] at hc1
   rw [hxt]
   refine .as rfl rfl (.ng (.ret ?_))
   refine Ret.go (.cons (.tmp _ _ rfl) .nil) _ (Heap.le.refl _) ?_
   exact ⟨_, c22, rfl, .inr ⟨hv, b22, rfl, hb22, hc1, hc2, rfl⟩⟩

theorem ajI (xs : List Nat) (tl : Tail) (hx : Limbs xs) (hl : xs.length ≤ 1000000) (H : Heap) : ACall Tryz.prog 89 [.slice 1 (U .u32 xs) tl] H (fun y H' => ∃ p c, y = .mslice p (zJ (val xs)).length c ∧ XS (val xs) H H' p c) := by
 rcases Nat.eq_zero_or_pos (val xs) with h | h
 ·have hc := aaC xs tl hx hl H
  intro g vs w hr s
  refine (hc g vs w hr s).mono ?_
  rintro e w' ⟨v, rfl, g', y, H', hle, hv, s', rfl, rfl⟩
  rw [h] at hv
  obtain ⟨p, c, rfl⟩ := avP hv
  refine ⟨_, rfl, g', .mslice p 0 c, _, hle, .mslice _ _ _, s', p, c, ?_, .inl ⟨h, rfl⟩⟩
  rw [h]; rfl
 ·exact arV xs tl hx hl h H
theorem bfX {a v : Nat} {l : List Nat} (hv : 0 < v) (h : dec a = (if v = 0 then [] else dec v) ++ (l.map UInt8.ofNat).reverse) : dec a = (if v / 10 = 0 then [] else dec (v / 10)) ++ ((l ++ [48 + v % 10]).map UInt8.ofNat).reverse := by
 rw [h, if_neg (by omega), List.map_append, List.reverse_append]
 by_cases h10 : v < 10
 ·rw [ajO h10, if_pos (by omega), Nat.mod_eq_of_lt h10]; rfl
 ·rw [ajP (by omega), if_neg (by omega), List.append_assoc]; rfl
theorem bgH {zs : List Nat} {m : Int} (c : Nat) (hm : m = (c : Int)) : U .u8 zs ++ [.int .u8 m] = U .u8 (zs ++ [c]) := by
 subst hm; rw [← aqU]; rfl
theorem shl_r {r : Nat} (h : r < 10) : r * 2 ^ 32 < 18446744073709551616 := by rw [anI]; omega
theorem take_app {ws ts : List Nat} {n : Nat} (h : ws.length = n) : (ws ++ ts).take n = ws := by subst h; exact List.take_left
theorem axT {ws ts : List Nat} {k : Nat} (h : k < ws.length) : (ws ++ ts).getD k 0 = ws.getD k 0 := by
 rw [List.getD_eq_getElem?_getD, List.getD_eq_getElem?_getD, List.getElem?_append_left h]
theorem live_set (H : Heap) (b t u : Nat) (o : AObj) : ((H.set b o).kill t).live u = ((H.kill t).live u).set b o := rfl
theorem rev_next {l : List Nat} {j : Nat} (h : j < l.length) : (l.drop (j + 1)).reverse ++ [l.getD j 0] = (l.drop j).reverse := by
 rw [List.drop_eq_getElem_cons h, List.reverse_cons, List.getD_eq_getElem?_getD, List.getElem?_eq_getElem h]; rfl

def rdig_J (a : Nat) (H : Heap) : Nat → Env → Heap → Prop := fun k env H1 => ∃ (v : Nat) (p : Option Addr) (c t : Nat) (l : List Nat) (Hb : Heap), v < BIG ∧ (∀ x, x ∈ l → x < 256) ∧ dec a = (if v = 0 then [] else dec v) ++ (l.map UInt8.ofNat).reverse ∧ XS v Hb H1 p c ∧ H.le Hb ∧ Hb.toks t = true ∧ H.toks t = false ∧ env = [(3, .mslice p (zJ v).length c), (4, .slice 1 (U .u8 l) (.own t))] ∧ k = v

def bdP (v b c t : Nat) (l : List Nat) (ts : List Nat) (Hb : Heap) : Nat → Env → Heap → Prop := fun k env H1 => ∃ (j r : Nat) (ws : List Nat), j ≤ (zJ v).length ∧ ws.length = (zJ v).length ∧ Limbs ws ∧ r < 10 ∧ (∀ q, q < j → ws.getD q 0 = (zJ v).getD q 0) ∧ val (ws.drop j) * 10 + r = val ((zJ v).drop j) ∧ env = [(3, .mslice (some ⟨b, 0, none⟩) (zJ v).length c), (4, .slice 1 (U .u8 l) (.own t)), (5, .int .u64 (r : Int)), (6, .int .i64 ((j : Int) - 1))] ∧ H1 = Hb.set b (.box 112 (U .u32 (ws ++ ts))) ∧ k = j

def rrev_J (l : List Nat) (tl : Tail) (H : Heap) : Nat → Env → Heap → Prop := fun k env H1 => ∃ (j t : Nat), j ≤ l.length ∧ env = [(4, .slice 1 (U .u8 l) tl), (8, .slice 1 (U .u8 (l.drop j).reverse) (.own t)), (9, .int .i64 ((j : Int) - 1))] ∧ H.le H1 ∧ H1.toks t = true ∧ H.toks t = false ∧ k = j

set_option maxRecDepth 100000 in
theorem ahL (xs : List Nat) (tl : Tail) (hx : Limbs xs) (hl : xs.length ≤ 1000000) (hB : val xs < BIG) (H : Heap) : ACall Tryz.prog 126 [.slice 1 (U .u32 xs) tl] H (fun y H' => y = .str (dec (val xs)) ∧ H' = H) := by
 have hle0 := Heap.le.refl H
 have hdl := amM hB
 refine ACall.of_body Tryz.func126 rfl Tryz.ntmps126 Tryz.results126 rfl ?_
 refine .sr (.p rfl (zB (zU rfl)) (.nr (.mv rfl rfl (.s rfl (zQ Tryz.call89 (evs1 rfl) (ajI xs tl hx hl _)) ?_))))
 rintro _ H2 ⟨p2, c2, rfl, hxs2⟩
 have hle2 := hxs2.le
 refine .as rfl rfl (.ng (.seq (.sr (.mv rfl rfl (.p rfl (aaE Tryz.underlying94 (tm rfl)) (.p rfl (zX (tm rfl) (zI 0)) (.ng ?_)))))))
 refine AWP.cond (tm rfl) (fun hc14 => ?_) (fun hc14 => ?_)
 ·try simp only [decide_eq_true_eq] at hc14
  refine .sr (.p rfl (zB (zU rfl)) (.ng (.ret ?_)))
  refine Next.rt ?_
  refine Ret.go (.cons (.tmp _ _ rfl) .nil) _ (hle2) ?_
  refine ⟨?_, rfl⟩
  have h0 : val xs = 0 := by
   rcases Nat.eq_zero_or_pos (val xs) with h | h
   ·exact h
   ·have := agD h; omega
  rw [h0]; rfl
 ·try simp only [decide_eq_false_iff_not] at hc14
  have hpos : 0 < val xs := by
   rcases Nat.eq_zero_or_pos (val xs) with h | h
   ·rw [h] at hc14; exact absurd rfl hc14
   ·exact h
  refine .skip ?_
  refine Next.go ?_
  refine .sr ?_
  refine .p rfl (zB (qI (sz := 1) (tl := .full))) ?_
  refine .ng (.seq (.block ?_))
  refine AWP.tag (t := 4) rfl (fun u4 hu4 => ?_)
  have hfu4 := Heap.fresh_of hle2 hu4
  have hleu4 := Heap.le_in hle2 u4
  refine AWP.loopW (rdig_J (val xs) H) (val xs) ⟨val xs, p2, c2, u4, [], H.live u4, hB, by simp, by rw [if_neg (by omega)]; simp, hxs2.live u4, Heap.le_live _ _, Heap.toks_live_same _ _, hfu4, rfl, rfl⟩ (zA rfl (zA rfl zK)) (Heap.le.refl _) ?_
  rintro _ _ H1 ⟨v, p, c, t, l, Hb, hvB, hl8, hd, hxs, hlb, hlive, hfr, rfl, hk⟩
  have hll : l.length ≤ 2500 := by have := congrArg List.length hd; rw [List.length_append, List.length_reverse, List.length_map] at this; omega
  refine .seq (.sr (.mv rfl rfl (.p rfl (aaE Tryz.underlying94 (tm rfl)) (.p rfl (yC (tm rfl) (zI 0)) (.ng ?_)))))
  refine AWP.cond (tm rfl) (fun hc17 => ?_) (fun hc17 => ?_)
  ·try simp only [decide_eq_true_eq] at hc17
   have hvp : 0 < v := by
    rcases Nat.eq_zero_or_pos v with h | h
    ·rw [h] at hc17; exact absurd hc17 (by decide)
    ·exact h
   obtain ⟨_, b, rfl, hb, hcl, hcm, rfl⟩ := hxs.resolve_left (by rintro ⟨h, _⟩; omega)
   have hlv := yS hvB
   generalize hts : List.replicate (c - (zJ v).length) 0 = ts
   refine .skip ?_
   refine Next.go ?_
   refine .block (.sr (.p rfl (zB (zI 0)) (.ng (.seq (.sr (.mv rfl rfl (.p rfl (aaE Tryz.underlying94 (tm rfl)) (.p rfl (zW (tm rfl) (zI 1) (by omega)) ?_))))))))
   refine .as rfl rfl (.ng (.block ?_))
   refine AWP.loopW (bdP v b c t l ts Hb) ((zJ v).length) ⟨(zJ v).length, 0, zJ v, Nat.le_refl _, rfl, zN _, by decide, fun _ _ => rfl, by simp [val], rfl, rfl, rfl⟩ (zA rfl (zA rfl (zA rfl (zA rfl zK)))) (Heap.le.refl _) ?_
   rintro _ _ _ ⟨j, r, ws, hj, hwl, hwL, hr, hgs, hv, rfl, rfl, hk2⟩
   refine .seq (.sr (.mv rfl rfl (.p rfl (yW (tm rfl) (zI 0)) (.ng ?_))))
   refine AWP.cond (tm rfl) (fun hc22 => ?_) (fun hc22 => ?_)
   ·try simp only [decide_eq_true_eq] at hc22
    have hgv := Limbs.getD (zN v) (j - 1)
    have hgw := hwL.getD (j - 1)
    have hts8 := hgs (j - 1) (by omega)
    have hta := axT (ts := ts) (by omega : j - 1 < ws.length)
    have hv1 : val (ws.drop (j - 1 + 1)) * 10 + r = val ((zJ v).drop (j - 1 + 1)) := by rw [show j - 1 + 1 = j by omega]; exact hv
    obtain ⟨hf1, hf2⟩ := anR hr hgv (by decide : (10 : Nat) < 4294967296)
    refine .skip ?_
    refine Next.go ?_
    refine .seq (.block (.sr (.mv rfl rfl (.p rfl (qX (tm rfl) (zI 32) (by omega) (by exact shl_r hr)) (.mv rfl rfl (.mv rfl rfl (.p rfl (yM (j - 1) Tryz.underlying94 Tryz.sizeOf112 (tm rfl) (tm rfl) (by omega) (by omega)) (.e rfl (qG Tryz.isAgg112 (tm rfl) (Heap.objs_set_same _ _ _) (by (rw [List.length_append]; omega))) ?_))))))))
    refine .p rfl (yA Tryz.underlying112 Tryz.underlying30 (tm rfl) (wrapN64 (by omega))) (.p rfl (yK (tm rfl) (tm rfl) (by omega)) (.as rfl rfl (.ng (.seq ?_))))
    rw [axT (by omega : j - 1 < ws.length), hgs (j - 1) (by omega), anI]
    refine .region (.mv rfl rfl (.mv rfl rfl (.mv rfl rfl (.p rfl (aiM (tm rfl) (zI 10) (by assumption) (by omega)) (.p rfl (yN Tryz.underlying30 Tryz.underlying112 rfl (tm rfl)) (.p rfl (yM (j - 1) Tryz.underlying94 Tryz.sizeOf112 (tm rfl) (tm rfl) (by omega) (by omega)) (.e0 (qF Tryz.sizeOf112 (tm rfl) (tm rfl) (Heap.objs_set_same _ _ _) (by (rw [List.length_append]; omega))) ?_)))))))
    try first | rw [Heap.set_set] | rw [Heap.set_under (by assumption)]
    refine .ng (.region (.mv rfl rfl (.p rfl (qW (tm rfl) (zI 10) (by omega)) (.as rfl rfl (.nil ?_)))))
    refine Block.go ?_
    refine Next.go ?_
    refine .region (.mv rfl rfl (.p rfl (zW (tm rfl) (zI 1) (by omega)) (.as rfl rfl (.ng ?_))))
    rw [List.set_append_left _ _ (by omega), Nat.mod_eq_of_lt (show _ < 2 ^ IntKind.u32.bits from hf1)]
    refine Round.mk (J := bdP v b c t l ts Hb) ⟨j - 1, _, _, by omega, by simpa using hwl, Limbs.set hwL hf1, Nat.mod_lt _ (by decide), fun q hq => by rw [getD_set_ne (by omega)]; exact hgs q (by omega), anQ (by decide) (by omega) hwl (hgs _ (by omega)) hv1, rfl, rfl, rfl⟩ (zA rfl (zA rfl (zA rfl (yE rfl (by congr 1; omega) zK)))) (Heap.le.refl _) (by omega)
   ·try simp only [decide_eq_false_iff_not, Int.not_le] at hc22
    have hj0 : j = 0 := by omega
    subst hj0
    rw [List.drop_zero, List.drop_zero, zT] at hv
    have hwv : val ws = v / 10 := by omega
    have hrv : r = v % 10 := by omega
    refine .exit ?_
    refine Next.ex ?_
    refine Next.ex ?_
    refine Block.hit ?_
    refine Next.go ?_
    refine .sr (.mv rfl rfl (.mv rfl rfl (.p rfl (yK (zI 48) (tm rfl) (by omega)) (.p rfl (yN Tryz.underlying30 Tryz.underlying5 rfl (tm rfl)) (.e rfl (qV Tryz.underlying174 Tryz.sizeOf5 Tryz.zeroValue5 rfl (tm rfl) (.inl rfl) ⟨rfl, rfl⟩) ?_)))))
    refine .s rfl (abD Tryz.underlying174 Tryz.underlying174 Tryz.sizeOf5 Tryz.typeInfo5 Tryz.zeroValue5 rfl (by decide) (tm rfl) (tm rfl) (by exact .own _ (show Heap.toks _ _ = true from hlive)) (by show (_ + _) * 1 ≤ _; simp only [acW, List.length_cons, List.length_nil]; omega) (by repeat' (first | exact yO _ | exact aaT | exact aeE ⟨rfl, rfl⟩ aaT | exact aaI (yO _) | exact aaH (yO _) | refine aaY ?_ ?_ | exact aiF _ _)) (by repeat' (first | exact yO _ | exact aaT | exact aeE ⟨rfl, rfl⟩ aaT | exact aaI (yO _) | exact aaH (yO _) | refine aaY ?_ ?_))) ?_
    rintro _ _ ⟨t46, ht46, rfl, hH⟩
    obtain rfl := hH.symm
    have hf46 := Heap.fresh_of hlb ht46
    have hle46 := Heap.le_in (Heap.le_out (t := t) hlb (by assumption)) t46
    refine .as rfl rfl (.ng ?_)
    rw [live_set]
    refine AWP.frzU (t := 3) rfl (show Heap.objs _ _ = none from hb) (by simp only [List.length_append]; omega) hcl hcm ?_
    rw [take_app hwl]
    refine .region (.mv rfl rfl (.s rfl (zQ Tryz.call89 (evs1 rfl) (ajI ws .shared hwL (by omega) _)) ?_))
    rintro _ H3 ⟨p3, c3, rfl, hxs3⟩
    refine .as rfl rfl (.nil ?_)
    refine Block.go ?_
    refine Next.go ?_
    refine Round.mk (J := rdig_J (val xs) H) ⟨val ws, p3, c3, t46, l ++ [48 + v % 10], _, by omega, fun x hx => by rcases List.mem_append.1 hx with h | h; exact hl8 x h; rw [List.mem_singleton.1 h]; omega, by rw [hwv]; exact bfX hvp hd, hxs3, hle46, Heap.toks_live_same _ _, hf46, rfl, rfl⟩ (zA rfl (yE rfl (acM (bgH _ (by rw [hrv]; simp only [IntKind.bits]; omega))) zK)) (Heap.le.refl _) (by omega)
  ·try simp only [decide_eq_false_iff_not, Int.not_lt] at hc17
   have hv0 : v = 0 := by
    rcases Nat.eq_zero_or_pos v with h | h
    ·exact h
    ·have := agD h; omega
   subst hv0
   obtain ⟨_, rfl⟩ := hxs.resolve_right (by rintro ⟨h, _⟩; omega)
   rw [if_pos rfl, List.nil_append] at hd
   refine .exit ?_
   refine Next.ex ?_
   refine Next.ex ?_
   refine Block.hit ?_
   refine Next.go ?_
   refine .sr ?_
   refine .p rfl (zB (qI (sz := 1) (tl := .full))) ?_
   refine .ng (.seq (.sr (.mv rfl rfl (.p rfl (zV Tryz.underlying174 (tm rfl)) (.p rfl (zW (tm rfl) (zI 1) (by omega)) (.as rfl rfl (.ng (.block ?_))))))))
   refine AWP.tag (t := 8) rfl (fun u8 hu8 => ?_)
   have hfu8 := Heap.fresh_of hlb hu8
   have hleu8 := Heap.le_in hlb u8
   refine AWP.loopW (rrev_J l (.own t) H) (l.length) ⟨l.length, u8, Nat.le_refl _, rfl, hleu8, Heap.toks_live_same _ _, hfu8, rfl⟩ (zA rfl (yE rfl (acM (by rw [List.drop_length]; rfl)) (zA rfl zK))) (Heap.le.refl _) ?_
   rintro _ _ H4 ⟨j, t8, hj, rfl, hle4, hlive4, hfr4, hk4⟩
   refine .seq (.sr (.mv rfl rfl (.p rfl (yW (tm rfl) (zI 0)) (.ng ?_))))
   refine AWP.cond (tm rfl) (fun hc53 => ?_) (fun hc53 => ?_)
   ·try simp only [decide_eq_true_eq] at hc53
    refine .skip ?_
    refine Next.go ?_
    refine .seq (.block (.region (.mv rfl rfl (.mv rfl rfl (.mv rfl rfl (.p rfl (yD (j - 1) Tryz.underlying174 Tryz.sizeOf5 (tm rfl) (tm rfl) (by omega) (by omega)) (.p rfl (zF Tryz.isAgg5 (tm rfl)) (.e rfl (qV Tryz.underlying174 Tryz.sizeOf5 Tryz.zeroValue5 rfl (tm rfl) (.inl rfl) ⟨rfl, rfl⟩) ?_))))))))
    refine .s rfl (abD Tryz.underlying174 Tryz.underlying174 Tryz.sizeOf5 Tryz.typeInfo5 Tryz.zeroValue5 rfl (by decide) (tm rfl) (tm rfl) (by exact .own _ (by assumption)) (by show (_ + _) * 1 ≤ _; simp only [acW, List.length_cons, List.length_nil, List.length_reverse, List.length_drop]; omega) (by repeat' (first | exact yO _ | exact aaT | exact aeE ⟨rfl, rfl⟩ aaT | exact aaI (yO _) | exact aaH (yO _) | refine aaY ?_ ?_ | exact aiF _ _)) (by repeat' (first | exact yO _ | exact aaT | exact aeE ⟨rfl, rfl⟩ aaT | exact aaI (yO _) | exact aaH (yO _) | refine aaY ?_ ?_))) ?_
    rintro _ _ ⟨t62, ht62, rfl, hH⟩
    obtain rfl := hH.symm
    have hf62 := Heap.fresh_of hle4 ht62
    have hle62 := Heap.le_in (Heap.le_out (t := t8) hle4 (by assumption)) t62
    refine .as rfl rfl (.nil ?_)
    refine Block.go ?_
    refine Next.go ?_
    refine .region (.mv rfl rfl (.p rfl (zW (tm rfl) (zI 1) (by omega)) (.as rfl rfl (.ng ?_))))
    refine Round.mk (J := rrev_J l (.own t) H) ⟨j - 1, t62, by omega, rfl, hle62, Heap.toks_live_same _ _, hf62, rfl⟩ (zA rfl (yE rfl (acM (by rw [← rev_next (l := l) (j := j - 1) (by omega), show j - 1 + 1 = j by omega]; exact bgH _ rfl)) (yE rfl (by congr 1; omega) zK))) (Heap.le.refl _) (by omega)
   ·try simp only [decide_eq_false_iff_not, Int.not_le] at hc53
    refine .exit ?_
    refine Next.ex ?_
    refine Next.ex ?_
    refine Block.hit ?_
    refine Next.go ?_
    refine .seq ?_
    have hj0 : j = 0 := by omega
    subst hj0
    rw [List.drop_zero, bytes_of (l := l.reverse) (fun x hx => hl8 x (by simpa using hx))]
    refine .region (.mv rfl rfl (.e rfl (ayT Tryz.underlying174 Tryz.underlying9 Tryz.underlying5 (tm rfl)) (.as rfl rfl (.ng (.ret ?_)))))
    refine Ret.go (.cons (.tmp _ _ rfl) .nil) _ (hle4) ?_
    refine ⟨?_, rfl⟩
    rw [hd, List.map_reverse]; rfl
theorem up_pow (v n : Nat) : 4294967296 ^ (n / 32) * v * 2 ^ (n % 32) = v * 2 ^ n := by
 have e2 : (4294967296 : Nat) ^ (n / 32) * 2 ^ (n % 32) = 2 ^ n := by
  rw [show (4294967296 : Nat) = 2 ^ 32 by decide, ← Nat.pow_mul, ← Nat.pow_add, Nat.div_add_mod]
 rw [Nat.mul_comm _ v, Nat.mul_assoc, e2]
theorem up_small {v n i : Nat} (h : v * 2 ^ n < BIG) (hi : i < n % 32) : 2 * (4294967296 ^ (n / 32) * v * 2 ^ i) < BIG := by
 refine Nat.lt_of_le_of_lt ?_ h
 rw [← up_pow v n, Nat.mul_comm 2, Nat.mul_assoc _ (2 ^ i), ← Nat.pow_succ]
 exact Nat.mul_le_mul_left _ (Nat.pow_le_pow_right (by decide) hi)
set_option maxRecDepth 100000 in
theorem azM (v : Nat) (hv : v < 18446744073709551616) (H : Heap) : ACall Tryz.prog 83 [.int .u64 (v : Int)] H (fun y H' => y = aaG v ∧ H' = H) := by
 refine ACall.of_body Tryz.func83 rfl Tryz.ntmps83 Tryz.results83 rfl ?_
 refine .sr ?_
 refine .p rfl (zB (qI (sz := 1) (tl := .full))) ?_
 refine .nr (.mv rfl rfl (.cl rfl Tryz.call128 (evs1 rfl) (bdR _ (by assumption) _) (.as rfl rfl (.ng (.ret ?_)))))
 refine Ret.go (.cons (.tmp _ _ rfl) .nil) _ (Heap.le.refl _) ?_
 exact ⟨rfl, rfl⟩

def rup_J (xs : List Nat) (tl : Tail) (n : Nat) (H : Heap) : Nat → Env → Heap → Prop := fun k env H1 => ∃ (i : Nat) (zs : List Nat) (tl2 : Tail), i ≤ n % 32 ∧ Limbs zs ∧ zs.length ≤ 20000 ∧ val zs = 4294967296 ^ (n / 32) * val xs * 2 ^ i ∧ env = [(0, .slice 1 (U .u32 xs) tl), (1, .int .i64 (n : Int)), (5, .slice 1 (U .u32 zs) tl2), (6, .int .i64 (i : Int))] ∧ H = H1 ∧ k = n % 32 - i

set_option maxRecDepth 100000 in
theorem alG (xs : List Nat) (tl : Tail) (hx : Limbs xs) (hl : xs.length ≤ 10000) (n : Nat) (hn : n ≤ 100000) (q : Int) (hq : q = (n : Int)) (hB : val xs * 2 ^ n < BIG) (H : Heap) : ACall Tryz.prog 57 [.slice 1 (U .u32 xs) tl, .int .i64 q] H (fun y H' => y = aaG (val xs * 2 ^ n) ∧ H' = H) := by
 subst hq
 refine ACall.of_body Tryz.func57 rfl Tryz.ntmps57 Tryz.results57 rfl ?_
 refine .sr ?_
 refine .p rfl (zB (qI (sz := 1) (tl := .full))) ?_
 refine .nr (.mv rfl rfl (.p rfl (abE (tm rfl) (zI 32) (by omega) (by omega)) (.s rfl (yT (n / 32) Tryz.underlying94 Tryz.typeInfo112 Tryz.sizeOf112 Tryz.zeroValue112 (tm rfl) (tm rfl) (by omega) (by omega) (by decide) (by omega)) ?_)))
 rintro _ _ ⟨b9, rfl, hb9, hH⟩
 obtain rfl := hH.symm
 refine .as rfl rfl (.ng (.seq ?_))
 refine AWP.frzUF (t := 5) rfl hb9 (by simp) rfl (by simp only [yB]; omega) ?_
 rw [List.take_of_length_le (by simp)]
 refine .region (.mv rfl rfl (.mv rfl rfl ?_))
 refine .e rfl (ajA Tryz.underlying94 Tryz.underlying94 Tryz.sizeOf112 Tryz.typeInfo112 Tryz.zeroValue112 rfl (by decide) (tm rfl) (tm rfl) (by show (_ + _) * 4 ≤ _; simp only [acW, List.length_replicate]; omega) (by repeat' (first | exact yO _ | exact aaT | exact aeE ⟨rfl, rfl⟩ aaT | exact aaI (yO _) | exact aaH (yO _) | refine aaY ?_ ?_ | exact aiF _ _)) (by repeat' (first | exact yO _ | exact aaT | exact aeE ⟨rfl, rfl⟩ aaT | exact aaI (yO _) | exact aaH (yO _) | refine aaY ?_ ?_ | exact aiF _ _))) ?_
 refine .as rfl rfl (.ng (.seq (.sr (.p rfl (zB (zI 0)) (.ng (.block ?_))))))
 refine AWP.loopW (rup_J xs tl n H) (n % 32) ⟨0, List.replicate (n / 32) 0 ++ xs, .shared, Nat.zero_le _, (Limbs.rep (by decide)).append hx, by simp; omega, by rw [qR, aiH, List.length_replicate]; omega, rfl, rfl, rfl⟩ (zA rfl (zA rfl (yE rfl (acM (aqU _ _ _)) (zA rfl zK)))) (Heap.le.refl _) ?_
 rintro _ _ _ ⟨i, zs, tl2, hi, hz, hzl, hv, rfl, rfl, hk⟩
 refine .seq (.sr (.mv rfl rfl (.mv rfl rfl (.p rfl (adN (tm rfl) (zI 32) (by omega)) (.p rfl (zZ (tm rfl) (tm rfl)) (.ng ?_))))))
 refine AWP.cond (tm rfl) (fun hc16 => ?_) (fun hc16 => ?_)
 ·try simp only [decide_eq_true_eq] at hc16
  refine .skip ?_
  refine Next.go ?_
  refine .seq (.block (.region (.mv rfl rfl (.cl rfl Tryz.call90 (.cons (tm rfl) (.cons zL .nil)) (ajH zs tl2 hz (by omega) false _) ?_))))
  have hsm := yS (up_small hB (show i < n % 32 by omega))
  rw [← hv] at hsm
  refine .as rfl rfl (.nil ?_)
  refine Block.go ?_
  refine Next.go ?_
  refine .region (.mv rfl rfl (.p rfl (zS (tm rfl) (zI 1) (by omega)) (.as rfl rfl (.ng ?_))))
  refine Round.mk (J := rup_J xs tl n H) ⟨i + 1, zJ (2 * val zs), .shared, by omega, zN _, by omega, by rw [zT, hv, Nat.pow_succ, Nat.mul_comm 2, Nat.mul_assoc], rfl, rfl, rfl⟩ (zA rfl (zA rfl (zA rfl (zA rfl zK)))) (Heap.le.refl _) (by omega)
 ·try simp only [decide_eq_false_iff_not, Int.not_lt] at hc16
  refine .exit ?_
  refine Next.ex ?_
  refine Next.ex ?_
  refine Block.hit ?_
  refine Next.go ?_
  refine .sr (.mv rfl rfl (.cl rfl Tryz.call89 (evs1 rfl) (aaC _ _ (by assumption) (by omega) _) (.as rfl rfl (.ng (.ret ?_)))))
  refine Ret.go (.cons (.tmp _ _ rfl) .nil) _ (Heap.le.refl _) ?_
  refine ⟨?_, rfl⟩
  have hi2 : i = n % 32 := by omega
  rw [hv, hi2, up_pow]; rfl

def awT (n : Nat) (H : Heap) : Nat → Env → Heap → Prop := fun k env H1 => ∃ (i : Nat) (tl : Tail), i ≤ n ∧ env = [(0, .int .i64 (n : Int)), (3, .slice 1 (U .u32 (zJ (5 ^ i))) tl), (4, .int .i64 (i : Int))] ∧ H = H1 ∧ k = n - i

set_option maxRecDepth 100000 in
theorem arO (n : Nat) (hn : n ≤ 100000) (q : Int) (hq : q = (n : Int)) (hB : 5 ^ n < BIG) (H : Heap) : ACall Tryz.prog 127 [.int .i64 q] H (fun y H' => y = aaG (5 ^ n) ∧ H' = H) := by
 subst hq
 refine ACall.of_body Tryz.func127 rfl Tryz.ntmps127 Tryz.results127 rfl ?_
 refine .sr ?_
 refine .p rfl (zB (qI (sz := 1) (tl := .full))) ?_
 refine .nr (.e rfl (qV Tryz.underlying94 Tryz.sizeOf112 Tryz.zeroValue112 rfl (zI 1) (.inl rfl) ⟨rfl, rfl⟩) (.as rfl rfl (.ng (.seq (.sr (.p rfl (zB (zI 0)) (.ng (.block ?_))))))))
 refine AWP.loopW (awT n H) (n) ⟨0, .full, Nat.zero_le _, rfl, rfl, rfl⟩ (zA rfl (yE rfl (acM rfl) (zA rfl zK))) (Heap.le.refl _) ?_
 rintro _ _ _ ⟨i, tl, hi, rfl, rfl, hk⟩
 have hl := yS (n := 5 ^ i) (Nat.lt_of_le_of_lt (Nat.pow_le_pow_right (by decide) hi) hB)
 refine .seq (.sr (.mv rfl rfl (.mv rfl rfl (.p rfl (zZ (tm rfl) (tm rfl)) (.ng ?_)))))
 refine AWP.cond (tm rfl) (fun hc8 => ?_) (fun hc8 => ?_)
 ·try simp only [decide_eq_true_eq] at hc8
  refine .skip ?_
  refine Next.go ?_
  refine .seq (.block (.region (.mv rfl rfl (.e rfl (qV Tryz.underlying94 Tryz.sizeOf112 Tryz.zeroValue112 rfl (zI 5) (.inl rfl) ⟨rfl, rfl⟩) (.cl rfl Tryz.call53 (evs2 rfl rfl) (acR (zJ (5 ^ i)) tl (zN _) (by omega) [5] .full (Limbs.mk (by decide) Limbs.nil) (by decide) _) ?_)))))
  rw [zT, show val [5] = 5 from rfl, ← Nat.pow_succ]
  refine .as rfl rfl (.nil ?_)
  refine Block.go ?_
  refine Next.go ?_
  refine .region (.mv rfl rfl (.p rfl (zS (tm rfl) (zI 1) (by omega)) (.as rfl rfl (.ng ?_))))
  refine Round.mk (J := awT n H) ⟨i + 1, .shared, by omega, rfl, rfl, rfl⟩ (zA rfl (zA rfl (zA rfl zK))) (Heap.le.refl _) (by omega)
 ·try simp only [decide_eq_false_iff_not, Int.not_lt] at hc8
  refine .exit ?_
  refine Next.ex ?_
  refine Next.ex ?_
  refine Block.hit ?_
  refine Next.go ?_
  refine .sr (.mv rfl rfl (.as rfl rfl (.ng (.ret ?_))))
  refine Ret.go (.cons (.weak _ _ _ rfl (.slice _ _ _)) .nil) _ (Heap.le.refl _) ?_
  refine ⟨?_, rfl⟩
  rw [show i = n by omega]; rfl

def rten_J (n : Nat) (H : Heap) : Nat → Env → Heap → Prop := fun k env H1 => ∃ (i : Nat) (tl : Tail), i ≤ n ∧ env = [(0, .int .i64 (n : Int)), (3, .slice 1 (U .u32 (zJ (10 ^ i))) tl), (4, .int .i64 (i : Int))] ∧ H = H1 ∧ k = n - i

set_option maxRecDepth 100000 in
theorem anU (n : Nat) (hn : n ≤ 100000) (q : Int) (hq : q = (n : Int)) (hB : 10 ^ n < BIG) (H : Heap) : ACall Tryz.prog 54 [.int .i64 q] H (fun y H' => y = aaG (10 ^ n) ∧ H' = H) := by
 subst hq
 refine ACall.of_body Tryz.func54 rfl Tryz.ntmps54 Tryz.results54 rfl ?_
 refine .sr ?_
 refine .p rfl (zB (qI (sz := 1) (tl := .full))) ?_
 refine .nr (.e rfl (qV Tryz.underlying94 Tryz.sizeOf112 Tryz.zeroValue112 rfl (zI 1) (.inl rfl) ⟨rfl, rfl⟩) (.as rfl rfl (.ng (.seq (.sr (.p rfl (zB (zI 0)) (.ng (.block ?_))))))))
 refine AWP.loopW (rten_J n H) (n) ⟨0, .full, Nat.zero_le _, rfl, rfl, rfl⟩ (zA rfl (yE rfl (acM rfl) (zA rfl zK))) (Heap.le.refl _) ?_
 rintro _ _ _ ⟨i, tl, hi, rfl, rfl, hk⟩
 have hl := yS (n := 10 ^ i) (Nat.lt_of_le_of_lt (Nat.pow_le_pow_right (by decide) hi) hB)
 refine .seq (.sr (.mv rfl rfl (.mv rfl rfl (.p rfl (zZ (tm rfl) (tm rfl)) (.ng ?_)))))
 refine AWP.cond (tm rfl) (fun hc8 => ?_) (fun hc8 => ?_)
 ·try simp only [decide_eq_true_eq] at hc8
  refine .skip ?_
  refine Next.go ?_
  refine .seq (.block (.region (.mv rfl rfl (.e rfl (qV Tryz.underlying94 Tryz.sizeOf112 Tryz.zeroValue112 rfl (zI 10) (.inl rfl) ⟨rfl, rfl⟩) (.cl rfl Tryz.call53 (evs2 rfl rfl) (acR (zJ (10 ^ i)) tl (zN _) (by omega) [10] .full (Limbs.mk (by decide) Limbs.nil) (by decide) _) ?_)))))
  rw [zT, show val [10] = 10 from rfl, ← Nat.pow_succ]
  refine .as rfl rfl (.nil ?_)
  refine Block.go ?_
  refine Next.go ?_
  refine .region (.mv rfl rfl (.p rfl (zS (tm rfl) (zI 1) (by omega)) (.as rfl rfl (.ng ?_))))
  refine Round.mk (J := rten_J n H) ⟨i + 1, .shared, by omega, rfl, rfl, rfl⟩ (zA rfl (zA rfl (zA rfl zK))) (Heap.le.refl _) (by omega)
 ·try simp only [decide_eq_false_iff_not, Int.not_lt] at hc8
  refine .exit ?_
  refine Next.ex ?_
  refine Next.ex ?_
  refine Block.hit ?_
  refine Next.go ?_
  refine .sr (.mv rfl rfl (.as rfl rfl (.ng (.ret ?_))))
  refine Ret.go (.cons (.weak _ _ _ rfl (.slice _ _ _)) .nil) _ (Heap.le.refl _) ?_
  refine ⟨?_, rfl⟩
  rw [show i = n by omega]; rfl
end Go.Proofs.YtfkeflcdadlmdaaGreatDoor
