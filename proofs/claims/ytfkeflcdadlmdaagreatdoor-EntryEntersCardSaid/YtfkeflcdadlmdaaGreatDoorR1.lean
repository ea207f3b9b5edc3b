import Derived.Test.YtfkeflcdadlmdaaGreatDoorYd
import Derived.Test.YtfkeflcdadlmdaaGreatDoorSsk
import Derived.Test.YtfkeflcdadlmdaaGreatDoorN2
import Derived.Test.YtfkeflcdadlmdaaGreatDoorN1
import Derived.Test.YtfkeflcdadlmdaaGreatDoorS6
namespace Go.Proofs.YtfkeflcdadlmdaaGreatDoor
open Go Go.RowKit

theorem bdT {x c : Nat} (hx : x < 4294967296) (hc : c ≤ 1) : 2 * x + c < 18446744073709551616 ∧ (2 * x + c) / 4294967296 ≤ 1 := by omega
theorem bbV {zs xs : List Nat} {i c : Nat} (hi : zs.length = i) {d : Nat} (h : val zs + 4294967296 ^ i * c = 2 * val (xs.take i) + d) :
  val (zs ++ [(2 * xs.getD i 0 + c) % 4294967296]) + 4294967296 ^ (i + 1) * ((2 * xs.getD i 0 + c) / 4294967296) = 2 * val (xs.take (i + 1)) + d := by
 rw [qC, hi, yT, Nat.pow_succ]
 simp only [val, Nat.mul_zero, Nat.add_zero]
 have e := Nat.mod_add_div (2 * xs.getD i 0 + c) 4294967296
 have e2 : 4294967296 ^ i * ((2 * xs.getD i 0 + c) % 4294967296) + 4294967296 ^ i * 4294967296 * ((2 * xs.getD i 0 + c) / 4294967296) = 2 * (4294967296 ^ i * xs.getD i 0) + 4294967296 ^ i * c := by
  rw [Nat.mul_assoc, ← Nat.mul_add, e, Nat.mul_add, Nat.mul_left_comm]
 omega
theorem bit_limb {xs : List Nat} (hx : Limbs xs) (i : Nat) : xs.getD (i / 32) 0 / 2 ^ (i % 32) % 2 = val xs / 2 ^ i % 2 := by
 have key : ∀ (xs : List Nat) (j : Nat), Limbs xs → xs.getD j 0 = val xs / 4294967296 ^ j % 4294967296 := by
  intro xs
  induction xs with
  | nil => intro j _; simp [val]
  | cons x xs ih =>
   intro j hl
   obtain ⟨h1, h2⟩ := hl.cons
   cases j with
   | zero => rw [Nat.pow_zero, Nat.div_one, val, Nat.add_mul_mod_self_left, Nat.mod_eq_of_lt h1]; rfl
   | succ j =>
    rw [List.getD_cons_succ, ih j h2, Nat.pow_succ, Nat.mul_comm (4294967296 ^ j), ← Nat.div_div_eq_div_mul, val, Nat.add_mul_div_left _ _ (by decide), Nat.div_eq_of_lt h1, Nat.zero_add]
 rw [key xs _ hx]
 have e : (4294967296 : Nat) = 2 ^ 32 := by decide
 rw [e, ← Nat.pow_mul]
 have h32 : i % 32 < 32 := Nat.mod_lt _ (by decide)
 generalize val xs = v
 have hi : i = 32 * (i / 32) + i % 32 := (Nat.div_add_mod i 32).symm
 generalize i / 32 = a at *
 generalize i % 32 = r at *
 subst hi
 rw [Nat.pow_add, ← Nat.div_div_eq_div_mul]
 generalize v / 2 ^ (32 * a) = w
 rw [show (32 : Nat) = r + (32 - r) by omega, Nat.pow_add, Nat.mod_mul, Nat.add_mul_div_left _ _ (Nat.pow_pos (by decide)), Nat.div_eq_of_lt (Nat.mod_lt _ (Nat.pow_pos (by decide))), Nat.zero_add]
 rw [show 32 - r = (31 - r) + 1 by omega, Nat.pow_succ, Nat.mul_comm, Nat.mod_mul_right_mod]

def bgG (xs : List Nat) (tl : Tail) (H : Heap) : Nat → Env → Heap → Prop := fun k env H1 => ∃ n : Nat, n ≤ xs.length ∧ yV (xs.take n) = yV xs ∧ env = [(0, .slice 1 (U .u32 xs) tl), (3, .int .i64 (n : Int))] ∧ H = H1 ∧ k = n

set_option maxRecDepth 100000 in
theorem aaM (xs : List Nat) (tl : Tail) (hx : Limbs xs) (hl : xs.length ≤ 1000000) (H : Heap) : ACall Tryz.prog 89 [.slice 1 (U .u32 xs) tl] H (fun y H' => y = aaA (val xs) ∧ H' = H) := by
 refine ACall.of_body Tryz.func89 rfl Tryz.ntmps89 Tryz.results89 rfl ?_
 iterate 2 refine AX ?_
 refine .p rfl (zC (qB (sz := 1) (tl := .full))) ?_
 iterate 11 refine AX ?_
 refine AWP.loopW (bgG xs tl H) (xs.length) ⟨xs.length, Nat.le_refl _, by rw [List.take_length], rfl, rfl, rfl⟩ sX (Heap.le.refl _) ?_
 rintro _ _ _ ⟨n, hn, hr, rfl, rfl, hk⟩
 refine AX ?_
 refine AWP.seqTo 15 (.bool (decide (0 < (n : Int)) && decide (((xs.getD (n - 1) 0 : Nat) : Int) = 0))) [0, 3] ?_ ?_
 ·-- region 2
  iterate 4 refine AX ?_
  refine zI (t := 8) rfl (fun hg8 => ?_) (fun hg8 => ?_)
  ·have hh8 := hg8; try simp only [decide_eq_true_eq] at hh8
   iterate 2 refine AX ?_
   refine .gp rfl rfl rfl (by assumption) (zO (tm rfl) zF (by omega)) (.gp rfl rfl rfl (by assumption) (zV (n - 1) Tryz.underlying94 Tryz.sizeOf112 (tm rfl) (tm rfl) (by omega) (by omega)) ?_)
   refine AX ?_
   refine .gp rfl rfl rfl (by assumption) (yR (tm rfl) (zG 0)) ?_
   iterate 2 refine AX ?_
   exact ⟨rfl, zZ rfl (by simp_all) sX, rfl⟩
  ·have hh8 := hg8; try simp only [decide_eq_false_iff_not, Int.not_lt] at hh8
   iterate 8 refine AX ?_
   exact ⟨rfl, zZ rfl (by simp_all) sX, rfl⟩
 ·refine AWP.sub [(15, _), (0, _), (3, _)] sX ?_
  refine AWP.cx rfl (fun hc15 => ?_) (fun hc15 => ?_)
  ·simp only [Bool.and_eq_true, decide_eq_true_eq] at hc15
   iterate 5 refine AX ?_
   refine .p rfl (zO (tm rfl) zF (by omega)) ?_
   iterate 4 refine AX ?_
   have hs := acM (xs := xs) (k := n - 1) (by omega)
   rw [show n - 1 + 1 = n by omega, if_pos (by omega)] at hs
   refine Round.mk (J := bgG xs tl H) ⟨n - 1, by omega, by rw [← hs, hr], rfl, rfl, rfl⟩ (yC rfl (zW rfl (by rw [show ((n : Int) - 1) = ((n - 1 : Nat) : Int) by omega]) yX)) (Heap.le.refl _) (by omega)
  ·simp only [Bool.and_eq_false_iff, decide_eq_false_iff_not] at hc15
   iterate 7 refine AX ?_
   refine .e rfl (azE Tryz.underlying94 Tryz.sizeOf112 Tryz.zeroValue112 ) ?_
   iterate 2 refine AX ?_
   refine .p rfl (adE (_) Tryz.underlying94 Tryz.sizeOf112 (tm rfl) (tm rfl) rfl (by omega)) ?_
   refine .e rfl (akF Tryz.underlying94 Tryz.underlying94 Tryz.sizeOf112 Tryz.typeInfo112 Tryz.zeroValue112 rfl (by decide) (tm rfl) (tm rfl) (by show (_ + _) * 4 ≤ _; simp only [agC, List.length_take, List.length_nil]; omega) (by repeat' (first | exact yK _ | exact aaY | exact afC ⟨rfl, rfl⟩ aaY | exact aaD (yK _) | exact aaC (yK _) | refine abK ?_ ?_ | exact (fun _ h => by simp at h))) (by repeat' (first | exact yK _ | exact aaY | exact afC ⟨rfl, rfl⟩ aaY | exact aaD (yK _) | exact aaC (yK _) | refine abK ?_ ?_ | exact aoM _ _))) ?_
   iterate 4 refine AX ?_
   refine Ret.go (.cons (.tmp _ _ rfl) .nil) _ (Heap.le.refl _) ?_
   refine ⟨?_, rfl⟩
   have hq : n = yV xs := by
    rcases Nat.eq_zero_or_pos n with h0 | h0
    ·subst h0; rw [← hr]; rfl
    ·have hs := acM (xs := xs) (k := n - 1) (by omega)
     rw [show n - 1 + 1 = n by omega, if_neg (by omega), hr] at hs
     exact hs.symm
   rw [hq, List.nil_append, adI hx]; rfl

set_option maxRecDepth 100000 in
theorem adU (xs : List Nat) (tl : Tail) (hx : Limbs xs) (hl : xs.length ≤ 1000000) (i : Nat) (q : Int) (hq : q = (i : Int)) (H : Heap) : ACall Tryz.prog 129 [.slice 1 (U .u32 xs) tl, .int .i64 q] H (fun y H' => y = .int .u64 ((xs.getD i 0 : Nat) : Int) ∧ H' = H) := by
 subst hq
 have hg := hx.getD i
 refine ACall.of_body Tryz.func129 rfl Tryz.ntmps129 Tryz.results129 rfl ?_
 iterate 2 refine AX ?_
 refine .p rfl (zC (zG 0)) ?_
 iterate 3 refine AX ?_
 refine AWP.seqTo 12 (.bool (decide ((i : Int) < 0) || decide ((xs.length : Int) ≤ (i : Int)))) [0, 1, 4] ?_ ?_
 ·-- region 1
  iterate 4 refine AX ?_
  refine zI (t := 7) rfl (fun hg7 => ?_) (fun hg7 => ?_)
  ·have hh7 := hg7; try simp only [decide_eq_true_eq] at hh7
   iterate 6 refine AX ?_
   exact ⟨rfl, zZ rfl (by (simp [*]; done)) sX, rfl⟩
  ·have hh7 := hg7; try simp only [decide_eq_false_iff_not, Int.not_lt] at hh7
   iterate 6 refine AX ?_
   exact ⟨rfl, zZ rfl (by rfl) sX, rfl⟩
 ·refine AWP.sub [(12, _), (0, _), (1, _), (4, _)] sX ?_
  refine AWP.cx rfl (fun hc12 => ?_) (fun hc12 => ?_)
  ·simp only [Bool.or_eq_true, decide_eq_true_eq] at hc12
   iterate 2 refine AX ?_
   refine .p rfl (zC (zG 0)) ?_
   iterate 4 refine AX ?_
   refine Ret.go (.cons (.tmp _ _ rfl) .nil) _ (Heap.le.refl _) ?_
   refine ⟨?_, rfl⟩
   rw [aeI (by omega)]; rfl
  ·simp only [Bool.or_eq_false_iff, decide_eq_false_iff_not] at hc12
   iterate 6 refine AX ?_
   refine .p rfl (zV (i) Tryz.underlying94 Tryz.sizeOf112 (tm rfl) (tm rfl) (by omega) (by omega)) ?_
   refine AX ?_
   refine .p rfl (zT Tryz.underlying112 Tryz.underlying30 (tm rfl) (wrapN64 (by omega))) ?_
   iterate 4 refine AX ?_
   refine Ret.go (.cons (.tmp _ _ rfl) .nil) _ (Heap.le.refl _) ?_
   exact ⟨rfl, rfl⟩

set_option maxRecDepth 100000 in
theorem agM (xs : List Nat) (tl : Tail) (hx : Limbs xs) (hl : xs.length ≤ 1000000) (i : Nat) (hi : i ≤ 1000000000) (q : Int) (hq : q = (i : Int)) (H : Heap) : ACall Tryz.prog 87 [.slice 1 (U .u32 xs) tl, .int .i64 q] H (fun y H' => y = .bool (decide (((val xs / 2 ^ i % 2 : Nat) : Int) = 1)) ∧ H' = H) := by
 subst hq
 have hg := hx.getD (i / 32)
 refine ACall.of_body Tryz.func87 rfl Tryz.ntmps87 Tryz.results87 rfl ?_
 iterate 9 refine AX ?_
 refine .p rfl (abA (tm rfl) (zG 32) (by omega) (by omega)) (.cl rfl Tryz.call129 (evs2 rfl rfl) (adU _ _ (by assumption) (by assumption) _ _ rfl _) ?_)
 refine AX ?_
 refine .p rfl (adW (tm rfl) (zG 32) (by omega)) (.p rfl (zT Tryz.underlying3 Tryz.underlying90 (tm rfl) (wrapN64 (by omega))) (.p rfl (yG (tm rfl) (tm rfl) (by omega)) (.p rfl (abF (tm rfl) (zG 2) (by omega)) (.p rfl (yR (tm rfl) (zG 1)) ?_))))
 iterate 4 refine AX ?_
 refine Ret.go (.cons (.tmp _ _ rfl) .nil) _ (Heap.le.refl _) ?_
 refine ⟨?_, rfl⟩
 rw [← bit_limb hx]; rfl
theorem rTrimX {zs : List Nat} (c : Nat) (m : Int) (tl : Tail) (hz : Limbs zs) (hm : m = (c : Int)) (hc : c < 4294967296) (hl : zs.length + 1 ≤ 1000000) (H : Heap) :
  ACall Tryz.prog 89 [.slice 1 (U .u32 zs ++ [.int .u32 m]) tl] H (fun y H' => y = aaA (val zs + 4294967296 ^ zs.length * c) ∧ H' = H) := by
 subst hm
 have := aaM (zs ++ [c]) tl (hz.append (Limbs.mk hc Limbs.nil)) (by simp; omega) H
 rw [← bjX, qC] at this
 simp only [val, Nat.mul_zero, Nat.add_zero] at this
 exact this
theorem bjW {zs : List Nat} {m : Int} (c : Nat) (hm : m = (c : Int)) : U .u32 zs ++ [.int .u32 m] = U .u32 (zs ++ [c]) := by
 subst hm; rw [← bjX]; rfl
theorem arT {zs : List Nat} {c : Nat} (h : Limbs zs) (hc : c < 4294967296) : Limbs (zs ++ [c]) := h.append (Limbs.mk hc Limbs.nil)

def rtw_J (xs : List Nat) (tl : Tail) (b : Bool) (H : Heap) : Nat → Env → Heap → Prop := fun k env H1 => ∃ (i t : Nat) (zs : List Nat) (c : Nat), i ≤ xs.length ∧ zs.length = i ∧ Limbs zs ∧ c ≤ 1 ∧ val zs + 4294967296 ^ i * c = 2 * val (xs.take i) + b.toNat ∧ env = [(0, .slice 1 (U .u32 xs) tl), (5, .slice 1 (U .u32 zs) (.own t)), (6, .int .u64 (c : Int)), (7, .int .i64 (i : Int))] ∧ H.le H1 ∧ H1.toks t = true ∧ H.toks t = false ∧ k = xs.length - i

set_option maxRecDepth 100000 in
theorem akL (xs : List Nat) (tl : Tail) (hx : Limbs xs) (hl : xs.length ≤ 900000) (b : Bool) (H : Heap) : ACall Tryz.prog 90 [.slice 1 (U .u32 xs) tl, .bool b] H (fun y H' => y = aaA (2 * val xs + b.toNat) ∧ H' = H) := by
 have hle0 := Heap.le.refl H
 refine ACall.of_body Tryz.func90 rfl Tryz.ntmps90 Tryz.results90 rfl ?_
 iterate 2 refine AX ?_
 refine .p rfl (zC (qB (sz := 1) (tl := .full))) ?_
 iterate 4 refine AX ?_
 refine .p rfl (zC (qB (sz := 1) (tl := .full))) ?_
 iterate 4 refine AX ?_
 refine .p rfl (zC (zG 0)) ?_
 iterate 2 refine AX ?_
 refine AWP.seqToL [(6, .int .u64 ((b.toNat : Nat) : Int))] [0, 4, 5] ?_ ?_
 ·iterate 5 refine AX ?_
  refine AWP.cx rfl (fun hc9 => ?_) (fun hc9 => ?_)
  ·refine AX ?_
   refine .p rfl (zC (zG 1)) ?_
   refine AX ?_
   exact ⟨rfl, (zW rfl (by simp [hc9]) sX), rfl⟩
  ·refine AX ?_
   exact ⟨rfl, (zW rfl (by simp [hc9]) sX), rfl⟩
 ·refine AWP.sub [(6, _), (0, _), (4, _), (5, _)] sX ?_
  iterate 7 refine AX ?_
  refine AWP.tag (t := 5) rfl (fun u5 hu5 => ?_)
  have hfu5 := Heap.fresh_of hle0 hu5
  have hleu5 := Heap.le_in hle0 u5
  refine AWP.loopW (rtw_J xs tl b H) (xs.length) ⟨0, u5, [], b.toNat, Nat.zero_le _, rfl, Limbs.nil, by cases b <;> decide, by simp [val], rfl, hleu5, Heap.toks_live_same _ _, hfu5, by omega⟩ sX (Heap.le.refl _) ?_
  rintro _ _ H1 ⟨i, t, zs, c, hi, hzl, hz, hc, hv, rfl, hle, hlive, hfr, rfl⟩
  have hg := hx.getD i
  obtain ⟨hp1, hp2⟩ := bdT hg hc
  iterate 9 refine AX ?_
  refine AWP.cx rfl (fun hc13 => ?_) (fun hc13 => ?_)
  ·iterate 8 refine AX ?_
   refine .p rfl (zV (_) Tryz.underlying94 Tryz.sizeOf112 (tm rfl) (tm rfl) rfl (by omega)) ?_
   refine AX ?_
   refine .p rfl (zT Tryz.underlying112 Tryz.underlying30 (tm rfl) (wrapN64 (by omega))) (.p rfl (acO (zG 2) (tm rfl) (by omega)) ?_)
   refine AX ?_
   refine .p rfl (yD (tm rfl) (tm rfl) (by assumption)) ?_
   iterate 7 refine AX ?_
   refine .p rfl (abF (tm rfl) (zG 4294967296) (by omega)) (.p rfl (yL Tryz.underlying30 Tryz.underlying112 rfl (tm rfl)) (.e rfl (aaL Tryz.underlying94 Tryz.sizeOf112 Tryz.zeroValue112 rfl (tm rfl) (.inl rfl) ⟨rfl, rfl⟩) ?_))
   refine .s rfl (abQ Tryz.underlying94 Tryz.underlying94 Tryz.sizeOf112 Tryz.typeInfo112 Tryz.zeroValue112 rfl (by decide) (tm rfl) (tm rfl) (by exact .own _ (by assumption)) (by show (_ + _) * 4 ≤ _; simp only [agC, List.length_nil, List.length_cons]; omega) (by repeat' (first | exact yK _ | exact aaY | exact afC ⟨rfl, rfl⟩ aaY | exact aaD (yK _) | exact aaC (yK _) | refine abK ?_ ?_ | exact aoM _ _)) (by repeat' (first | exact yK _ | exact aaY | exact afC ⟨rfl, rfl⟩ aaY | exact aaD (yK _) | exact aaC (yK _) | refine abK ?_ ?_))) ?_
   rintro _ _ ⟨t29, ht29, rfl, hH⟩
   obtain rfl := hH.symm
   have hf29 := Heap.fresh_of hle ht29
   have hle29 := Heap.le_in (Heap.le_out (t := t) hle (by assumption)) t29
   iterate 5 refine AX ?_
   refine .p rfl (yG (tm rfl) (zG 32) (by assumption)) ?_
   iterate 6 refine AX ?_
   refine .p rfl (zK (tm rfl) zF (by omega)) ?_
   iterate 3 refine AX ?_
   refine Round.mk (J := rtw_J xs tl b H) ⟨i + 1, t29, zs ++ [(2 * xs.getD i 0 + c) % 4294967296], (2 * xs.getD i 0 + c) / 4294967296, by omega, by simp [hzl], arT hz (Nat.mod_lt _ (by decide)), hp2, bbV hzl hv, rfl, hle29, Heap.toks_live_same _ _, hf29, rfl⟩ (yC rfl (zW rfl (afB (bjW _ (by simp only [IntKind.bits]; rw [Nat.mod_eq_of_lt (Nat.mod_lt _ (by decide))]))) sX)) (Heap.le.refl _) (by omega)
  ·iterate 9 refine AX ?_
   refine .p rfl (yL Tryz.underlying30 Tryz.underlying112 rfl (tm rfl)) (.e rfl (aaL Tryz.underlying94 Tryz.sizeOf112 Tryz.zeroValue112 rfl (tm rfl) (.inl rfl) ⟨rfl, rfl⟩) ?_)
   refine .s rfl (abQ Tryz.underlying94 Tryz.underlying94 Tryz.sizeOf112 Tryz.typeInfo112 Tryz.zeroValue112 rfl (by decide) (tm rfl) (tm rfl) (by exact .own _ (by assumption)) (by show (_ + _) * 4 ≤ _; simp only [agC, List.length_nil, List.length_cons]; omega) (by repeat' (first | exact yK _ | exact aaY | exact afC ⟨rfl, rfl⟩ aaY | exact aaD (yK _) | exact aaC (yK _) | refine abK ?_ ?_ | exact aoM _ _)) (by repeat' (first | exact yK _ | exact aaY | exact afC ⟨rfl, rfl⟩ aaY | exact aaD (yK _) | exact aaC (yK _) | refine abK ?_ ?_))) ?_
   rintro _ _ ⟨t36, ht36, rfl, hH⟩
   obtain rfl := hH.symm
   have hf36 := Heap.fresh_of hle ht36
   have hle36 := Heap.le_in (Heap.le_out (t := t) hle (by assumption)) t36
   iterate 6 refine AX ?_
   refine .cl rfl Tryz.call89 (evs1 rfl) (rTrimX c _ _ hz (by simp only [IntKind.bits]; omega) (by omega) (by omega) _) ?_
   iterate 4 refine AX ?_
   refine Ret.go (.cons (.tmp _ _ rfl) .nil) _ (hle36) ?_
   refine ⟨?_, rfl⟩
   have hix : i = xs.length := by omega
   rw [hzl, hv, hix, List.take_length]; rfl
theorem bhA {zs xs ys : List Nat} {i c : Nat} (hi : zs.length = i) (h : val zs + 4294967296 ^ i * c = val (xs.take i) + val (ys.take i)) :
  val (zs ++ [(xs.getD i 0 + ys.getD i 0 + c) % 4294967296]) + 4294967296 ^ (i + 1) * ((xs.getD i 0 + ys.getD i 0 + c) / 4294967296) = val (xs.take (i + 1)) + val (ys.take (i + 1)) := by
 rw [qC, hi, yT, yT, Nat.pow_succ]
 simp only [val, Nat.mul_zero, Nat.add_zero]
 have e := Nat.mod_add_div (xs.getD i 0 + ys.getD i 0 + c) 4294967296
 have e2 : 4294967296 ^ i * ((xs.getD i 0 + ys.getD i 0 + c) % 4294967296) + 4294967296 ^ i * 4294967296 * ((xs.getD i 0 + ys.getD i 0 + c) / 4294967296) = 4294967296 ^ i * xs.getD i 0 + 4294967296 ^ i * ys.getD i 0 + 4294967296 ^ i * c := by
  rw [Nat.mul_assoc, ← Nat.mul_add, e, Nat.mul_add, Nat.mul_add]
 omega
theorem bdE {x y c : Nat} (hx : x < 4294967296) (hy : y < 4294967296) (hc : c ≤ 1) : (x + y + c) / 4294967296 ≤ 1 := by omega
theorem biG {zs xs ys : List Nat} {i c m d : Nat} (hi : zs.length = i) (h : val zs + val (ys.take i) = val (xs.take i) + 4294967296 ^ i * c) (hm : m + (ys.getD i 0 + c) = xs.getD i 0 + 4294967296 * d) :
  val (zs ++ [m]) + val (ys.take (i + 1)) = val (xs.take (i + 1)) + 4294967296 ^ (i + 1) * d := by
 rw [qC, hi, yT, yT, Nat.pow_succ]
 simp only [val, Nat.mul_zero, Nat.add_zero]
 have e2 : 4294967296 ^ i * m + 4294967296 ^ i * ys.getD i 0 + 4294967296 ^ i * c = 4294967296 ^ i * xs.getD i 0 + 4294967296 ^ i * 4294967296 * d := by
  rw [Nat.mul_assoc, ← Nat.mul_add, ← Nat.mul_add, ← Nat.mul_add]
  congr 1; omega
 omega
theorem less_end {zs xs ys : List Nat} {n c : Nat} (hn : xs.length = n) (hzl : zs.length = n) (hz : Limbs zs) (hx : Limbs xs) (hc : c ≤ 1) (h : val zs + val (ys.take n) = val xs + 4294967296 ^ n * c) (hle : val ys ≤ val xs) : val zs = val xs - val ys := by
 have h1 := aeC hz
 have h2 := aeC hx
 rw [hzl] at h1
 rw [hn] at h2
 have h3 : val (ys.take n) = val ys := by
  rcases Nat.lt_or_ge n ys.length with hl | hl
  ·have h4 : val ys = val (ys.take n) + 4294967296 ^ n * val (ys.drop n) := by
    have := qC (ys.take n) (ys.drop n)
    rw [List.take_append_drop, List.length_take, Nat.min_eq_left (by omega)] at this
    exact this
   rcases Nat.eq_zero_or_pos (val (ys.drop n)) with h5 | h5
   ·rw [h5] at h4; omega
   ·have h6 : 4294967296 ^ n * 1 ≤ 4294967296 ^ n * val (ys.drop n) := Nat.mul_le_mul_left _ h5
    omega
  ·rw [List.take_of_length_le hl]
 rcases Nat.eq_zero_or_pos c with h5 | h5
 ·rw [h5] at h; omega
 ·have : c = 1 := by omega
  rw [this] at h; omega

def bgI (xs ys : List Nat) (tl tl2 : Tail) (H : Heap) : Nat → Env → Heap → Prop := fun k env H1 => ∃ (i t : Nat) (zs : List Nat) (c : Nat), zs.length = i ∧ i ≤ 100000 ∧ Limbs zs ∧ c ≤ 1 ∧ val zs + 4294967296 ^ i * c = val (xs.take i) + val (ys.take i) ∧ env = [(0, .slice 1 (U .u32 xs) tl), (1, .slice 1 (U .u32 ys) tl2), (5, .slice 1 (U .u32 zs) (.own t)), (6, .int .u64 (c : Int)), (7, .int .i64 (i : Int))] ∧ H.le H1 ∧ H1.toks t = true ∧ H.toks t = false ∧ k = xs.length + ys.length - i

set_option maxRecDepth 100000 in
theorem awV (xs : List Nat) (tl : Tail) (hx : Limbs xs) (hl : xs.length ≤ 100000) (ys : List Nat) (tl2 : Tail) (hy : Limbs ys) (hm : ys.length ≤ 100000) (H : Heap) : ACall Tryz.prog 85 [.slice 1 (U .u32 xs) tl, .slice 1 (U .u32 ys) tl2] H (fun y H' => y = aaA (val xs + val ys) ∧ H' = H) := by
 have hle0 := Heap.le.refl H
 refine ACall.of_body Tryz.func85 rfl Tryz.ntmps85 Tryz.results85 rfl ?_
 iterate 2 refine AX ?_
 refine .p rfl (zC (qB (sz := 1) (tl := .full))) ?_
 iterate 4 refine AX ?_
 refine .p rfl (zC (qB (sz := 1) (tl := .full))) ?_
 iterate 4 refine AX ?_
 refine .p rfl (zC (zG 0)) ?_
 iterate 9 refine AX ?_
 refine AWP.tag (t := 5) rfl (fun u5 hu5 => ?_)
 have hfu5 := Heap.fresh_of hle0 hu5
 have hleu5 := Heap.le_in hle0 u5
 refine AWP.loopW (bgI xs ys tl tl2 H) (xs.length + ys.length) ⟨0, u5, [], 0, rfl, Nat.zero_le _, Limbs.nil, by decide, by simp [val], rfl, hleu5, Heap.toks_live_same _ _, hfu5, by omega⟩ sX (Heap.le.refl _) ?_
 rintro _ _ H1 ⟨i, t, zs, c, hzl, hi, hz, hc, hv, rfl, hle, hlive, hfr, rfl⟩
 refine AX ?_
 refine AWP.seqTo 18 (.bool (decide ((i : Int) < (xs.length : Int)) || decide ((i : Int) < (ys.length : Int)))) [0, 1, 5, 6, 7] ?_ ?_
 ·-- region 4
  iterate 6 refine AX ?_
  refine zI (t := 13) rfl (fun hg13 => ?_) (fun hg13 => ?_)
  ·have hh13 := hg13; try simp only [decide_eq_true_eq] at hh13
   iterate 6 refine AX ?_
   exact ⟨rfl, zZ rfl (by (rw [hg13]; rfl)) sX, rfl⟩
  ·have hh13 := hg13; try simp only [decide_eq_false_iff_not, Int.not_lt] at hh13
   iterate 6 refine AX ?_
   exact ⟨rfl, zZ rfl (by (rw [hg13]; rfl)) sX, rfl⟩
 ·refine AWP.sub [(18, _), (0, _), (1, _), (5, _), (6, _), (7, _)] sX ?_
  refine AWP.cx rfl (fun hc18 => ?_) (fun hc18 => ?_)
  ·simp only [Bool.or_eq_true, decide_eq_true_eq] at hc18
   have hgx := hx.getD i
   have hgy := hy.getD i
   have hcc := bdE hgx hgy hc
   iterate 8 refine AX ?_
   refine .cl rfl Tryz.call129 (evs2 rfl rfl) (adU _ _ (by assumption) (by omega) _ _ rfl _) ?_
   iterate 2 refine AX ?_
   refine .cl rfl Tryz.call129 (evs2 rfl rfl) (adU _ _ (by assumption) (by omega) _ _ rfl _) (.p rfl (yD (tm rfl) (tm rfl) (by omega)) ?_)
   refine AX ?_
   refine .p rfl (yD (tm rfl) (tm rfl) (by omega)) ?_
   iterate 7 refine AX ?_
   refine .p rfl (abF (tm rfl) (zG 4294967296) (by omega)) (.p rfl (yL Tryz.underlying30 Tryz.underlying112 rfl (tm rfl)) (.e rfl (aaL Tryz.underlying94 Tryz.sizeOf112 Tryz.zeroValue112 rfl (tm rfl) (.inl rfl) ⟨rfl, rfl⟩) ?_))
   refine .s rfl (abQ Tryz.underlying94 Tryz.underlying94 Tryz.sizeOf112 Tryz.typeInfo112 Tryz.zeroValue112 rfl (by decide) (tm rfl) (tm rfl) (by exact .own _ (by assumption)) (by show (_ + _) * 4 ≤ _; simp only [agC, List.length_nil, List.length_cons]; omega) (by repeat' (first | exact yK _ | exact aaY | exact afC ⟨rfl, rfl⟩ aaY | exact aaD (yK _) | exact aaC (yK _) | refine abK ?_ ?_ | exact aoM _ _)) (by repeat' (first | exact yK _ | exact aaY | exact afC ⟨rfl, rfl⟩ aaY | exact aaD (yK _) | exact aaC (yK _) | refine abK ?_ ?_))) ?_
   rintro _ _ ⟨t35, ht35, rfl, hH⟩
   obtain rfl := hH.symm
   have hf35 := Heap.fresh_of hle ht35
   have hle35 := Heap.le_in (Heap.le_out (t := t) hle (by assumption)) t35
   iterate 5 refine AX ?_
   refine .p rfl (yG (tm rfl) (zG 32) (by omega)) ?_
   iterate 6 refine AX ?_
   refine .p rfl (zK (tm rfl) zF (by omega)) ?_
   iterate 3 refine AX ?_
   refine Round.mk (J := bgI xs ys tl tl2 H) ⟨i + 1, t35, zs ++ [(xs.getD i 0 + ys.getD i 0 + c) % 4294967296], (xs.getD i 0 + ys.getD i 0 + c) / 4294967296, by simp [hzl], by omega, arT hz (Nat.mod_lt _ (by decide)), hcc, bhA hzl hv, rfl, hle35, Heap.toks_live_same _ _, hf35, rfl⟩ (yC rfl (yC rfl (zW rfl (afB (bjW _ (by simp only [IntKind.bits]; rw [Nat.mod_eq_of_lt (Nat.mod_lt _ (by decide))]))) sX))) (Heap.le.refl _) (by omega)
  ·simp only [Bool.or_eq_false_iff, decide_eq_false_iff_not] at hc18
   iterate 9 refine AX ?_
   refine .p rfl (yL Tryz.underlying30 Tryz.underlying112 rfl (tm rfl)) (.e rfl (aaL Tryz.underlying94 Tryz.sizeOf112 Tryz.zeroValue112 rfl (tm rfl) (.inl rfl) ⟨rfl, rfl⟩) ?_)
   refine .s rfl (abQ Tryz.underlying94 Tryz.underlying94 Tryz.sizeOf112 Tryz.typeInfo112 Tryz.zeroValue112 rfl (by decide) (tm rfl) (tm rfl) (by exact .own _ (by assumption)) (by show (_ + _) * 4 ≤ _; simp only [agC, List.length_nil, List.length_cons]; omega) (by repeat' (first | exact yK _ | exact aaY | exact afC ⟨rfl, rfl⟩ aaY | exact aaD (yK _) | exact aaC (yK _) | refine abK ?_ ?_ | exact aoM _ _)) (by repeat' (first | exact yK _ | exact aaY | exact afC ⟨rfl, rfl⟩ aaY | exact aaD (yK _) | exact aaC (yK _) | refine abK ?_ ?_))) ?_
   rintro _ _ ⟨t42, ht42, rfl, hH⟩
   obtain rfl := hH.symm
   have hf42 := Heap.fresh_of hle ht42
   have hle42 := Heap.le_in (Heap.le_out (t := t) hle (by assumption)) t42
   iterate 6 refine AX ?_
   refine .cl rfl Tryz.call89 (evs1 rfl) (rTrimX c _ _ hz (by simp only [IntKind.bits]; omega) (by omega) (by omega) _) ?_
   iterate 4 refine AX ?_
   refine Ret.go (.cons (.tmp _ _ rfl) .nil) _ (hle42) ?_
   refine ⟨?_, rfl⟩
   rw [List.take_of_length_le (by omega), List.take_of_length_le (by omega)] at hv
   rw [hzl, hv]; rfl

def bgP (xs ys : List Nat) (tl tl2 : Tail) (H : Heap) : Nat → Env → Heap → Prop := fun k env H1 => ∃ (i t : Nat) (zs : List Nat) (c : Nat), i ≤ xs.length ∧ zs.length = i ∧ Limbs zs ∧ c ≤ 1 ∧ val zs + val (ys.take i) = val (xs.take i) + 4294967296 ^ i * c ∧ env = [(0, .slice 1 (U .u32 xs) tl), (1, .slice 1 (U .u32 ys) tl2), (5, .slice 1 (U .u32 zs) (.own t)), (6, .int .u64 (c : Int)), (7, .int .i64 (i : Int))] ∧ H.le H1 ∧ H1.toks t = true ∧ H.toks t = false ∧ k = xs.length - i

set_option maxRecDepth 100000 in
theorem awX (xs : List Nat) (tl : Tail) (hx : Limbs xs) (hl : xs.length ≤ 100000) (ys : List Nat) (tl2 : Tail) (hy : Limbs ys) (hm : ys.length ≤ 100000) (hle : val ys ≤ val xs) (H : Heap) : ACall Tryz.prog 92 [.slice 1 (U .u32 xs) tl, .slice 1 (U .u32 ys) tl2] H (fun y H' => y = aaA (val xs - val ys) ∧ H' = H) := by
 have hle0 := Heap.le.refl H
 refine ACall.of_body Tryz.func92 rfl Tryz.ntmps92 Tryz.results92 rfl ?_
 iterate 2 refine AX ?_
 refine .p rfl (zC (qB (sz := 1) (tl := .full))) ?_
 iterate 4 refine AX ?_
 refine .p rfl (zC (qB (sz := 1) (tl := .full))) ?_
 iterate 4 refine AX ?_
 refine .p rfl (zC (zG 0)) ?_
 iterate 9 refine AX ?_
 refine AWP.tag (t := 5) rfl (fun u5 hu5 => ?_)
 have hfu5 := Heap.fresh_of hle0 hu5
 have hleu5 := Heap.le_in hle0 u5
 refine AWP.loopW (bgP xs ys tl tl2 H) (xs.length) ⟨0, u5, [], 0, Nat.zero_le _, rfl, Limbs.nil, by decide, by simp [val], rfl, hleu5, Heap.toks_live_same _ _, hfu5, by omega⟩ sX (Heap.le.refl _) ?_
 rintro _ _ H1 ⟨i, t, zs, c, hi, hzl, hz, hc, hv, rfl, hle1, hlive, hfr, rfl⟩
 iterate 9 refine AX ?_
 refine AWP.cx rfl (fun hc13 => ?_) (fun hc13 => ?_)
 ·have hgx := hx.getD i
  have hgy := hy.getD i
  iterate 8 refine AX ?_
  refine .cl rfl Tryz.call129 (evs2 rfl rfl) (adU _ _ (by assumption) (by omega) _ _ rfl _) ?_
  iterate 7 refine AX ?_
  refine .cl rfl Tryz.call129 (evs2 rfl rfl) (adU _ _ (by assumption) (by omega) _ _ rfl _) ?_
  refine AX ?_
  refine .p rfl (yD (tm rfl) (tm rfl) (by omega)) ?_
  iterate 5 refine AX ?_
  refine .p rfl (zC (zG 0)) ?_
  iterate 2 refine AX ?_
  refine AWP.seqToL [(8, .int .u64 ((if xs.getD i 0 < (ys.getD i 0 + c) then xs.getD i 0 + 4294967296 else xs.getD i 0 : Nat) : Int)), (6, .int .u64 (((if xs.getD i 0 < (ys.getD i 0 + c) then 1 else 0) : Nat) : Int))] [0, 1, 5, 7, 9] ?_ ?_
  ·iterate 7 refine AX ?_
   refine AWP.cx rfl (fun hc26 => ?_) (fun hc26 => ?_)
   ·iterate 3 refine AX ?_
    refine .p rfl (yD (tm rfl) (zG 4294967296) (by omega)) ?_
    iterate 4 refine AX ?_
    refine .p rfl (zC (zG 1)) ?_
    refine AX ?_
    exact ⟨rfl, (zW rfl (by rw [if_pos (by omega)]) (zW rfl (by rw [if_pos (by omega)]) sX)), rfl⟩
   ·refine AX ?_
    exact ⟨rfl, (zW rfl (by (rw [if_neg (by omega)]; done)) (zW rfl (by (rw [if_neg (by omega)]; done)) sX)), rfl⟩
  ·refine AWP.sub [(8, _), (6, _), (0, _), (1, _), (5, _), (7, _), (9, _)] sX ?_
   generalize hw : (if xs.getD i 0 < (ys.getD i 0 + c) then xs.getD i 0 + 4294967296 else xs.getD i 0) = w at *
   generalize hd : (if xs.getD i 0 < (ys.getD i 0 + c) then 1 else 0) = d at *
   have hwd : (ys.getD i 0 + c) ≤ w ∧ w - (ys.getD i 0 + c) < 4294967296 ∧ w < 18446744073709551616 ∧ d ≤ 1 ∧ w - (ys.getD i 0 + c) + (ys.getD i 0 + c) = xs.getD i 0 + 4294967296 * d := by (split at hw <;> rename_i hq <;> (first | rw [if_pos hq] at hd | rw [if_neg hq] at hd) <;> omega)
   obtain ⟨hw1, hw2, hw3, hw4, hw5⟩ := hwd
   iterate 4 refine AX ?_
   refine .p rfl (adV (tm rfl) (tm rfl) (by assumption) (by assumption)) (.p rfl (yL Tryz.underlying30 Tryz.underlying112 rfl (tm rfl)) (.e rfl (aaL Tryz.underlying94 Tryz.sizeOf112 Tryz.zeroValue112 rfl (tm rfl) (.inl rfl) ⟨rfl, rfl⟩) ?_))
   refine .s rfl (abQ Tryz.underlying94 Tryz.underlying94 Tryz.sizeOf112 Tryz.typeInfo112 Tryz.zeroValue112 rfl (by decide) (tm rfl) (tm rfl) (by exact .own _ (by assumption)) (by show (_ + _) * 4 ≤ _; simp only [agC, List.length_nil, List.length_cons]; omega) (by repeat' (first | exact yK _ | exact aaY | exact afC ⟨rfl, rfl⟩ aaY | exact aaD (yK _) | exact aaC (yK _) | refine abK ?_ ?_ | exact aoM _ _)) (by repeat' (first | exact yK _ | exact aaY | exact afC ⟨rfl, rfl⟩ aaY | exact aaD (yK _) | exact aaC (yK _) | refine abK ?_ ?_))) ?_
   rintro _ _ ⟨t35, ht35, rfl, hH⟩
   obtain rfl := hH.symm
   have hf35 := Heap.fresh_of hle1 ht35
   have hle35 := Heap.le_in (Heap.le_out (t := t) hle1 (by assumption)) t35
   iterate 6 refine AX ?_
   refine .p rfl (zK (tm rfl) zF (by omega)) ?_
   iterate 3 refine AX ?_
   refine Round.mk (J := bgP xs ys tl tl2 H) ⟨i + 1, t35, zs ++ [w - (ys.getD i 0 + c)], d, by omega, by simp [hzl], arT hz hw2, hw4, biG hzl hv hw5, rfl, hle35, Heap.toks_live_same _ _, hf35, rfl⟩ (yC rfl (yC rfl (zW rfl (afB (bjW _ (by simp only [IntKind.bits]; omega))) sX))) (Heap.le.refl _) (by omega)
 ·iterate 8 refine AX ?_
  refine .cl rfl Tryz.call89 (evs1 rfl) (aaM _ _ hz (by omega) _) ?_
  iterate 4 refine AX ?_
  refine Ret.go (.cons (.tmp _ _ rfl) .nil) _ (hle1) ?_
  refine ⟨?_, rfl⟩
  have hix : i = xs.length := by omega
  rw [hix, List.take_length] at hv
  rw [less_end rfl (hzl.trans hix) hz hx hc hv hle]; rfl

def rcmp_J (xs ys : List Nat) (H : Heap) : Nat → Env → Heap → Prop := fun k env H1 => ∃ i : Nat, i ≤ xs.length ∧ xs.drop (xs.length - i) = ys.drop (xs.length - i) ∧ env = [(5, .slice 1 (U .u32 xs) .shared), (6, .slice 1 (U .u32 ys) .shared), (7, .int .i64 ((xs.length : Int) - 1 - i))] ∧ H = H1 ∧ k = xs.length - i

set_option maxRecDepth 100000 in
theorem bcU (xs : List Nat) (tl : Tail) (hx : Limbs xs) (hl : xs.length ≤ 100000) (ys : List Nat) (tl2 : Tail) (hy : Limbs ys) (hm : ys.length ≤ 100000) (H : Heap) : ACall Tryz.prog 91 [.slice 1 (U .u32 xs) tl, .slice 1 (U .u32 ys) tl2] H (fun y H' => y = .int .i64 (asF (val xs) (val ys)) ∧ H' = H) := by
 have hr := qV xs
 have hrl := aaG hx
 have hs := qV ys
 have hsl := aaG hy
 refine ACall.of_body Tryz.func91 rfl Tryz.ntmps91 Tryz.results91 rfl ?_
 iterate 8 refine AX ?_
 refine .cl rfl Tryz.call89 (evs1 rfl) (aaM _ _ (by assumption) (by omega) _) ?_
 iterate 6 refine AX ?_
 refine .cl rfl Tryz.call89 (evs1 rfl) (aaM _ _ (by assumption) (by omega) _) ?_
 iterate 13 refine AX ?_
 refine AWP.cx rfl (fun hc16 => ?_) (fun hc16 => ?_)
 ·iterate 10 refine AX ?_
  refine AWP.cx rfl (fun hc21 => ?_) (fun hc21 => ?_)
  ·iterate 8 refine AX ?_
   refine Ret.go (.cons (.tmp _ _ rfl) .nil) _ (Heap.le.refl _) ?_
   refine ⟨?_, rfl⟩
   rw [asF, if_pos (aeH (by omega))]; rfl
  ·iterate 9 refine AX ?_
   refine Ret.go (.cons (.tmp _ _ rfl) .nil) _ (Heap.le.refl _) ?_
   refine ⟨?_, rfl⟩
   have := aeH (a := val ys) (b := val xs) (by omega)
   rw [asF, if_neg (by omega), if_pos this]; rfl
 ·have hLx := zJ (val xs)
  have hLy := zJ (val ys)
  have hvx := zM (val xs)
  have hvy := zM (val ys)
  have hlen : (zE (val xs)).length = (zE (val ys)).length := by omega
  iterate 7 refine AX ?_
  refine .p rfl (zO (tm rfl) zF (by omega)) ?_
  iterate 4 refine AX ?_
  refine AWP.loopW (rcmp_J (zE (val xs)) (zE (val ys)) H) ((zE (val xs)).length) ⟨0, Nat.zero_le _, by rw [Nat.sub_zero, List.drop_length, hlen, List.drop_length], rfl, rfl, rfl⟩ (yC rfl (yC rfl (zW rfl (by simp) yX))) (Heap.le.refl _) ?_
  rintro _ _ _ ⟨i, hi, hd, rfl, rfl, rfl⟩
  iterate 7 refine AX ?_
  refine AWP.cx rfl (fun hc26 => ?_) (fun hc26 => ?_)
  ·have hds : (zE (val xs)).drop ((zE (val xs)).length - 1 - i + 1) = (zE (val ys)).drop ((zE (val xs)).length - 1 - i + 1) := by rw [show (zE (val xs)).length - 1 - i + 1 = (zE (val xs)).length - i by omega]; exact hd
   iterate 6 refine AX ?_
   refine AWP.draw [(0, true), (1, true), (2, true), (3, true), (4, true), (5, true), (6, true), (7, true), (8, true)] rfl (by decide +kernel) ?_
   iterate 2 refine AX ?_
   refine .p rfl rfl (zV ((zE (val xs)).length - 1 - i) Tryz.underlying94 Tryz.sizeOf112 (tm rfl) (tm rfl) (by omega) (by omega)) ?_
   iterate 3 refine AX ?_
   refine .p rfl rfl (zV ((zE (val xs)).length - 1 - i) Tryz.underlying94 Tryz.sizeOf112 (tm rfl) (tm rfl) (by omega) (by omega)) ?_
   iterate 4 refine AX ?_
   refine AWP.cx rfl (fun hc37 => ?_) (fun hc37 => ?_)
   ·iterate 12 refine AX ?_
    refine Ret.go (.cons (.tmp _ _ rfl) .nil) _ (Heap.le.refl _) ?_
    refine ⟨?_, rfl⟩
    have := aeX hLx hLy hlen (k := (zE (val xs)).length - 1 - i) (by omega) hds (by omega)
    rw [hvx, hvy] at this
    rw [asF, if_pos (by omega)]; rfl
   ·iterate 3 refine AX ?_
    refine AWP.draw [(0, true), (1, true), (2, true), (3, true), (4, true), (5, true), (6, true), (7, true), (8, true)] rfl (by decide +kernel) ?_
    iterate 2 refine AX ?_
    refine .p rfl rfl (zV ((zE (val xs)).length - 1 - i) Tryz.underlying94 Tryz.sizeOf112 (tm rfl) (tm rfl) (by omega) (by omega)) ?_
    iterate 3 refine AX ?_
    refine .p rfl rfl (zV ((zE (val xs)).length - 1 - i) Tryz.underlying94 Tryz.sizeOf112 (tm rfl) (tm rfl) (by omega) (by omega)) ?_
    iterate 4 refine AX ?_
    refine AWP.cx rfl (fun hc46 => ?_) (fun hc46 => ?_)
    ·iterate 11 refine AX ?_
     refine Ret.go (.cons (.tmp _ _ rfl) .nil) _ (Heap.le.refl _) ?_
     refine ⟨?_, rfl⟩
     have := aeX hLy hLx hlen.symm (k := (zE (val xs)).length - 1 - i) (by omega) hds.symm (by omega)
     rw [hvx, hvy] at this
     rw [asF, if_neg (by omega), if_pos (by omega)]; rfl
    ·iterate 5 refine AX ?_
     refine .p rfl (zO (tm rfl) zF (by omega)) ?_
     iterate 3 refine AX ?_
     refine Round.mk (J := rcmp_J (zE (val xs)) (zE (val ys)) H) ⟨i + 1, by omega, by rw [show (zE (val xs)).length - (i + 1) = (zE (val xs)).length - 1 - i by omega]; exact auY hlen (by omega) hds (by omega), rfl, rfl, rfl⟩ (yC rfl (yC rfl (zW rfl (by congr 1; omega) yX))) (Heap.le.refl _) (by omega)
  ·iterate 11 refine AX ?_
   refine Ret.go (.cons (.tmp _ _ rfl) .nil) _ (Heap.le.refl _) ?_
   refine ⟨?_, rfl⟩
   have h0 : (zE (val xs)).length - i = 0 := by omega
   have hxy : zE (val xs) = zE (val ys) := by rw [h0] at hd; simpa using hd
   rw [auL hxy, asF, if_neg (Nat.lt_irrefl _), if_neg (Nat.lt_irrefl _)]; rfl
def rtim_J (xs ys : List Nat) (tl tl2 : Tail) (b : Nat) (H : Heap) : Nat → Env → Heap → Prop := fun k env H1 => ∃ (i : Nat) (zs : List Nat), i ≤ xs.length ∧ zs.length = (xs.length + ys.length + 1) ∧ Limbs zs ∧ (∀ j, i + ys.length ≤ j → zs.getD j 0 = 0) ∧ val zs = val (xs.take i) * val ys ∧ env = [(0, .slice 1 (U .u32 xs) tl), (1, .slice 1 (U .u32 ys) tl2), (5, .mslice (some ⟨b, 0, none⟩) (xs.length + ys.length + 1) (xs.length + ys.length + 1)), (6, .int .i64 (i : Int))] ∧ H1 = H.set b (.box 112 (U .u32 zs)) ∧ k = xs.length - i

def bgH (xs ys : List Nat) (tl tl2 : Tail) (b i : Nat) (o0 : List Nat) (H : Heap) : Nat → Env → Heap → Prop := fun k env H1 => ∃ (j c : Nat) (zs : List Nat), j ≤ ys.length ∧ zs.length = (xs.length + ys.length + 1) ∧ Limbs zs ∧ c < 4294967296 ∧ (∀ j, i + ys.length ≤ j → zs.getD j 0 = 0) ∧ val zs + 4294967296 ^ (i + j) * c = val o0 + 4294967296 ^ i * xs.getD i 0 * val (ys.take j) ∧ env = [(0, .slice 1 (U .u32 xs) tl), (1, .slice 1 (U .u32 ys) tl2), (5, .mslice (some ⟨b, 0, none⟩) (xs.length + ys.length + 1) (xs.length + ys.length + 1)), (6, .int .i64 (i : Int)), (7, .int .u64 (c : Int)), (8, .int .i64 (j : Int))] ∧ H1 = H.set b (.box 112 (U .u32 zs)) ∧ k = ys.length - j

set_option maxRecDepth 100000 in
theorem afY (xs : List Nat) (tl : Tail) (hx : Limbs xs) (hl : xs.length ≤ 100000) (ys : List Nat) (tl2 : Tail) (hy : Limbs ys) (hm : ys.length ≤ 100000) (H : Heap) : ACall Tryz.prog 53 [.slice 1 (U .u32 xs) tl, .slice 1 (U .u32 ys) tl2] H (fun y H' => y = aaA (val xs * val ys) ∧ H' = H) := by
 refine ACall.of_body Tryz.func53 rfl Tryz.ntmps53 Tryz.results53 rfl ?_
 iterate 2 refine AX ?_
 refine .p rfl (zC (qB (sz := 1) (tl := .full))) ?_
 iterate 8 refine AX ?_
 refine .p rfl (zK (tm rfl) (tm rfl) (by omega)) (.p rfl (zK (tm rfl) zF (by omega)) (.s rfl (yM (xs.length + ys.length + 1) Tryz.underlying94 Tryz.typeInfo112 Tryz.sizeOf112 Tryz.zeroValue112 (tm rfl) (tm rfl) (by omega) (by omega) (by decide) (by omega)) ?_))
 rintro _ _ ⟨b16, rfl, hb16, hH⟩
 obtain rfl := hH.symm
 iterate 10 refine AX ?_
 refine AWP.loopW (rtim_J xs ys tl tl2 b16 H) (xs.length) ⟨0, List.replicate _ 0, Nat.zero_le _, by simp, Limbs.rep (by omega), fun j _ => baT _ _, by rw [ajF, List.take_zero, val, Nat.zero_mul], rfl, rfl, rfl⟩ sX (Heap.le.refl _) ?_
 rintro _ _ _ ⟨i, zs0, hi, hz0, hzl0, h0, hv0, rfl, rfl, hk⟩
 iterate 9 refine AX ?_
 refine AWP.cx rfl (fun hc20 => ?_) (fun hc20 => ?_)
 ·iterate 6 refine AX ?_
  refine .p rfl (zC (zG 0)) ?_
  iterate 9 refine AX ?_
  refine AWP.loopW (bgH xs ys tl tl2 b16 i zs0 H) (ys.length) ⟨0, 0, zs0, Nat.zero_le _, hz0, hzl0, by omega, h0, by rw [List.take_zero, val, Nat.mul_zero, Nat.mul_zero], rfl, rfl, rfl⟩ sX (Heap.le.refl _) ?_
  rintro _ _ _ ⟨j, c, zs, hj, hz, hzl, hc, hzr, hv, rfl, rfl, hk2⟩
  iterate 9 refine AX ?_
  refine AWP.cx rfl (fun hc26 => ?_) (fun hc26 => ?_)
  ·have hPi := Limbs.getD hx i
   have hQj := Limbs.getD hy j
   have hZ := Limbs.getD hzl (i + j)
   have hmf := baI hPi hQj hZ hc
   iterate 5 refine AX ?_
   refine AWP.draw [(0, true), (1, true), (2, true), (3, true), (4, true), (5, true), (6, true), (7, true), (8, true), (9, true), (10, true), (11, true), (12, true), (13, true), (14, true), (15, true), (19, true), (16, false), (17, true), (18, true), (20, true), (21, true)] rfl (by decide +kernel) ?_
   iterate 2 refine AX ?_
   refine .p rfl rfl (zV (i) Tryz.underlying94 Tryz.sizeOf112 (tm rfl) (tm rfl) (by omega) (by omega)) ?_
   refine AX ?_
   refine .p rfl rfl (zT Tryz.underlying112 Tryz.underlying30 (tm rfl) (wrapN64 (by omega))) ?_
   iterate 2 refine AX ?_
   refine .p rfl rfl (zV (j) Tryz.underlying94 Tryz.sizeOf112 (tm rfl) (tm rfl) (by omega) (by omega)) ?_
   refine AX ?_
   refine .p rfl rfl (zT Tryz.underlying112 Tryz.underlying30 (tm rfl) (wrapN64 (by omega))) (.p rfl rfl (acO (tm rfl) (tm rfl) (by omega)) ?_)
   iterate 3 refine AX ?_
   refine .p rfl rfl (zK (tm rfl) (tm rfl) (by omega)) (.p rfl rfl (yO (i + j) Tryz.underlying94 Tryz.sizeOf112 (tm rfl) (tm rfl) (by omega) (by omega)) ?_)
   refine AX ?_
   refine .s rfl rfl (qI Tryz.isAgg112 (tm rfl) (Heap.objs_set_same _ _ _) (by omega)) ?_
   rintro _ _ ⟨rfl, hH⟩
   obtain rfl := hH.symm
   refine .p rfl rfl (zT Tryz.underlying112 Tryz.underlying30 (tm rfl) (wrapN64 (by omega))) (.p rfl rfl (yD (tm rfl) (tm rfl) (by omega)) (.p rfl rfl (yD (tm rfl) (tm rfl) (by assumption)) ?_))
   iterate 8 refine AX ?_
   refine .p rfl (zK (tm rfl) (tm rfl) (by omega)) ?_
   refine AX ?_
   refine .p rfl (abF (tm rfl) (zG 4294967296) (by omega)) (.p rfl (yL Tryz.underlying30 Tryz.underlying112 rfl (tm rfl)) (.p rfl (yO (i + j) Tryz.underlying94 Tryz.sizeOf112 (tm rfl) (tm rfl) (by omega) (by omega)) (.e0 (yZ Tryz.sizeOf112 (tm rfl) (tm rfl) (Heap.objs_set_same _ _ _) (by omega)) ?_)))
   try first | rw [Heap.set_set] | rw [Heap.set_under (by assumption)]
   iterate 4 refine AX ?_
   refine .p rfl (yG (tm rfl) (zG 32) (by assumption)) ?_
   iterate 6 refine AX ?_
   refine .p rfl (zK (tm rfl) zF (by omega)) ?_
   iterate 3 refine AX ?_
   have hmm : (xs.getD i 0 * ys.getD j 0 + zs.getD (i + j) 0 + c) % 4294967296 % 2 ^ IntKind.u32.bits = (xs.getD i 0 * ys.getD j 0 + zs.getD (i + j) 0 + c) % 4294967296 := Nat.mod_eq_of_lt (Nat.mod_lt _ (by decide))
   rw [hmm]
   refine Round.mk (J := bgH xs ys tl tl2 b16 i zs0 H) ⟨j + 1, _, _, by omega, by simpa using hz, Limbs.set hzl (Nat.mod_lt _ (by decide)), by omega, fun q hq => akU hzr (by omega) q hq, baH (by omega) hv, rfl, rfl, rfl⟩ sX (Heap.le.refl _) (by omega)
  ·have hj2 : j = ys.length := by omega
   subst hj2
   have hcm : c % 2 ^ IntKind.u32.bits = c := Nat.mod_eq_of_lt hc
   iterate 10 refine AX ?_
   refine .p rfl (zK (tm rfl) (tm rfl) (by omega)) ?_
   refine AX ?_
   refine .p rfl (yL Tryz.underlying30 Tryz.underlying112 rfl (tm rfl)) (.p rfl (yO (i + ys.length) Tryz.underlying94 Tryz.sizeOf112 (tm rfl) (tm rfl) (by omega) (by omega)) (.e0 (yZ Tryz.sizeOf112 (tm rfl) (tm rfl) (Heap.objs_set_same _ _ _) (by omega)) ?_))
   try first | rw [Heap.set_set] | rw [Heap.set_under (by assumption)]
   iterate 5 refine AX ?_
   refine .p rfl (zK (tm rfl) zF (by omega)) ?_
   iterate 3 refine AX ?_
   rw [hcm]
   refine Round.mk (J := rtim_J xs ys tl tl2 b16 H) ⟨i + 1, _, by omega, by simpa using hz, Limbs.set hzl hc, fun j hj => akU (n := i + 1 + ys.length) (fun j hj => hzr j (by omega)) (by omega) j hj, bhQ rfl (by omega) (hzr _ (Nat.le_refl _)) hv0 hv, rfl, rfl, rfl⟩ sX (Heap.le.refl _) (by omega)
 ·iterate 6 refine AX ?_
  have hi2 : i = xs.length := by omega
  subst hi2
  rw [List.take_length] at hv0
  refine AWP.frzU (t := 5) rfl hb16 (by omega) (Nat.le_refl _) (by simp only [zP]; omega) ?_
  rw [List.take_of_length_le (by omega)]
  have hz5 : zs0.length ≤ 1000000 := by omega
  iterate 2 refine AX ?_
  refine .cl rfl Tryz.call89 (evs1 rfl) (aaM _ _ (by assumption) (by assumption) _) ?_
  iterate 4 refine AX ?_
  refine Ret.go (.cons (.tmp _ _ rfl) .nil) _ (Heap.le.refl _) ?_
  refine ⟨?_, rfl⟩
  rw [← hv0]; rfl

theorem or_bit {gl s : Nat} (hs : s < 32) (hg : gl < 4294967296) (h0 : gl % 2 ^ (s + 1) = 0) : gl ||| 2 ^ s = gl + 2 ^ s ∧ gl + 2 ^ s < 4294967296 := by
 obtain ⟨q, rfl⟩ := Nat.dvd_of_mod_eq_zero h0
 have hlt : 2 ^ s < 2 ^ (s + 1) := Nat.pow_lt_pow_right (by decide) (by omega)
 refine ⟨by rw [Nat.mul_comm]; exact ahG hlt, ?_⟩
 have e : (4294967296 : Nat) = 2 ^ (s + 1) * 2 ^ (31 - s) := by rw [← Nat.pow_add, show s + 1 + (31 - s) = 32 by omega]
 rw [e] at hg ⊢
 have h1 := Nat.lt_of_mul_lt_mul_left hg
 have h2 : 2 ^ (s + 1) * (q + 1) ≤ 2 ^ (s + 1) * 2 ^ (31 - s) := Nat.mul_le_mul_left _ h1
 rw [Nat.mul_add, Nat.mul_one] at h2
 omega
theorem limb_of (xs : List Nat) (j : Nat) (hl : Limbs xs) : xs.getD j 0 = val xs / 4294967296 ^ j % 4294967296 := by
 induction xs generalizing j with
 | nil => simp [val]
 | cons x xs ih =>
  obtain ⟨h1, h2⟩ := hl.cons
  cases j with
  | zero => rw [Nat.pow_zero, Nat.div_one, val, Nat.add_mul_mod_self_left, Nat.mod_eq_of_lt h1]; rfl
  | succ j =>
   rw [List.getD_cons_succ, ih j h2, Nat.pow_succ, Nat.mul_comm (4294967296 ^ j), ← Nat.div_div_eq_div_mul, val, Nat.add_mul_div_left _ _ (by decide), Nat.div_eq_of_lt h1, Nat.zero_add]
theorem low_limb {zs : List Nat} {i Q : Nat} (hz : Limbs zs) (h : val zs = 2 ^ (i + 1) * Q) : zs.getD (i / 32) 0 % 2 ^ (i % 32 + 1) = 0 := by
 rw [limb_of zs _ hz, h]
 have e : (4294967296 : Nat) = 2 ^ 32 := by decide
 rw [e, ← Nat.pow_mul]
 have h32 : i % 32 < 32 := Nat.mod_lt _ (by decide)
 have hi : i = 32 * (i / 32) + i % 32 := (Nat.div_add_mod i 32).symm
 generalize i / 32 = a at *
 generalize i % 32 = r at *
 subst hi
 rw [Nat.add_assoc, Nat.pow_add, Nat.mul_assoc, Nat.mul_div_cancel_left _ (Nat.pow_pos (by decide))]
 rw [Nat.mod_mod_of_dvd _ (Nat.pow_dvd_pow 2 (by omega : r + 1 ≤ 32))]
 exact Nat.mul_mod_right _ _
theorem bhC {zs : List Nat} {i Q : Nat} (hz : Limbs zs) (hl : i / 32 < zs.length) (h : val zs = 2 ^ (i + 1) * Q) : val (zs.set (i / 32) (zs.getD (i / 32) 0 + 2 ^ (i % 32))) = 2 ^ i * (2 * Q + 1) := by
 have e := awB (zs := zs) (i := i / 32) (v := zs.getD (i / 32) 0 + 2 ^ (i % 32)) hl
 have e2 : (4294967296 : Nat) ^ (i / 32) * 2 ^ (i % 32) = 2 ^ i := by
  rw [show (4294967296 : Nat) = 2 ^ 32 by decide, ← Nat.pow_mul, ← Nat.pow_add, Nat.div_add_mod]
 rw [Nat.mul_add, e2] at e
 have e3 : 2 ^ i * (2 * Q + 1) = 2 ^ (i + 1) * Q + 2 ^ i := by rw [Nat.mul_add, Nat.pow_succ, Nat.mul_one, Nat.mul_assoc]
 omega
theorem apN {a b Q r j : Nat} (h : a / 2 ^ (j + 1) = Q * b + r) : a / 2 ^ j = 2 * Q * b + (2 * r + a / 2 ^ j % 2) := by
 have h1 : a / 2 ^ (j + 1) = a / 2 ^ j / 2 := by rw [Nat.pow_succ, Nat.div_div_eq_div_mul]
 rw [h1] at h
 have h2 := Nat.div_add_mod (a / 2 ^ j) 2
 rw [h, Nat.mul_add, ← Nat.mul_assoc] at h2
 omega
theorem auK {n : Nat} {ys : List Nat} (hy : Limbs ys) (h : n < 2 * val ys) : (zE n).length ≤ ys.length + 1 := by
 rw [qG, Nat.pow_succ]
 have := aeC hy
 omega
def PartsOK (a b : Nat) (zs : List Nat) (r j : Nat) : Prop := ∃ Q, a / 2 ^ j = Q * b + r ∧ r < b ∧ val zs = 2 ^ j * Q
theorem PartsOK.lt {a b r j : Nat} {zs : List Nat} (h : PartsOK a b zs r j) : r < b := by obtain ⟨_, _, h, _⟩ := h; exact h
theorem PartsOK.stay {a b r j : Nat} {zs : List Nat} (h : PartsOK a b zs r (j + 1)) (hb : 2 * r + a / 2 ^ j % 2 < b) : PartsOK a b zs (2 * r + a / 2 ^ j % 2) j := by
 obtain ⟨Q, h1, h2, h3⟩ := h
 exact ⟨2 * Q, apN h1, hb, by rw [h3, Nat.pow_succ, Nat.mul_assoc]⟩
theorem PartsOK.take {a b r j : Nat} {zs : List Nat} (h : PartsOK a b zs r (j + 1)) (hz : Limbs zs) (hl : j / 32 < zs.length) (hb : b ≤ 2 * r + a / 2 ^ j % 2) : PartsOK a b (zs.set (j / 32) (zs.getD (j / 32) 0 + 2 ^ (j % 32))) (2 * r + a / 2 ^ j % 2 - b) j := by
 obtain ⟨Q, h1, h2, h3⟩ := h
 refine ⟨2 * Q + 1, ?_, ?_, bhC hz hl h3⟩
 ·have e := apN h1
  rw [Nat.add_mul, Nat.one_mul]; omega
 ·have := Nat.mod_lt (a / 2 ^ j) (by decide : 0 < 2); omega
theorem PartsOK.low {a b r j : Nat} {zs : List Nat} (h : PartsOK a b zs r (j + 1)) (hz : Limbs zs) : zs.getD (j / 32) 0 ||| 2 ^ (j % 32) = zs.getD (j / 32) 0 + 2 ^ (j % 32) ∧ zs.getD (j / 32) 0 + 2 ^ (j % 32) < 4294967296 := by
 obtain ⟨Q, _, _, h3⟩ := h
 exact or_bit (Nat.mod_lt _ (by decide)) (hz.getD _) (low_limb hz h3)
theorem PartsOK.done {a b r : Nat} {zs : List Nat} (h : PartsOK a b zs r 0) : val zs = a / b ∧ r = a % b := by
 obtain ⟨Q, h1, h2, h3⟩ := h
 rw [Nat.pow_zero, Nat.div_one] at h1
 rw [Nat.pow_zero, Nat.one_mul] at h3
 rw [h3, h1]
 exact ⟨by rw [Nat.add_comm, Nat.add_mul_div_right _ _ (by omega), Nat.div_eq_of_lt h2, Nat.zero_add], by rw [Nat.add_comm, Nat.add_mul_mod_self_right, Nat.mod_eq_of_lt h2]⟩
theorem PartsOK.begin {a b n : Nat} (hb : 0 < b) (h : a < 2 ^ n) (k : Nat) : PartsOK a b (List.replicate k 0) 0 n := ⟨0, by rw [Nat.div_eq_of_lt h]; simp, hb, by rw [ajF, Nat.mul_zero]⟩
theorem bbT {xs : List Nat} (h : Limbs xs) : val xs < 2 ^ (32 * xs.length) := by
 have := aeC h
 rwa [show (4294967296 : Nat) = 2 ^ 32 by decide, ← Nat.pow_mul] at this
theorem axY {r : Nat} {ys : List Nat} (hy : Limbs ys) (h : r < val ys) : (zE r).length ≤ ys.length := by
 rw [qG]; exact Nat.lt_trans h (aeC hy)
theorem bgD {s : Nat} (h : s < 32) : 1 * 2 ^ s < 4294967296 := by
 rw [Nat.one_mul]; exact Nat.pow_lt_pow_right (by decide) h
theorem bit_nat {v : Nat} : (decide (((v % 2 : Nat) : Int) = 1)).toNat = v % 2 := by
 by_cases h : v % 2 = 1
 ·rw [h]; rfl
 ·rw [show v % 2 = 0 by omega]; rfl
theorem bjM {a b : Nat} : 0 ≤ asF a b ↔ b ≤ a := by unfold asF; split <;> (try split) <;> omega

def azJ (xs ys : List Nat) (tl tl2 : Tail) (b : Nat) (H : Heap) : Nat → Env → Heap → Prop := fun k env H1 => ∃ (j r : Nat) (zs : List Nat), j ≤ 32 * xs.length ∧ zs.length = xs.length ∧ Limbs zs ∧ PartsOK (val xs) (val ys) zs r j ∧ env = [(0, .slice 1 (U .u32 xs) tl), (1, .slice 1 (U .u32 ys) tl2), (6, .mslice (some ⟨b, 0, none⟩) xs.length xs.length), (7, aaA r), (8, .int .i64 ((j : Int) - 1))] ∧ H1 = H.set b (.box 112 (U .u32 zs)) ∧ k = j

set_option maxRecDepth 100000 in
theorem atP (xs : List Nat) (tl : Tail) (hx : Limbs xs) (hl : xs.length ≤ 100000) (ys : List Nat) (tl2 : Tail) (hy : Limbs ys) (hm : ys.length ≤ 50000) (hb : 0 < val ys) (H : Heap) : ACall Tryz.prog 56 [.slice 1 (U .u32 xs) tl, .slice 1 (U .u32 ys) tl2] H (fun y H' => y = .tuple [aaA (val xs / val ys), aaA (val xs % val ys)] ∧ H' = H) := by
 refine ACall.of_body Tryz.func56 rfl Tryz.ntmps56 Tryz.results56 rfl ?_
 iterate 2 refine AX ?_
 refine .p rfl (zC (qB (sz := 1) (tl := .shared))) ?_
 refine .p rfl (zC (qB (sz := 1) (tl := .shared))) ?_
 iterate 6 refine AX ?_
 refine .s rfl (yM (xs.length) Tryz.underlying94 Tryz.typeInfo112 Tryz.sizeOf112 Tryz.zeroValue112 (tm rfl) (tm rfl) (by omega) (by omega) (by decide) (by omega)) ?_
 rintro _ _ ⟨b11, rfl, hb11, hH⟩
 obtain rfl := hH.symm
 iterate 5 refine AX ?_
 refine .p rfl (zC (qB (sz := 1) (tl := .shared))) ?_
 iterate 7 refine AX ?_
 refine .p rfl (agP (zG 32) (tm rfl) (by omega)) (.p rfl (zO (tm rfl) (zG 1) (by omega)) ?_)
 iterate 4 refine AX ?_
 refine AWP.loopW (azJ xs ys tl tl2 b11 H) (32 * xs.length) ⟨32 * xs.length, 0, List.replicate xs.length 0, Nat.le_refl _, by simp, Limbs.rep (by omega), .begin hb (bbT hx) _, rfl, rfl, rfl⟩ (yC rfl (yC rfl (yC rfl (yC rfl (zW rfl (by rfl) yX))))) (Heap.le.refl _) ?_
 rintro _ _ _ ⟨j, r, zs, hj, hzl, hz, hp, rfl, rfl, hk⟩
 have hrl := axY hy hp.lt
 have hrl2 := auK (n := (2 * r + val xs / 2 ^ (j - 1) % 2)) hy (by have := hp.lt; have := Nat.mod_lt (val xs / 2 ^ (j - 1)) (by decide : 0 < 2); omega)
 iterate 4 refine AX ?_
 refine .p rfl (acT (tm rfl) (zG 0)) ?_
 iterate 2 refine AX ?_
 refine AWP.cx rfl (fun hc17 => ?_) (fun hc17 => ?_)
 ·have hp1 : PartsOK (val xs) (val ys) zs r (j - 1 + 1) := by rw [show j - 1 + 1 = j by omega]; exact hp
  have hlow := hp1.low hz
  have hs1 := bgD (Nat.mod_lt (j - 1) (by decide : 0 < 32))
  have hgz := hz.getD ((j - 1) / 32)
  rw [show ((j : Int) - 1) = ((j - 1 : Nat) : Int) by omega]
  iterate 2 refine AX ?_
  refine AWP.meet (fun env H2 => ∃ (r2 : Nat) (zs2 : List Nat), zs2.length = xs.length ∧ Limbs zs2 ∧ PartsOK (val xs) (val ys) zs2 r2 (j - 1) ∧ env = [(0, .slice 1 (U .u32 xs) tl), (1, .slice 1 (U .u32 ys) tl2), (6, .mslice (some ⟨b11, 0, none⟩) xs.length xs.length), (7, aaA r2), (8, .int .i64 ((j - 1 : Nat) : Int))] ∧ H2 = H.set b11 (.box 112 (U .u32 zs2))) ?_ ?_
  ·iterate 6 refine AX ?_
   refine .cl rfl Tryz.call87 (evs2 rfl rfl) (agM _ _ hx (by omega) (j - 1) (by omega) _ (by omega) _) (.cl rfl Tryz.call90 (evs2 rfl rfl) (akL (zE r) .shared (zJ r) (by omega) _ _) ?_)
   rw [zM, bit_nat]
   iterate 7 refine AX ?_
   refine .cl rfl Tryz.call91 (evs2 rfl rfl) (bcU (zE (2 * r + val xs / 2 ^ (j - 1) % 2)) .shared (zJ _) (by omega) _ _ hy (by omega) _) ?_
   rw [zM]
   refine .p rfl (acT (tm rfl) (zG 0)) ?_
   iterate 2 refine AX ?_
   refine AWP.cx rfl (fun hc28 => ?_) (fun hc28 => ?_)
   ·have hge := bjM.1 hc28
    iterate 4 refine AX ?_
    refine .cl rfl Tryz.call92 (evs2 rfl rfl) (awX (zE (2 * r + val xs / 2 ^ (j - 1) % 2)) .shared (zJ _) (by omega) _ _ hy (by omega) (by rw [zM]; exact hge) _) ?_
    rw [zM]
    iterate 6 refine AX ?_
    refine .p rfl (abA (tm rfl) (zG 32) (by omega) (by omega)) ?_
    iterate 2 refine AX ?_
    refine .p rfl (abA (tm rfl) (zG 32) (by omega) (by omega)) (.p rfl (yO ((j - 1) / 32) Tryz.underlying94 Tryz.sizeOf112 (tm rfl) (tm rfl) (by omega) (by omega)) (.e rfl (qI Tryz.isAgg112 (tm rfl) (Heap.objs_set_same _ _ _) (by omega)) ?_))
    refine AX ?_
    refine .p rfl (adW (tm rfl) (zG 32) (by omega)) (.p rfl (zT Tryz.underlying3 Tryz.underlying90 (tm rfl) (wrapN64 (by omega))) (.p rfl (amM (zG 1) (tm rfl) (by omega) (by exact bgD (Nat.mod_lt _ (by decide)))) (.p rfl (bgX (tm rfl) (tm rfl) (by assumption) (by assumption)) (.p rfl (yO ((j - 1) / 32) Tryz.underlying94 Tryz.sizeOf112 (tm rfl) (tm rfl) (by omega) (by omega)) (.e0 (yZ Tryz.sizeOf112 (tm rfl) (tm rfl) (Heap.objs_set_same _ _ _) (by omega)) ?_)))))
    try first | rw [Heap.set_set] | rw [Heap.set_under (by assumption)]
    iterate 3 refine AX ?_
    refine Meets.mk (M := fun env H2 => ∃ (r2 : Nat) (zs2 : List Nat), zs2.length = xs.length ∧ Limbs zs2 ∧ PartsOK (val xs) (val ys) zs2 r2 (j - 1) ∧ env = [(0, .slice 1 (U .u32 xs) tl), (1, .slice 1 (U .u32 ys) tl2), (6, .mslice (some ⟨b11, 0, none⟩) xs.length xs.length), (7, aaA r2), (8, .int .i64 ((j - 1 : Nat) : Int))] ∧ H2 = H.set b11 (.box 112 (U .u32 zs2))) ⟨_, zs.set ((j - 1) / 32) (zs.getD ((j - 1) / 32) 0 ||| (1 * 2 ^ ((j - 1) % 32))), by simpa using hzl, by rw [Nat.one_mul, hlow.1]; exact Limbs.set hz hlow.2, by rw [Nat.one_mul, hlow.1]; exact hp1.take hz (by omega) hge, rfl, rfl⟩ sX (Heap.le.refl _)
   ·have hlt : (2 * r + val xs / 2 ^ (j - 1) % 2) < val ys := by rcases Nat.lt_or_ge (2 * r + val xs / 2 ^ (j - 1) % 2) (val ys) with h | h; exact h; exact absurd (bjM.2 h) (by omega)
    iterate 3 refine AX ?_
    refine Meets.mk (M := fun env H2 => ∃ (r2 : Nat) (zs2 : List Nat), zs2.length = xs.length ∧ Limbs zs2 ∧ PartsOK (val xs) (val ys) zs2 r2 (j - 1) ∧ env = [(0, .slice 1 (U .u32 xs) tl), (1, .slice 1 (U .u32 ys) tl2), (6, .mslice (some ⟨b11, 0, none⟩) xs.length xs.length), (7, aaA r2), (8, .int .i64 ((j - 1 : Nat) : Int))] ∧ H2 = H.set b11 (.box 112 (U .u32 zs2))) ⟨_, zs, hzl, hz, hp1.stay hlt, rfl, rfl⟩ sX (Heap.le.refl _)
  ·rintro _ _ ⟨r2, zs2, hzl2, hz2, hp2, rfl, rfl⟩
   iterate 2 refine AX ?_
   refine .p rfl (zO (tm rfl) (zG 1) (by omega)) ?_
   iterate 3 refine AX ?_
   refine Round.mk (J := azJ xs ys tl tl2 b11 H) ⟨j - 1, r2, zs2, by omega, hzl2, hz2, hp2, rfl, rfl, rfl⟩ sX (Heap.le.refl _) (by omega)
 ·iterate 6 refine AX ?_
  have hj0 : j = 0 := by omega
  subst hj0
  obtain ⟨hq, hrm⟩ := hp.done
  refine AWP.frzU (t := 6) rfl hb11 (by omega) (Nat.le_refl _) (by simp only [zP]; omega) ?_
  rw [List.take_of_length_le (by omega)]
  iterate 2 refine AX ?_
  refine .cl rfl Tryz.call89 (evs1 rfl) (aaM zs .shared hz (by omega) _) ?_
  refine AX ?_
  refine .cl rfl Tryz.call89 (evs1 rfl) (aaM (zE r) .shared (zJ r) (by omega) _) ?_
  rw [zM]
  iterate 5 refine AX ?_
  refine Ret.go (.cons (.tmp _ _ rfl) (.cons (.tmp _ _ rfl) .nil)) _ (Heap.le.refl _) ?_
  refine ⟨?_, rfl⟩
  rw [← hq, ← hrm]; rfl
def XS (v : Nat) (H H1 : Heap) (p : Option Addr) (c : Nat) : Prop :=
 (v = 0 ∧ H1 = H) ∨ (0 < v ∧ ∃ b, p = some ⟨b, 0, none⟩ ∧ H.objs b = none ∧ (zE v).length ≤ c ∧ c ≤ maxLen ∧ H1 = H.set b (.box 112 (U .u32 (zE v ++ List.replicate (c - (zE v).length) 0))))
theorem XS.le {v : Nat} {H H1 : Heap} {p : Option Addr} {c : Nat} (h : XS v H H1 p c) : H.le H1 := by
 rcases h with ⟨_, rfl⟩ | ⟨_, b, _, hb, _, _, rfl⟩
 ·exact Heap.le.refl _
 ·exact Heap.le_set hb _
theorem XS.live {v : Nat} {H H1 : Heap} {p : Option Addr} {c : Nat} (h : XS v H H1 p c) (u : Nat) : XS v (H.live u) (H1.live u) p c := by
 rcases h with ⟨h, rfl⟩ | ⟨h, b, h1, hb, h2, h3, rfl⟩
 ·exact .inl ⟨h, rfl⟩
 ·exact .inr ⟨h, b, h1, hb, h2, h3, rfl⟩
theorem limbs_nz {n : Nat} (h : 0 < n) : 0 < (zE n).length := by rw [qA h]; simp
theorem up_pow (v n : Nat) : 4294967296 ^ (n / 32) * v * 2 ^ (n % 32) = v * 2 ^ n := by
 have e2 : (4294967296 : Nat) ^ (n / 32) * 2 ^ (n % 32) = 2 ^ n := by
  rw [show (4294967296 : Nat) = 2 ^ 32 by decide, ← Nat.pow_mul, ← Nat.pow_add, Nat.div_add_mod]
 rw [Nat.mul_comm _ v, Nat.mul_assoc, e2]
theorem up_small {v n i : Nat} (h : v * 2 ^ n < BIG) (hi : i < n % 32) : 2 * (4294967296 ^ (n / 32) * v * 2 ^ i) < BIG := by
 refine Nat.lt_of_le_of_lt ?_ h
 rw [← up_pow v n, Nat.mul_comm 2, Nat.mul_assoc _ (2 ^ i), ← Nat.pow_succ]
 exact Nat.mul_le_mul_left _ (Nat.pow_le_pow_right (by decide) hi)
def rup_J (xs : List Nat) (tl : Tail) (n : Nat) (H : Heap) : Nat → Env → Heap → Prop := fun k env H1 => ∃ (i : Nat) (zs : List Nat) (tl2 : Tail), i ≤ n % 32 ∧ Limbs zs ∧ zs.length ≤ 20000 ∧ val zs = 4294967296 ^ (n / 32) * val xs * 2 ^ i ∧ env = [(0, .slice 1 (U .u32 xs) tl), (1, .int .i64 (n : Int)), (5, .slice 1 (U .u32 zs) tl2), (6, .int .i64 (i : Int))] ∧ H = H1 ∧ k = n % 32 - i

set_option maxRecDepth 100000 in
theorem atL (xs : List Nat) (tl : Tail) (hx : Limbs xs) (hl : xs.length ≤ 10000) (n : Nat) (hn : n ≤ 100000) (q : Int) (hq : q = (n : Int)) (hB : val xs * 2 ^ n < BIG) (H : Heap) : ACall Tryz.prog 57 [.slice 1 (U .u32 xs) tl, .int .i64 q] H (fun y H' => y = aaA (val xs * 2 ^ n) ∧ H' = H) := by
 subst hq
 refine ACall.of_body Tryz.func57 rfl Tryz.ntmps57 Tryz.results57 rfl ?_
 iterate 2 refine AX ?_
 refine .p rfl (zC (qB (sz := 1) (tl := .full))) ?_
 iterate 5 refine AX ?_
 refine .p rfl (abA (tm rfl) (zG 32) (by omega) (by omega)) (.s rfl (yM (n / 32) Tryz.underlying94 Tryz.typeInfo112 Tryz.sizeOf112 Tryz.zeroValue112 (tm rfl) (tm rfl) (by omega) (by omega) (by decide) (by omega)) ?_)
 rintro _ _ ⟨b9, rfl, hb9, hH⟩
 obtain rfl := hH.symm
 iterate 4 refine AX ?_
 refine AWP.frzUF (t := 5) rfl hb9 (by simp) rfl (by simp only [zP]; omega) ?_
 rw [List.take_of_length_le (by simp)]
 iterate 3 refine AX ?_
 refine .e rfl (akF Tryz.underlying94 Tryz.underlying94 Tryz.sizeOf112 Tryz.typeInfo112 Tryz.zeroValue112 rfl (by decide) (tm rfl) (tm rfl) (by show (_ + _) * 4 ≤ _; simp only [agC, List.length_replicate]; omega) (by repeat' (first | exact yK _ | exact aaY | exact afC ⟨rfl, rfl⟩ aaY | exact aaD (yK _) | exact aaC (yK _) | refine abK ?_ ?_ | exact aoM _ _)) (by repeat' (first | exact yK _ | exact aaY | exact afC ⟨rfl, rfl⟩ aaY | exact aaD (yK _) | exact aaC (yK _) | refine abK ?_ ?_ | exact aoM _ _))) ?_
 iterate 6 refine AX ?_
 refine .p rfl (zC (zG 0)) ?_
 iterate 3 refine AX ?_
 refine AWP.loopW (rup_J xs tl n H) (n % 32) ⟨0, List.replicate (n / 32) 0 ++ xs, .shared, Nat.zero_le _, (Limbs.rep (by decide)).append hx, by simp; omega, by rw [qC, ajF, List.length_replicate]; omega, rfl, rfl, rfl⟩ (yC rfl (yC rfl (zW rfl (afB (bjX _ _ _)) (yC rfl yX)))) (Heap.le.refl _) ?_
 rintro _ _ _ ⟨i, zs, tl2, hi, hz, hzl, hv, rfl, rfl, hk⟩
 iterate 5 refine AX ?_
 refine .p rfl (adW (tm rfl) (zG 32) (by omega)) ?_
 iterate 3 refine AX ?_
 refine AWP.cx rfl (fun hc16 => ?_) (fun hc16 => ?_)
 ·iterate 6 refine AX ?_
  refine .cl rfl Tryz.call90 (.cons (tm rfl) (.cons yN .nil)) (akL zs tl2 hz (by omega) false _) ?_
  have hsm := yU (up_small hB (show i < n % 32 by omega))
  rw [← hv] at hsm
  iterate 6 refine AX ?_
  refine .p rfl (zK (tm rfl) (zG 1) (by omega)) ?_
  iterate 3 refine AX ?_
  refine Round.mk (J := rup_J xs tl n H) ⟨i + 1, zE (2 * val zs), .shared, by omega, zJ _, by omega, by rw [zM, hv, Nat.pow_succ, Nat.mul_comm 2, Nat.mul_assoc], rfl, rfl, rfl⟩ sX (Heap.le.refl _) (by omega)
 ·iterate 8 refine AX ?_
  refine .cl rfl Tryz.call89 (evs1 rfl) (aaM _ _ (by assumption) (by omega) _) ?_
  iterate 4 refine AX ?_
  refine Ret.go (.cons (.tmp _ _ rfl) .nil) _ (Heap.le.refl _) ?_
  refine ⟨?_, rfl⟩
  have hi2 : i = n % 32 := by omega
  rw [hv, hi2, up_pow]; rfl

def rten_J (n : Nat) (H : Heap) : Nat → Env → Heap → Prop := fun k env H1 => ∃ (i : Nat) (tl : Tail), i ≤ n ∧ env = [(0, .int .i64 (n : Int)), (3, .slice 1 (U .u32 (zE (10 ^ i))) tl), (4, .int .i64 (i : Int))] ∧ H = H1 ∧ k = n - i

set_option maxRecDepth 100000 in
theorem apB (n : Nat) (hn : n ≤ 100000) (q : Int) (hq : q = (n : Int)) (hB : 10 ^ n < BIG) (H : Heap) : ACall Tryz.prog 54 [.int .i64 q] H (fun y H' => y = aaA (10 ^ n) ∧ H' = H) := by
 subst hq
 refine ACall.of_body Tryz.func54 rfl Tryz.ntmps54 Tryz.results54 rfl ?_
 iterate 2 refine AX ?_
 refine .p rfl (zC (qB (sz := 1) (tl := .full))) ?_
 iterate 4 refine AX ?_
 refine .e rfl (aaL Tryz.underlying94 Tryz.sizeOf112 Tryz.zeroValue112 rfl (zG 1) (.inl rfl) ⟨rfl, rfl⟩) ?_
 iterate 6 refine AX ?_
 refine .p rfl (zC (zG 0)) ?_
 iterate 3 refine AX ?_
 refine AWP.loopW (rten_J n H) (n) ⟨0, .full, Nat.zero_le _, rfl, rfl, rfl⟩ (yC rfl (zW rfl (afB rfl) (yC rfl yX))) (Heap.le.refl _) ?_
 rintro _ _ _ ⟨i, tl, hi, rfl, rfl, hk⟩
 have hl := yU (n := 10 ^ i) (Nat.lt_of_le_of_lt (Nat.pow_le_pow_right (by decide) hi) hB)
 iterate 8 refine AX ?_
 refine AWP.cx rfl (fun hc8 => ?_) (fun hc8 => ?_)
 ·iterate 6 refine AX ?_
  refine .e rfl (aaL Tryz.underlying94 Tryz.sizeOf112 Tryz.zeroValue112 rfl (zG 10) (.inl rfl) ⟨rfl, rfl⟩) (.cl rfl Tryz.call53 (evs2 rfl rfl) (afY (zE (10 ^ i)) tl (zJ _) (by omega) [10] .full (Limbs.mk (by decide) Limbs.nil) (by decide) _) ?_)
  rw [zM, show val [10] = 10 from rfl, ← Nat.pow_succ]
  iterate 6 refine AX ?_
  refine .p rfl (zK (tm rfl) (zG 1) (by omega)) ?_
  iterate 3 refine AX ?_
  refine Round.mk (J := rten_J n H) ⟨i + 1, .shared, by omega, rfl, rfl, rfl⟩ sX (Heap.le.refl _) (by omega)
 ·iterate 12 refine AX ?_
  refine Ret.go (.cons (.weak _ _ _ rfl (.slice _ _ _)) .nil) _ (Heap.le.refl _) ?_
  refine ⟨?_, rfl⟩
  rw [show i = n by omega]; rfl
end Go.Proofs.YtfkeflcdadlmdaaGreatDoor
