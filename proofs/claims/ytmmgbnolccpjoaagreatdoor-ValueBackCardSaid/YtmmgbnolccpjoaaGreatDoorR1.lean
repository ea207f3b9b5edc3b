import Derived.Test.YtmmgbnolccpjoaaGreatDoorN2
namespace Go.Proofs.YtmmgbnolccpjoaaGreatDoor
open Go Go.RowKit
variable {Q a b c i j n r v : Nat} {l xs ys zs : List Nat}
section
set_option maxRecDepth 100000

theorem bgB {x : Nat} (hx : x < 4294967296) (hc : c ≤ 1) : 2 * x + c < 18446744073709551616 ∧ (2 * x + c) / 4294967296 ≤ 1 := by omega
theorem bdX (hi : zs.length = i) {d : Nat} (h : val zs + 4294967296 ^ i * c = 2 * val (xs.take i) + d) :
  val (zs ++ [(2 * xs.getD i 0 + c) % 4294967296]) + 4294967296 ^ (i + 1) * ((2 * xs.getD i 0 + c) / 4294967296) = 2 * val (xs.take (i + 1)) + d := by
 rw [qX, hi, qC, bO]
 simp only [val, cW, cC]
 have e := fF (2 * xs.getD i 0 + c) 4294967296
 have e2 : 4294967296 ^ i * ((2 * xs.getD i 0 + c) % 4294967296) + 4294967296 ^ i * 4294967296 * ((2 * xs.getD i 0 + c) / 4294967296) = 2 * (4294967296 ^ i * xs.getD i 0) + 4294967296 ^ i * c := by
  rw [bC, ← bY, e, bY, Nat.mul_left_comm]
 omega
theorem bit_limb (hx : Limbs xs) (i : Nat) : xs.getD (i / 32) 0 / 2 ^ (i % 32) % 2 = val xs / 2 ^ i % 2 := by
 have key : ∀ (xs : List Nat) (j : Nat), Limbs xs → xs.getD j 0 = val xs / 4294967296 ^ j % 4294967296 := by
  intro xs
  induction xs with
  | nil => intro j _; simp [val]
  | cons x xs ih =>
   intro j hl
   obtain ⟨h1, h2⟩ := hl.cons
   cases j with
   | zero => rw [dC, fN, val, dB, aW h1]; rfl
   | succ j =>
    rw [dS, ih j h2, bO, bD (4294967296 ^ j), ← bU, val, fG _ _ (by decide), bX h1, bW]
 rw [key xs _ hx]
 have e : (4294967296 : Nat) = 2 ^ 32 := by decide
 rw [e, ← dO]
 have h32 : i % 32 < 32 := bQ _ (by decide)
 generalize val xs = v
 have hi : i = 32 * (i / 32) + i % 32 := (cD i 32).symm
 generalize i / 32 = a at *
 generalize i % 32 = r at *
 subst hi
 rw [bB, ← bU]
 generalize v / 2 ^ (32 * a) = w
 rw [show (32 : Nat) = r + (32 - r) by omega, bB, Nat.mod_mul, fG _ _ (bI (by decide)), bX (bQ _ (bI (by decide))), bW]
 rw [show 32 - r = (31 - r) + 1 by omega, bO, bD, Nat.mod_mul_right_mod]

def asP (xs : List Nat) (tl : Tail) (H : Heap) : Nat → Env → Heap → Prop := fun k env H1 => ∃ n : Nat, n ≤ xs.length ∧ qD (xs.take n) = qD xs ∧ env = [(0, .slice 1 (U .u32 xs) tl), (3, .int .i64 (n : Int))] ∧ H = H1 ∧ k = n

theorem aaQ (xs : List Nat) (tl : Tail) (hx : Limbs xs) (hl : xs.length ≤ 1000000) (H : Heap) : ACall Tryz.prog 153 [.slice 1 (U .u32 xs) tl] H (fun y H' => y = aaT (val xs) ∧ H' = H) := by
 refine ACall.of_body Tryz.func153 rfl Tryz.ntmps153 Tryz.results153 rfl ?_
 iterate 2 refine AX ?_
 refine .p rfl (zA (qK (sz := 1) (tl := .full))) ?_
 iterate 11 refine AX ?_
 refine AWP.loopW (asP xs tl H) (xs.length) ⟨xs.length, aX _, by rw [dL], rfl, rfl, rfl⟩ sX (hRa _) ?_
 rintro _ _ _ ⟨n, hn, hr, rfl, rfl, hk⟩
 refine AX ?_
 refine AWP.seqTo 15 (.bool (decide (0 < (n : Int)) && decide (((xs.getD (n - 1) 0 : Nat) : Int) = 0))) [0, 3] ?_ ?_
 ·-- region 2
  iterate 4 refine AX ?_
  refine zL (t := 8) rfl (fun hg8 => ?_) (fun hg8 => ?_)
  ·have hh8 := hg8; try simp only [aM] at hh8
   iterate 3 refine AX ?_
   refine .gp rfl rfl rfl (by assumption) (yA (n - 1) U107 Z166 (tm rfl) (tm rfl) (by omega) (by omega)) ?_
   refine AX ?_
   refine .gp rfl rfl rfl (by assumption) (zR (tm rfl) (zI 0)) ?_
   iterate 2 refine AX ?_
   exact ⟨rfl, zY rfl (by simp_all) sX, rfl⟩
  have hh8 := hg8; try simp only [aL, bN] at hh8
  iterate 8 refine AX ?_
  exact ⟨rfl, zY rfl (by simp_all) sX, rfl⟩
 refine AWP.sub [(15, _), (0, _), (3, _)] sX ?_
 refine AWP.cx rfl (fun hc15 => ?_) (fun hc15 => ?_)
 ·simp only [bK, aM] at hc15
  iterate 10 refine AX ?_
  have hs := acA (xs := xs) (k := n - 1) (by omega)
  rw [show n - 1 + 1 = n by omega, aO (by omega)] at hs
  refine Round.mk (J := asP xs tl H) ⟨n - 1, by omega, by rw [← hs, hr], rfl, rfl, rfl⟩ (zC rfl (zX rfl (by rw [show ((n : Int) - 1) = ((n - 1 : Nat) : Int) by omega]) zU)) (hRa _) (by omega)
 simp only [cB, aL] at hc15
 iterate 7 refine AX ?_
 refine .e rfl (asI U107 Z166 V166 ) ?_
 iterate 2 refine AX ?_
 refine .p rfl (acT (_) U107 Z166 (tm rfl) (tm rfl) rfl (by omega)) ?_
 refine .e rfl (alD U107 U107 Z166 Tryz.typeInfo166 V166 rfl (by decide) (tm rfl) (tm rfl) (by show (_ + _) * 4 ≤ _; simp only [adW, aQ, bL]; omega) (by repeat' (first | exact yP _ | exact abH | exact afP ⟨rfl, rfl⟩ abH | exact aaV (yP _) | exact aaU (yP _) | refine abP ?_ ?_ | exact (fun _ h => by simp at h))) (by repeat' (first | exact yP _ | exact abH | exact afP ⟨rfl, rfl⟩ abH | exact aaV (yP _) | exact aaU (yP _) | refine abP ?_ ?_ | exact akE _ _))) ?_
 iterate 5 refine AX ?_
 refine ⟨?_, rfl⟩
 have hq : n = qD xs := by
  rcases aY n with h0 | h0
  ·subst h0; rw [← hr]; rfl
  have hs := acA (xs := xs) (k := n - 1) (by omega)
  rw [show n - 1 + 1 = n by omega, aN (by omega), hr] at hs
  exact hs.symm
 rw [hq, cT, adC hx]; rfl

theorem bjU (v : Nat) (hv : v < 18446744073709551616) (H : Heap) : ACall Tryz.prog 189 [.int .u64 (v : Int)] H (fun y H' => y = aaT v ∧ H' = H) := by
 refine ACall.of_body Tryz.func189 rfl Tryz.ntmps189 Tryz.results189 rfl ?_
 iterate 2 refine AX ?_
 refine .p rfl (zA (qK (sz := 1) (tl := .full))) ?_
 iterate 5 refine AX ?_
 refine .p rfl (qY (tm rfl) (zI 4294967296) (by omega)) ?_
 iterate 2 refine AX ?_
 refine .p rfl (yF (tm rfl) (zI 32) (by assumption)) ?_
 refine AX ?_
 refine .e rfl (agI U107 Z166 V166 rfl (tm rfl) (.inl rfl) ⟨rfl, rfl⟩ (tm rfl) (.inl rfl) ⟨rfl, rfl⟩) ?_
 refine .cl rfl C153 (evs1 rfl) (aaQ [v % 4294967296 % 2 ^ IntKind.u32.bits, v / 2 ^ 32 % 2 ^ IntKind.u32.bits] .full (Limbs.mk (by simp only [IntKind.bits]; omega) (Limbs.mk (by simp only [IntKind.bits]; omega) Limbs.nil)) (by simp) _) ?_
 iterate 5 refine AX ?_
 refine ⟨?_, rfl⟩
 show aaT _ = _
 congr 1
 simp only [val, IntKind.bits]; omega

theorem aeP (xs : List Nat) (tl : Tail) (hx : Limbs xs) (hl : xs.length ≤ 1000000) (i : Nat) (q : Int) (hq : q = (i : Int)) (H : Heap) : ACall Tryz.prog 204 [.slice 1 (U .u32 xs) tl, .int .i64 q] H (fun y H' => y = .int .u64 ((xs.getD i 0 : Nat) : Int) ∧ H' = H) := by
 subst hq
 have hg := hx.getD i
 refine ACall.of_body Tryz.func204 rfl Tryz.ntmps204 Tryz.results204 rfl ?_
 iterate 2 refine AX ?_
 refine .p rfl (zA (zI 0)) ?_
 iterate 3 refine AX ?_
 refine AWP.seqTo 12 (.bool (decide ((i : Int) < 0) || decide ((xs.length : Int) ≤ (i : Int)))) [0, 1, 4] ?_ ?_
 ·-- region 1
  iterate 2 refine AX ?_
  refine .p rfl (yN (tm rfl) zE) (.mv rfl rfl ?_)
  refine zL (t := 7) rfl (fun hg7 => ?_) (fun hg7 => ?_)
  ·have hh7 := hg7; try simp only [aM] at hh7
   refine .gn rfl rfl rfl (by assumption) (.gn rfl rfl rfl (by assumption) (.gn rfl rfl rfl (by assumption) (.gn rfl rfl rfl (by assumption) (.p rfl (zO (tm rfl) (by assumption) zM) (.nil ?_)))))
   exact ⟨rfl, zY rfl (by (simp [*]; done)) sX, rfl⟩
  have hh7 := hg7; try simp only [aL, bN] at hh7
  iterate 6 refine AX ?_
  exact ⟨rfl, zY rfl (by rfl) sX, rfl⟩
 refine AWP.sub [(12, _), (0, _), (1, _), (4, _)] sX ?_
 refine AWP.cond (tm rfl) (fun hc12 => ?_) (fun hc12 => ?_)
 ·try simp only [aK] at hc12
  simp only [cV, aM] at hc12
  iterate 2 refine AX ?_
  refine .p rfl (zA (zI 0)) ?_
  iterate 5 refine AX ?_
  refine ⟨?_, rfl⟩
  rw [afJ (by omega)]; rfl
 try simp only [aK] at hc12
 simp only [cP, aL] at hc12
 iterate 6 refine AX ?_
 refine .p rfl (yA (i) U107 Z166 (tm rfl) (tm rfl) (by omega) (by omega)) ?_
 iterate 7 refine AX ?_
 exact ⟨rfl, rfl⟩

theorem afU (xs : List Nat) (tl : Tail) (hx : Limbs xs) (hl : xs.length ≤ 1000000) (i : Nat) (hi : i ≤ 1000000000) (q : Int) (hq : q = (i : Int)) (H : Heap) : ACall Tryz.prog 151 [.slice 1 (U .u32 xs) tl, .int .i64 q] H (fun y H' => y = .bool (decide (((val xs / 2 ^ i % 2 : Nat) : Int) = 1)) ∧ H' = H) := by
 subst hq
 have hg := hx.getD (i / 32)
 refine ACall.of_body Tryz.func151 rfl Tryz.ntmps151 Tryz.results151 rfl ?_
 iterate 9 refine AX ?_
 refine .p rfl (abV (tm rfl) (zI 32) (by omega) (by omega)) (.cl rfl C204 (evs2 rfl rfl) (aeP _ _ (by assumption) (by assumption) _ _ rfl _) ?_)
 refine AX ?_
 refine .p rfl (aeQ (tm rfl) (zI 32) (by omega)) ?_
 refine AX ?_
 refine .p rfl (yF (tm rfl) (tm rfl) (by omega)) (.p rfl (qY (tm rfl) (zI 2) (by omega)) (.p rfl (zR (tm rfl) (zI 1)) ?_))
 iterate 5 refine AX ?_
 refine ⟨?_, rfl⟩
 rw [← bit_limb hx]; rfl

end
section
open Go Go.RowKit
set_option maxRecDepth 100000

theorem rTrimX (c : Nat) (m : Int) (tl : Tail) (hz : Limbs zs) (hm : m = (c : Int)) (hc : c < 4294967296) (hl : zs.length + 1 ≤ 1000000) (H : Heap) :
  ACall Tryz.prog 153 [.slice 1 (U .u32 zs ++ [.int .u32 m]) tl] H (fun y H' => y = aaT (val zs + 4294967296 ^ zs.length * c) ∧ H' = H) := by
 subst hm
 have := aaQ (zs ++ [c]) tl (hz.append (Limbs.mk hc Limbs.nil)) (by simp; omega) H
 rw [← auF, qX] at this
 simp only [val, cW, cC] at this
 exact this
theorem bnF {m : Int} (c : Nat) (hm : m = (c : Int)) : U .u32 zs ++ [.int .u32 m] = U .u32 (zs ++ [c]) := by
 subst hm; rw [← auF]; rfl
theorem aqF : (2 : Nat) ^ 32 = 4294967296 := by decide
theorem atL (h : Limbs zs) (hc : c < 4294967296) : Limbs (zs ++ [c]) := h.append (Limbs.mk hc Limbs.nil)

def rtw_J (xs : List Nat) (tl : Tail) (b : Bool) (H : Heap) : Nat → Env → Heap → Prop := fun k env H1 => ∃ (i t : Nat) (zs : List Nat) (c : Nat), i ≤ xs.length ∧ zs.length = i ∧ Limbs zs ∧ c ≤ 1 ∧ val zs + 4294967296 ^ i * c = 2 * val (xs.take i) + b.toNat ∧ env = [(0, .slice 1 (U .u32 xs) tl), (5, .slice 1 (U .u32 zs) (.own t)), (6, .int .u64 (c : Int)), (7, .int .i64 (i : Int))] ∧ H.le H1 ∧ H1.toks t = true ∧ H.toks t = false ∧ k = xs.length - i

theorem alJ (xs : List Nat) (tl : Tail) (hx : Limbs xs) (hl : xs.length ≤ 900000) (b : Bool) (H : Heap) : ACall Tryz.prog 154 [.slice 1 (U .u32 xs) tl, .bool b] H (fun y H' => y = aaT (2 * val xs + b.toNat) ∧ H' = H) := by
 have hle0 := hRa H
 refine ACall.of_body Tryz.func154 rfl Tryz.ntmps154 Tryz.results154 rfl ?_
 iterate 2 refine AX ?_
 refine .p rfl (zA (qK (sz := 1) (tl := .full))) ?_
 iterate 4 refine AX ?_
 refine .p rfl (zA (qK (sz := 1) (tl := .full))) ?_
 iterate 4 refine AX ?_
 refine .p rfl (zA (zI 0)) ?_
 iterate 2 refine AX ?_
 refine AWP.seqToL [(6, .int .u64 ((b.toNat : Nat) : Int))] [0, 4, 5] ?_ ?_
 ·iterate 5 refine AX ?_
  refine AWP.cx rfl (fun hc9 => ?_) (fun hc9 => ?_)
  ·refine AX ?_
   refine .p rfl (zA (zI 1)) ?_
   refine AX ?_
   exact ⟨rfl, (zX rfl (by simp [hc9]) sX), rfl⟩
  refine AX ?_
  exact ⟨rfl, (zX rfl (by simp [hc9]) sX), rfl⟩
 refine AWP.sub [(6, _), (0, _), (4, _), (5, _)] sX ?_
 iterate 7 refine AX ?_
 refine AWP.tag (t := 5) rfl (fun u5 hu5 => ?_)
 have hfu5 := Heap.fresh_of hle0 hu5
 have hleu5 := Heap.le_in hle0 u5
 refine AWP.loopW (rtw_J xs tl b H) (xs.length) ⟨0, u5, [], b.toNat, Nat.zero_le _, rfl, Limbs.nil, by cases b <;> decide, by simp [val], rfl, hleu5, Heap.toks_live_same _ _, hfu5, by omega⟩ sX (hRa _) ?_
 rintro _ _ H1 ⟨i, t, zs, c, hi, hzl, hz, hc, hv, rfl, hle, hlive, hfr, rfl⟩
 have hg := hx.getD i
 obtain ⟨hp1, hp2⟩ := bgB hg hc
 iterate 9 refine AX ?_
 refine AWP.cx rfl (fun hc13 => ?_) (fun hc13 => ?_)
 ·iterate 8 refine AX ?_
  refine .p rfl (yA (_) U107 Z166 (tm rfl) (tm rfl) rfl (by omega)) ?_
  iterate 2 refine AX ?_
  refine .p rfl (aaR (zI 2) (tm rfl) (by omega)) ?_
  iterate 9 refine AX ?_
  refine .p rfl (qY (tm rfl) (zI 4294967296) (by omega)) ?_
  refine AX ?_
  refine .e rfl (aaF U107 Z166 V166 rfl (tm rfl) (.inl rfl) ⟨rfl, rfl⟩) ?_
  refine .s rfl (abU U107 U107 Z166 Tryz.typeInfo166 V166 rfl (by decide) (tm rfl) (tm rfl) (by exact .own _ (by assumption)) (by show (_ + _) * 4 ≤ _; simp only [adW, bL, bE]; omega) (by repeat' (first | exact yP _ | exact abH | exact afP ⟨rfl, rfl⟩ abH | exact aaV (yP _) | exact aaU (yP _) | refine abP ?_ ?_ | exact akE _ _)) (by repeat' (first | exact yP _ | exact abH | exact afP ⟨rfl, rfl⟩ abH | exact aaV (yP _) | exact aaU (yP _) | refine abP ?_ ?_))) ?_
  rintro _ _ ⟨t29, ht29, rfl, hH⟩
  obtain rfl := hH.symm
  have hf29 := Heap.fresh_of hle ht29
  have hle29 := Heap.le_in (Heap.le_out (t := t) hle (by assumption)) t29
  iterate 5 refine AX ?_
  refine .p rfl (yF (tm rfl) (zI 32) (by assumption)) ?_
  iterate 10 refine AX ?_
  refine Round.mk (J := rtw_J xs tl b H) ⟨i + 1, t29, zs ++ [(2 * xs.getD i 0 + c) % 4294967296], (2 * xs.getD i 0 + c) / 4294967296, by omega, by simp [hzl], atL hz (bQ _ (by decide)), hp2, bdX hzl hv, rfl, hle29, Heap.toks_live_same _ _, hf29, rfl⟩ (zC rfl (zX rfl (adI (bnF _ (by simp only [IntKind.bits]; rw [aW (bQ _ (by decide))]))) sX)) (hRa _) (by omega)
 iterate 10 refine AX ?_
 refine .e rfl (aaF U107 Z166 V166 rfl (tm rfl) (.inl rfl) ⟨rfl, rfl⟩) ?_
 refine .s rfl (abU U107 U107 Z166 Tryz.typeInfo166 V166 rfl (by decide) (tm rfl) (tm rfl) (by exact .own _ (by assumption)) (by show (_ + _) * 4 ≤ _; simp only [adW, bL, bE]; omega) (by repeat' (first | exact yP _ | exact abH | exact afP ⟨rfl, rfl⟩ abH | exact aaV (yP _) | exact aaU (yP _) | refine abP ?_ ?_ | exact akE _ _)) (by repeat' (first | exact yP _ | exact abH | exact afP ⟨rfl, rfl⟩ abH | exact aaV (yP _) | exact aaU (yP _) | refine abP ?_ ?_))) ?_
 rintro _ _ ⟨t36, ht36, rfl, hH⟩
 obtain rfl := hH.symm
 have hf36 := Heap.fresh_of hle ht36
 have hle36 := Heap.le_in (Heap.le_out (t := t) hle (by assumption)) t36
 iterate 6 refine AX ?_
 refine .cl rfl C153 (evs1 rfl) (rTrimX c _ _ hz (by simp only [IntKind.bits]; omega) (by omega) (by omega) _) ?_
 iterate 4 refine AX ?_
 refine Ret.go (.cons (.tmp _ _ rfl) .nil) _ (hle36) ?_
 refine ⟨?_, rfl⟩
 have hix : i = xs.length := by omega
 rw [hzl, hv, hix, dL]; rfl

end
section
open Go Go.RowKit
set_option maxRecDepth 100000

theorem bkB (hi : zs.length = i) (h : val zs + 4294967296 ^ i * c = val (xs.take i) + val (ys.take i)) :
  val (zs ++ [(xs.getD i 0 + ys.getD i 0 + c) % 4294967296]) + 4294967296 ^ (i + 1) * ((xs.getD i 0 + ys.getD i 0 + c) / 4294967296) = val (xs.take (i + 1)) + val (ys.take (i + 1)) := by
 rw [qX, hi, qC, qC, bO]
 simp only [val, cW, cC]
 have e := fF (xs.getD i 0 + ys.getD i 0 + c) 4294967296
 have e2 : 4294967296 ^ i * ((xs.getD i 0 + ys.getD i 0 + c) % 4294967296) + 4294967296 ^ i * 4294967296 * ((xs.getD i 0 + ys.getD i 0 + c) / 4294967296) = 4294967296 ^ i * xs.getD i 0 + 4294967296 ^ i * ys.getD i 0 + 4294967296 ^ i * c := by
  rw [bC, ← bY, e, bY, bY]
 omega
theorem bfK {x y : Nat} (hx : x < 4294967296) (hy : y < 4294967296) (hc : c ≤ 1) : (x + y + c) / 4294967296 ≤ 1 := by omega
theorem blG {m d : Nat} (hi : zs.length = i) (h : val zs + val (ys.take i) = val (xs.take i) + 4294967296 ^ i * c) (hm : m + (ys.getD i 0 + c) = xs.getD i 0 + 4294967296 * d) :
  val (zs ++ [m]) + val (ys.take (i + 1)) = val (xs.take (i + 1)) + 4294967296 ^ (i + 1) * d := by
 rw [qX, hi, qC, qC, bO]
 simp only [val, cW, cC]
 have e2 : 4294967296 ^ i * m + 4294967296 ^ i * ys.getD i 0 + 4294967296 ^ i * c = 4294967296 ^ i * xs.getD i 0 + 4294967296 ^ i * 4294967296 * d := by
  rw [bC, ← bY, ← bY, ← bY]
  congr 1; omega
 omega
theorem less_end (hn : xs.length = n) (hzl : zs.length = n) (hz : Limbs zs) (hx : Limbs xs) (hc : c ≤ 1) (h : val zs + val (ys.take n) = val xs + 4294967296 ^ n * c) (hle : val ys ≤ val xs) : val zs = val xs - val ys := by
 have h1 := afE hz
 have h2 := afE hx
 rw [hzl] at h1
 rw [hn] at h2
 have h3 : val (ys.take n) = val ys := by
  rcases bZ n ys.length with hl | hl
  ·have h4 : val ys = val (ys.take n) + 4294967296 ^ n * val (ys.drop n) := by
    have := qX (ys.take n) (ys.drop n)
    rw [cY, aQ, dE (by omega)] at this
    exact this
   rcases aY (val (ys.drop n)) with h5 | h5
   ·rw [h5] at h4; omega
   have h6 : 4294967296 ^ n * 1 ≤ 4294967296 ^ n * val (ys.drop n) := bT _ h5
   omega
  rw [aU hl]
 rcases aY c with h5 | h5
 ·rw [h5] at h; omega
 have : c = 1 := by omega
 rw [this] at h; omega

def bjE (xs ys : List Nat) (tl tl2 : Tail) (H : Heap) : Nat → Env → Heap → Prop := fun k env H1 => ∃ (i t : Nat) (zs : List Nat) (c : Nat), zs.length = i ∧ i ≤ 100000 ∧ Limbs zs ∧ c ≤ 1 ∧ val zs + 4294967296 ^ i * c = val (xs.take i) + val (ys.take i) ∧ env = [(0, .slice 1 (U .u32 xs) tl), (1, .slice 1 (U .u32 ys) tl2), (5, .slice 1 (U .u32 zs) (.own t)), (6, .int .u64 (c : Int)), (7, .int .i64 (i : Int))] ∧ H.le H1 ∧ H1.toks t = true ∧ H.toks t = false ∧ k = xs.length + ys.length - i

theorem ayV (xs : List Nat) (tl : Tail) (hx : Limbs xs) (hl : xs.length ≤ 100000) (ys : List Nat) (tl2 : Tail) (hy : Limbs ys) (hm : ys.length ≤ 100000) (H : Heap) : ACall Tryz.prog 149 [.slice 1 (U .u32 xs) tl, .slice 1 (U .u32 ys) tl2] H (fun y H' => y = aaT (val xs + val ys) ∧ H' = H) := by
 have hle0 := hRa H
 refine ACall.of_body Tryz.func149 rfl Tryz.ntmps149 Tryz.results149 rfl ?_
 iterate 2 refine AX ?_
 refine .p rfl (zA (qK (sz := 1) (tl := .full))) ?_
 iterate 4 refine AX ?_
 refine .p rfl (zA (qK (sz := 1) (tl := .full))) ?_
 iterate 4 refine AX ?_
 refine .p rfl (zA (zI 0)) ?_
 iterate 9 refine AX ?_
 refine AWP.tag (t := 5) rfl (fun u5 hu5 => ?_)
 have hfu5 := Heap.fresh_of hle0 hu5
 have hleu5 := Heap.le_in hle0 u5
 refine AWP.loopW (bjE xs ys tl tl2 H) (xs.length + ys.length) ⟨0, u5, [], 0, rfl, Nat.zero_le _, Limbs.nil, by decide, by simp [val], rfl, hleu5, Heap.toks_live_same _ _, hfu5, by omega⟩ sX (hRa _) ?_
 rintro _ _ H1 ⟨i, t, zs, c, hzl, hi, hz, hc, hv, rfl, hle, hlive, hfr, rfl⟩
 refine AX ?_
 refine AWP.seqTo 18 (.bool (decide ((i : Int) < (xs.length : Int)) || decide ((i : Int) < (ys.length : Int)))) [0, 1, 5, 6, 7] ?_ ?_
 ·-- region 4
  iterate 6 refine AX ?_
  refine zL (t := 13) rfl (fun hg13 => ?_) (fun hg13 => ?_)
  ·have hh13 := hg13; try simp only [aM] at hh13
   iterate 6 refine AX ?_
   exact ⟨rfl, zY rfl (by (rw [hg13]; rfl)) sX, rfl⟩
  have hh13 := hg13; try simp only [aL, bN] at hh13
  iterate 6 refine AX ?_
  exact ⟨rfl, zY rfl (by (rw [hg13]; rfl)) sX, rfl⟩
 refine AWP.sub [(18, _), (0, _), (1, _), (5, _), (6, _), (7, _)] sX ?_
 refine AWP.cx rfl (fun hc18 => ?_) (fun hc18 => ?_)
 ·simp only [cV, aM] at hc18
  have hgx := hx.getD i
  have hgy := hy.getD i
  have hcc := bfK hgx hgy hc
  iterate 8 refine AX ?_
  refine .cl rfl C204 (evs2 rfl rfl) (aeP _ _ (by assumption) (by omega) _ _ rfl _) ?_
  iterate 2 refine AX ?_
  refine .cl rfl C204 (evs2 rfl rfl) (aeP _ _ (by assumption) (by omega) _ _ rfl _) ?_
  iterate 10 refine AX ?_
  refine .p rfl (qY (tm rfl) (zI 4294967296) (by omega)) ?_
  refine AX ?_
  refine .e rfl (aaF U107 Z166 V166 rfl (tm rfl) (.inl rfl) ⟨rfl, rfl⟩) ?_
  refine .s rfl (abU U107 U107 Z166 Tryz.typeInfo166 V166 rfl (by decide) (tm rfl) (tm rfl) (by exact .own _ (by assumption)) (by show (_ + _) * 4 ≤ _; simp only [adW, bL, bE]; omega) (by repeat' (first | exact yP _ | exact abH | exact afP ⟨rfl, rfl⟩ abH | exact aaV (yP _) | exact aaU (yP _) | refine abP ?_ ?_ | exact akE _ _)) (by repeat' (first | exact yP _ | exact abH | exact afP ⟨rfl, rfl⟩ abH | exact aaV (yP _) | exact aaU (yP _) | refine abP ?_ ?_))) ?_
  rintro _ _ ⟨t35, ht35, rfl, hH⟩
  obtain rfl := hH.symm
  have hf35 := Heap.fresh_of hle ht35
  have hle35 := Heap.le_in (Heap.le_out (t := t) hle (by assumption)) t35
  iterate 5 refine AX ?_
  refine .p rfl (yF (tm rfl) (zI 32) (by omega)) ?_
  iterate 10 refine AX ?_
  refine Round.mk (J := bjE xs ys tl tl2 H) ⟨i + 1, t35, zs ++ [(xs.getD i 0 + ys.getD i 0 + c) % 4294967296], (xs.getD i 0 + ys.getD i 0 + c) / 4294967296, by simp [hzl], by omega, atL hz (bQ _ (by decide)), hcc, bkB hzl hv, rfl, hle35, Heap.toks_live_same _ _, hf35, rfl⟩ (zC rfl (zC rfl (zX rfl (adI (bnF _ (by simp only [IntKind.bits]; rw [aW (bQ _ (by decide))]))) sX))) (hRa _) (by omega)
 simp only [cP, aL] at hc18
 iterate 10 refine AX ?_
 refine .e rfl (aaF U107 Z166 V166 rfl (tm rfl) (.inl rfl) ⟨rfl, rfl⟩) ?_
 refine .s rfl (abU U107 U107 Z166 Tryz.typeInfo166 V166 rfl (by decide) (tm rfl) (tm rfl) (by exact .own _ (by assumption)) (by show (_ + _) * 4 ≤ _; simp only [adW, bL, bE]; omega) (by repeat' (first | exact yP _ | exact abH | exact afP ⟨rfl, rfl⟩ abH | exact aaV (yP _) | exact aaU (yP _) | refine abP ?_ ?_ | exact akE _ _)) (by repeat' (first | exact yP _ | exact abH | exact afP ⟨rfl, rfl⟩ abH | exact aaV (yP _) | exact aaU (yP _) | refine abP ?_ ?_))) ?_
 rintro _ _ ⟨t42, ht42, rfl, hH⟩
 obtain rfl := hH.symm
 have hf42 := Heap.fresh_of hle ht42
 have hle42 := Heap.le_in (Heap.le_out (t := t) hle (by assumption)) t42
 iterate 6 refine AX ?_
 refine .cl rfl C153 (evs1 rfl) (rTrimX c _ _ hz (by simp only [IntKind.bits]; omega) (by omega) (by omega) _) ?_
 iterate 4 refine AX ?_
 refine Ret.go (.cons (.tmp _ _ rfl) .nil) _ (hle42) ?_
 refine ⟨?_, rfl⟩
 rw [aU (by omega), aU (by omega)] at hv
 rw [hzl, hv]; rfl

def bjM (xs ys : List Nat) (tl tl2 : Tail) (H : Heap) : Nat → Env → Heap → Prop := fun k env H1 => ∃ (i t : Nat) (zs : List Nat) (c : Nat), i ≤ xs.length ∧ zs.length = i ∧ Limbs zs ∧ c ≤ 1 ∧ val zs + val (ys.take i) = val (xs.take i) + 4294967296 ^ i * c ∧ env = [(0, .slice 1 (U .u32 xs) tl), (1, .slice 1 (U .u32 ys) tl2), (5, .slice 1 (U .u32 zs) (.own t)), (6, .int .u64 (c : Int)), (7, .int .i64 (i : Int))] ∧ H.le H1 ∧ H1.toks t = true ∧ H.toks t = false ∧ k = xs.length - i

theorem ayW (xs : List Nat) (tl : Tail) (hx : Limbs xs) (hl : xs.length ≤ 100000) (ys : List Nat) (tl2 : Tail) (hy : Limbs ys) (hm : ys.length ≤ 100000) (hle : val ys ≤ val xs) (H : Heap) : ACall Tryz.prog 156 [.slice 1 (U .u32 xs) tl, .slice 1 (U .u32 ys) tl2] H (fun y H' => y = aaT (val xs - val ys) ∧ H' = H) := by
 have hle0 := hRa H
 refine ACall.of_body Tryz.func156 rfl Tryz.ntmps156 Tryz.results156 rfl ?_
 iterate 2 refine AX ?_
 refine .p rfl (zA (qK (sz := 1) (tl := .full))) ?_
 iterate 4 refine AX ?_
 refine .p rfl (zA (qK (sz := 1) (tl := .full))) ?_
 iterate 4 refine AX ?_
 refine .p rfl (zA (zI 0)) ?_
 iterate 9 refine AX ?_
 refine AWP.tag (t := 5) rfl (fun u5 hu5 => ?_)
 have hfu5 := Heap.fresh_of hle0 hu5
 have hleu5 := Heap.le_in hle0 u5
 refine AWP.loopW (bjM xs ys tl tl2 H) (xs.length) ⟨0, u5, [], 0, Nat.zero_le _, rfl, Limbs.nil, by decide, by simp [val], rfl, hleu5, Heap.toks_live_same _ _, hfu5, by omega⟩ sX (hRa _) ?_
 rintro _ _ H1 ⟨i, t, zs, c, hi, hzl, hz, hc, hv, rfl, hle1, hlive, hfr, rfl⟩
 iterate 9 refine AX ?_
 refine AWP.cx rfl (fun hc13 => ?_) (fun hc13 => ?_)
 ·have hgx := hx.getD i
  have hgy := hy.getD i
  iterate 8 refine AX ?_
  refine .cl rfl C204 (evs2 rfl rfl) (aeP _ _ (by assumption) (by omega) _ _ rfl _) ?_
  iterate 7 refine AX ?_
  refine .cl rfl C204 (evs2 rfl rfl) (aeP _ _ (by assumption) (by omega) _ _ rfl _) ?_
  iterate 7 refine AX ?_
  refine .p rfl (zA (zI 0)) ?_
  iterate 2 refine AX ?_
  refine AWP.seqToL [(8, .int .u64 ((if xs.getD i 0 < (ys.getD i 0 + c) then xs.getD i 0 + 4294967296 else xs.getD i 0 : Nat) : Int)), (6, .int .u64 (((if xs.getD i 0 < (ys.getD i 0 + c) then 1 else 0) : Nat) : Int))] [0, 1, 5, 7, 9] ?_ ?_
  ·iterate 7 refine AX ?_
   refine AWP.cx rfl (fun hc26 => ?_) (fun hc26 => ?_)
   ·iterate 3 refine AX ?_
    refine .p rfl (yR (tm rfl) (zI 4294967296) (by omega)) ?_
    iterate 4 refine AX ?_
    refine .p rfl (zA (zI 1)) ?_
    refine AX ?_
    exact ⟨rfl, (zX rfl (by rw [aO (by omega)]) (zX rfl (by rw [aO (by omega)]) sX)), rfl⟩
   refine AX ?_
   exact ⟨rfl, (zX rfl (by (rw [aN (by omega)]; done)) (zX rfl (by (rw [aN (by omega)]; done)) sX)), rfl⟩
  refine AWP.sub [(8, _), (6, _), (0, _), (1, _), (5, _), (7, _), (9, _)] sX ?_
  generalize hw : (if xs.getD i 0 < (ys.getD i 0 + c) then xs.getD i 0 + 4294967296 else xs.getD i 0) = w at *
  generalize hd : (if xs.getD i 0 < (ys.getD i 0 + c) then 1 else 0) = d at *
  have hwd : (ys.getD i 0 + c) ≤ w ∧ w - (ys.getD i 0 + c) < 4294967296 ∧ w < 18446744073709551616 ∧ d ≤ 1 ∧ w - (ys.getD i 0 + c) + (ys.getD i 0 + c) = xs.getD i 0 + 4294967296 * d := by (split at hw <;> rename_i hq <;> (first | rw [aO hq] at hd | rw [aN hq] at hd) <;> omega)
  obtain ⟨hw1, hw2, hw3, hw4, hw5⟩ := hwd
  iterate 6 refine AX ?_
  refine .e rfl (aaF U107 Z166 V166 rfl (tm rfl) (.inl rfl) ⟨rfl, rfl⟩) ?_
  refine .s rfl (abU U107 U107 Z166 Tryz.typeInfo166 V166 rfl (by decide) (tm rfl) (tm rfl) (by exact .own _ (by assumption)) (by show (_ + _) * 4 ≤ _; simp only [adW, bL, bE]; omega) (by repeat' (first | exact yP _ | exact abH | exact afP ⟨rfl, rfl⟩ abH | exact aaV (yP _) | exact aaU (yP _) | refine abP ?_ ?_ | exact akE _ _)) (by repeat' (first | exact yP _ | exact abH | exact afP ⟨rfl, rfl⟩ abH | exact aaV (yP _) | exact aaU (yP _) | refine abP ?_ ?_))) ?_
  rintro _ _ ⟨t35, ht35, rfl, hH⟩
  obtain rfl := hH.symm
  have hf35 := Heap.fresh_of hle1 ht35
  have hle35 := Heap.le_in (Heap.le_out (t := t) hle1 (by assumption)) t35
  iterate 10 refine AX ?_
  refine Round.mk (J := bjM xs ys tl tl2 H) ⟨i + 1, t35, zs ++ [w - (ys.getD i 0 + c)], d, by omega, by simp [hzl], atL hz hw2, hw4, blG hzl hv hw5, rfl, hle35, Heap.toks_live_same _ _, hf35, rfl⟩ (zC rfl (zC rfl (zX rfl (adI (bnF _ (by simp only [IntKind.bits]; omega))) sX))) (hRa _) (by omega)
 iterate 8 refine AX ?_
 refine .cl rfl C153 (evs1 rfl) (aaQ _ _ hz (by omega) _) ?_
 iterate 4 refine AX ?_
 refine Ret.go (.cons (.tmp _ _ rfl) .nil) _ (hle1) ?_
 refine ⟨?_, rfl⟩
 have hix : i = xs.length := by omega
 rw [hix, dL] at hv
 rw [less_end rfl (hzl.trans hix) hz hx hc hv hle]; rfl

def rcmp_J (xs ys : List Nat) (H : Heap) : Nat → Env → Heap → Prop := fun k env H1 => ∃ i : Nat, i ≤ xs.length ∧ xs.drop (xs.length - i) = ys.drop (xs.length - i) ∧ env = [(5, .slice 1 (U .u32 xs) .shared), (6, .slice 1 (U .u32 ys) .shared), (7, .int .i64 ((xs.length : Int) - 1 - i))] ∧ H = H1 ∧ k = xs.length - i

theorem beW (xs : List Nat) (tl : Tail) (hx : Limbs xs) (hl : xs.length ≤ 100000) (ys : List Nat) (tl2 : Tail) (hy : Limbs ys) (hm : ys.length ≤ 100000) (H : Heap) : ACall Tryz.prog 155 [.slice 1 (U .u32 xs) tl, .slice 1 (U .u32 ys) tl2] H (fun y H' => y = .int .i64 (atZ (val xs) (val ys)) ∧ H' = H) := by
 have hr := aaW xs
 have hrl := abF hx
 have hs := aaW ys
 have hsl := abF hy
 refine ACall.of_body Tryz.func155 rfl Tryz.ntmps155 Tryz.results155 rfl ?_
 iterate 8 refine AX ?_
 refine .cl rfl C153 (evs1 rfl) (aaQ _ _ (by assumption) (by omega) _) ?_
 iterate 6 refine AX ?_
 refine .cl rfl C153 (evs1 rfl) (aaQ _ _ (by assumption) (by omega) _) ?_
 iterate 13 refine AX ?_
 refine AWP.cx rfl (fun hc16 => ?_) (fun hc16 => ?_)
 ·iterate 10 refine AX ?_
  refine AWP.cx rfl (fun hc21 => ?_) (fun hc21 => ?_)
  ·iterate 9 refine AX ?_
   refine ⟨?_, rfl⟩
   rw [atZ, aO (afH (by omega))]; rfl
  iterate 10 refine AX ?_
  refine ⟨?_, rfl⟩
  have := afH (a := val ys) (b := val xs) (by omega)
  rw [atZ, aN (by omega), aO this]; rfl
 have hLx := zP (val xs)
 have hLy := zP (val ys)
 have hvx := zT (val xs)
 have hvy := zT (val ys)
 have hlen : (zK (val xs)).length = (zK (val ys)).length := by omega
 iterate 12 refine AX ?_
 refine AWP.loopW (rcmp_J (zK (val xs)) (zK (val ys)) H) ((zK (val xs)).length) ⟨0, Nat.zero_le _, by rw [Nat.sub_zero, fX, hlen, fX], rfl, rfl, rfl⟩ (zC rfl (zC rfl (zX rfl (by simp) zU))) (hRa _) ?_
 rintro _ _ _ ⟨i, hi, hd, rfl, rfl, rfl⟩
 iterate 7 refine AX ?_
 refine AWP.cx rfl (fun hc26 => ?_) (fun hc26 => ?_)
 ·have hds : (zK (val xs)).drop ((zK (val xs)).length - 1 - i + 1) = (zK (val ys)).drop ((zK (val xs)).length - 1 - i + 1) := by rw [show (zK (val xs)).length - 1 - i + 1 = (zK (val xs)).length - i by omega]; exact hd
  iterate 6 refine AX ?_
  refine AWP.draw [(0, true), (1, true), (2, true), (3, true), (4, true), (5, true), (6, true), (7, true), (8, true)] rfl (by decide +kernel) ?_
  iterate 2 refine AX ?_
  refine .p rfl rfl (yA ((zK (val xs)).length - 1 - i) U107 Z166 (tm rfl) (tm rfl) (by omega) (by omega)) ?_
  iterate 3 refine AX ?_
  refine .p rfl rfl (yA ((zK (val xs)).length - 1 - i) U107 Z166 (tm rfl) (tm rfl) (by omega) (by omega)) ?_
  iterate 4 refine AX ?_
  refine AWP.cx rfl (fun hc37 => ?_) (fun hc37 => ?_)
  ·iterate 13 refine AX ?_
   refine ⟨?_, rfl⟩
   have := agH hLx hLy hlen (k := (zK (val xs)).length - 1 - i) (by omega) hds (by omega)
   rw [hvx, hvy] at this
   rw [atZ, aO (by omega)]; rfl
  iterate 3 refine AX ?_
  refine AWP.draw [(0, true), (1, true), (2, true), (3, true), (4, true), (5, true), (6, true), (7, true), (8, true)] rfl (by decide +kernel) ?_
  iterate 2 refine AX ?_
  refine .p rfl rfl (yA ((zK (val xs)).length - 1 - i) U107 Z166 (tm rfl) (tm rfl) (by omega) (by omega)) ?_
  iterate 3 refine AX ?_
  refine .p rfl rfl (yA ((zK (val xs)).length - 1 - i) U107 Z166 (tm rfl) (tm rfl) (by omega) (by omega)) ?_
  iterate 4 refine AX ?_
  refine AWP.cx rfl (fun hc46 => ?_) (fun hc46 => ?_)
  ·iterate 12 refine AX ?_
   refine ⟨?_, rfl⟩
   have := agH hLy hLx hlen.symm (k := (zK (val xs)).length - 1 - i) (by omega) hds.symm (by omega)
   rw [hvx, hvy] at this
   rw [atZ, aN (by omega), aO (by omega)]; rfl
  iterate 9 refine AX ?_
  refine Round.mk (J := rcmp_J (zK (val xs)) (zK (val ys)) H) ⟨i + 1, by omega, by rw [show (zK (val xs)).length - (i + 1) = (zK (val xs)).length - 1 - i by omega]; exact awX hlen (by omega) hds (by omega), rfl, rfl, rfl⟩ (zC rfl (zC rfl (zX rfl (by congr 1; omega) zU))) (hRa _) (by omega)
 iterate 12 refine AX ?_
 refine ⟨?_, rfl⟩
 have h0 : (zK (val xs)).length - i = 0 := by omega
 have hxy : zK (val xs) = zK (val ys) := by rw [h0] at hd; simpa using hd
 rw [awH hxy, atZ, aN (Nat.lt_irrefl _), aN (Nat.lt_irrefl _)]; rfl

end
section
open Go Go.RowKit
set_option maxRecDepth 100000

def rtim_J (xs ys : List Nat) (tl tl2 : Tail) (b : Nat) (H : Heap) : Nat → Env → Heap → Prop := fun k env H1 => ∃ (i : Nat) (zs : List Nat), i ≤ xs.length ∧ zs.length = (xs.length + ys.length + 1) ∧ Limbs zs ∧ (∀ j, i + ys.length ≤ j → zs.getD j 0 = 0) ∧ val zs = val (xs.take i) * val ys ∧ env = [(0, .slice 1 (U .u32 xs) tl), (1, .slice 1 (U .u32 ys) tl2), (5, .mslice (some ⟨b, 0, none⟩) (xs.length + ys.length + 1) (xs.length + ys.length + 1)), (6, .int .i64 (i : Int))] ∧ H1 = H.set b (.box 166 (U .u32 zs)) ∧ k = xs.length - i

def bjD (xs ys : List Nat) (tl tl2 : Tail) (b i : Nat) (o0 : List Nat) (H : Heap) : Nat → Env → Heap → Prop := fun k env H1 => ∃ (j c : Nat) (zs : List Nat), j ≤ ys.length ∧ zs.length = (xs.length + ys.length + 1) ∧ Limbs zs ∧ c < 4294967296 ∧ (∀ j, i + ys.length ≤ j → zs.getD j 0 = 0) ∧ val zs + 4294967296 ^ (i + j) * c = val o0 + 4294967296 ^ i * xs.getD i 0 * val (ys.take j) ∧ env = [(0, .slice 1 (U .u32 xs) tl), (1, .slice 1 (U .u32 ys) tl2), (5, .mslice (some ⟨b, 0, none⟩) (xs.length + ys.length + 1) (xs.length + ys.length + 1)), (6, .int .i64 (i : Int)), (7, .int .u64 (c : Int)), (8, .int .i64 (j : Int))] ∧ H1 = H.set b (.box 166 (U .u32 zs)) ∧ k = ys.length - j

theorem adO (xs : List Nat) (tl : Tail) (hx : Limbs xs) (hl : xs.length ≤ 100000) (ys : List Nat) (tl2 : Tail) (hy : Limbs ys) (hm : ys.length ≤ 100000) (H : Heap) : ACall Tryz.prog 83 [.slice 1 (U .u32 xs) tl, .slice 1 (U .u32 ys) tl2] H (fun y H' => y = aaT (val xs * val ys) ∧ H' = H) := by
 refine ACall.of_body Tryz.func83 rfl Tryz.ntmps83 Tryz.results83 rfl ?_
 iterate 2 refine AX ?_
 refine .p rfl (zA (qK (sz := 1) (tl := .full))) ?_
 iterate 10 refine AX ?_
 refine .s rfl (yV (xs.length + ys.length + 1) U107 Tryz.typeInfo166 Z166 V166 (tm rfl) (tm rfl) (by omega) (by omega) (by decide) (by omega)) ?_
 rintro _ _ ⟨b16, rfl, hb16, hH⟩
 obtain rfl := hH.symm
 iterate 10 refine AX ?_
 refine AWP.loopW (rtim_J xs ys tl tl2 b16 H) (xs.length) ⟨0, List.replicate _ 0, Nat.zero_le _, by simp, Limbs.rep (by omega), fun j _ => bcV _ _, by rw [akK, eV, val, dF], rfl, rfl, rfl⟩ sX (hRa _) ?_
 rintro _ _ _ ⟨i, zs0, hi, hz0, hzl0, h0, hv0, rfl, rfl, hk⟩
 iterate 9 refine AX ?_
 refine AWP.cx rfl (fun hc20 => ?_) (fun hc20 => ?_)
 ·iterate 6 refine AX ?_
  refine .p rfl (zA (zI 0)) ?_
  iterate 9 refine AX ?_
  refine AWP.loopW (bjD xs ys tl tl2 b16 i zs0 H) (ys.length) ⟨0, 0, zs0, Nat.zero_le _, hz0, hzl0, by omega, h0, by rw [eV, val, cW, cW], rfl, rfl, rfl⟩ sX (hRa _) ?_
  rintro _ _ _ ⟨j, c, zs, hj, hz, hzl, hc, hzr, hv, rfl, rfl, hk2⟩
  iterate 9 refine AX ?_
  refine AWP.cx rfl (fun hc26 => ?_) (fun hc26 => ?_)
  ·have hPi := Limbs.getD hx i
   have hQj := Limbs.getD hy j
   have hZ := Limbs.getD hzl (i + j)
   have hmf := bcN hPi hQj hZ hc
   iterate 5 refine AX ?_
   refine AWP.draw [(0, true), (1, true), (2, true), (3, true), (4, true), (5, true), (6, true), (7, true), (8, true), (9, true), (10, true), (11, true), (12, true), (13, true), (14, true), (15, true), (19, true), (16, false), (17, true), (18, true), (20, true), (21, true)] rfl (by decide +kernel) ?_
   iterate 2 refine AX ?_
   refine .p rfl rfl (yA (i) U107 Z166 (tm rfl) (tm rfl) (by omega) (by omega)) ?_
   iterate 4 refine AX ?_
   refine .p rfl rfl (yA (j) U107 Z166 (tm rfl) (tm rfl) (by omega) (by omega)) ?_
   iterate 7 refine AX ?_
   refine .p rfl rfl (yO (i + j) U107 Z166 (tm rfl) (tm rfl) (by omega) (by omega)) ?_
   refine AX ?_
   refine .s rfl rfl (qJ G166 (tm rfl) (oS _ _ _) (by omega)) ?_
   rintro _ _ ⟨rfl, hH⟩
   obtain rfl := hH.symm
   iterate 13 refine AX ?_
   refine .p rfl (qY (tm rfl) (zI 4294967296) (by omega)) ?_
   refine AX ?_
   refine .p rfl (yO (i + j) U107 Z166 (tm rfl) (tm rfl) (by omega) (by omega)) (.e0 (qH Z166 (tm rfl) (tm rfl) (oS _ _ _) (by omega)) ?_)
   try first | rw [sS] | rw [sU (by assumption)]
   iterate 4 refine AX ?_
   refine .p rfl (yF (tm rfl) (zI 32) (by assumption)) ?_
   iterate 10 refine AX ?_
   have hmm : (xs.getD i 0 * ys.getD j 0 + zs.getD (i + j) 0 + c) % 4294967296 % 2 ^ IntKind.u32.bits = (xs.getD i 0 * ys.getD j 0 + zs.getD (i + j) 0 + c) % 4294967296 := aW (bQ _ (by decide))
   rw [hmm]
   refine Round.mk (J := bjD xs ys tl tl2 b16 i zs0 H) ⟨j + 1, _, _, by omega, by simpa using hz, Limbs.set hzl (bQ _ (by decide)), by omega, fun q hq => amB hzr (by omega) q hq, bcM (by omega) hv, rfl, rfl, rfl⟩ sX (hRa _) (by omega)
  have hj2 : j = ys.length := by omega
  subst hj2
  have hcm : c % 2 ^ IntKind.u32.bits = c := aW hc
  iterate 13 refine AX ?_
  refine .p rfl (yO (i + ys.length) U107 Z166 (tm rfl) (tm rfl) (by omega) (by omega)) (.e0 (qH Z166 (tm rfl) (tm rfl) (oS _ _ _) (by omega)) ?_)
  try first | rw [sS] | rw [sU (by assumption)]
  iterate 9 refine AX ?_
  rw [hcm]
  refine Round.mk (J := rtim_J xs ys tl tl2 b16 H) ⟨i + 1, _, by omega, by simpa using hz, Limbs.set hzl hc, fun j hj => amB (n := i + 1 + ys.length) (fun j hj => hzr j (by omega)) (by omega) j hj, bkP rfl (by omega) (hzr _ (aX _)) hv0 hv, rfl, rfl, rfl⟩ sX (hRa _) (by omega)
 iterate 6 refine AX ?_
 have hi2 : i = xs.length := by omega
 subst hi2
 rw [dL] at hv0
 refine AWP.frzU (t := 5) rfl hb16 (by omega) (aX _) (by simp only [zW]; omega) ?_
 rw [aU (by omega)]
 have hz5 : zs0.length ≤ 1000000 := by omega
 iterate 2 refine AX ?_
 refine .cl rfl C153 (evs1 rfl) (aaQ _ _ (by assumption) (by assumption) _) ?_
 iterate 5 refine AX ?_
 refine ⟨?_, rfl⟩
 rw [← hv0]; rfl

theorem or_bit {gl s : Nat} (hs : s < 32) (hg : gl < 4294967296) (h0 : gl % 2 ^ (s + 1) = 0) : gl ||| 2 ^ s = gl + 2 ^ s ∧ gl + 2 ^ s < 4294967296 := by
 obtain ⟨q, rfl⟩ := Nat.dvd_of_mod_eq_zero h0
 have hlt : 2 ^ s < 2 ^ (s + 1) := dI (by decide) (by omega)
 refine ⟨by rw [bD]; exact ahN hlt, ?_⟩
 have e : (4294967296 : Nat) = 2 ^ (s + 1) * 2 ^ (31 - s) := by rw [← bB, show s + 1 + (31 - s) = 32 by omega]
 rw [e] at hg ⊢
 have h1 := Nat.lt_of_mul_lt_mul_left hg
 have h2 : 2 ^ (s + 1) * (q + 1) ≤ 2 ^ (s + 1) * 2 ^ (31 - s) := bT _ h1
 rw [bY, eZ] at h2
 omega
theorem limb_of (xs : List Nat) (j : Nat) (hl : Limbs xs) : xs.getD j 0 = val xs / 4294967296 ^ j % 4294967296 := by
 induction xs generalizing j with
 | nil => simp [val]
 | cons x xs ih =>
  obtain ⟨h1, h2⟩ := hl.cons
  cases j with
  | zero => rw [dC, fN, val, dB, aW h1]; rfl
  | succ j =>
   rw [dS, ih j h2, bO, bD (4294967296 ^ j), ← bU, val, fG _ _ (by decide), bX h1, bW]
theorem low_limb (hz : Limbs zs) (h : val zs = 2 ^ (i + 1) * Q) : zs.getD (i / 32) 0 % 2 ^ (i % 32 + 1) = 0 := by
 rw [limb_of zs _ hz, h]
 have e : (4294967296 : Nat) = 2 ^ 32 := by decide
 rw [e, ← dO]
 have h32 : i % 32 < 32 := bQ _ (by decide)
 have hi : i = 32 * (i / 32) + i % 32 := (cD i 32).symm
 generalize i / 32 = a at *
 generalize i % 32 = r at *
 subst hi
 rw [dY, bB, bC, Nat.mul_div_cancel_left _ (bI (by decide))]
 rw [Nat.mod_mod_of_dvd _ (Nat.pow_dvd_pow 2 (by omega : r + 1 ≤ 32))]
 exact Nat.mul_mod_right _ _
theorem bkD (hz : Limbs zs) (hl : i / 32 < zs.length) (h : val zs = 2 ^ (i + 1) * Q) : val (zs.set (i / 32) (zs.getD (i / 32) 0 + 2 ^ (i % 32))) = 2 ^ i * (2 * Q + 1) := by
 have e := axS (zs := zs) (i := i / 32) (v := zs.getD (i / 32) 0 + 2 ^ (i % 32)) hl
 have e2 : (4294967296 : Nat) ^ (i / 32) * 2 ^ (i % 32) = 2 ^ i := by
  rw [show (4294967296 : Nat) = 2 ^ 32 by decide, ← dO, ← bB, cD]
 rw [bY, e2] at e
 have e3 : 2 ^ i * (2 * Q + 1) = 2 ^ (i + 1) * Q + 2 ^ i := by rw [bY, bO, eZ, bC]
 omega
theorem arF (h : a / 2 ^ (j + 1) = Q * b + r) : a / 2 ^ j = 2 * Q * b + (2 * r + a / 2 ^ j % 2) := by
 have h1 : a / 2 ^ (j + 1) = a / 2 ^ j / 2 := by rw [bO, bU]
 rw [h1] at h
 have h2 := cD (a / 2 ^ j) 2
 rw [h, bY, ← bC] at h2
 omega
theorem awG (hy : Limbs ys) (h : n < 2 * val ys) : (zK n).length ≤ ys.length + 1 := by
 rw [qZ, bO]
 have := afE hy
 omega
def PartsOK (a b : Nat) (zs : List Nat) (r j : Nat) : Prop := ∃ Q, a / 2 ^ j = Q * b + r ∧ r < b ∧ val zs = 2 ^ j * Q
theorem PartsOK.lt (h : PartsOK a b zs r j) : r < b := by obtain ⟨_, _, h, _⟩ := h; exact h
theorem PartsOK.stay (h : PartsOK a b zs r (j + 1)) (hb : 2 * r + a / 2 ^ j % 2 < b) : PartsOK a b zs (2 * r + a / 2 ^ j % 2) j := by
 obtain ⟨Q, h1, h2, h3⟩ := h
 exact ⟨2 * Q, arF h1, hb, by rw [h3, bO, bC]⟩
theorem PartsOK.take (h : PartsOK a b zs r (j + 1)) (hz : Limbs zs) (hl : j / 32 < zs.length) (hb : b ≤ 2 * r + a / 2 ^ j % 2) : PartsOK a b (zs.set (j / 32) (zs.getD (j / 32) 0 + 2 ^ (j % 32))) (2 * r + a / 2 ^ j % 2 - b) j := by
 obtain ⟨Q, h1, h2, h3⟩ := h
 refine ⟨2 * Q + 1, ?_, ?_, bkD hz hl h3⟩
 ·have e := arF h1
  rw [bP, cL]; omega
 have := bQ (a / 2 ^ j) (by decide : 0 < 2); omega
theorem PartsOK.low (h : PartsOK a b zs r (j + 1)) (hz : Limbs zs) : zs.getD (j / 32) 0 ||| 2 ^ (j % 32) = zs.getD (j / 32) 0 + 2 ^ (j % 32) ∧ zs.getD (j / 32) 0 + 2 ^ (j % 32) < 4294967296 := by
 obtain ⟨Q, _, _, h3⟩ := h
 exact or_bit (bQ _ (by decide)) (hz.getD _) (low_limb hz h3)
theorem PartsOK.done (h : PartsOK a b zs r 0) : val zs = a / b ∧ r = a % b := by
 obtain ⟨Q, h1, h2, h3⟩ := h
 rw [dC, fN] at h1
 rw [dC, cL] at h3
 rw [h3, h1]
 exact ⟨by rw [eL, Nat.add_mul_div_right _ _ (by omega), bX h2, bW], by rw [eL, Nat.add_mul_mod_self_right, aW h2]⟩
theorem PartsOK.begin (hb : 0 < b) (h : a < 2 ^ n) (k : Nat) : PartsOK a b (List.replicate k 0) 0 n := ⟨0, by rw [bX h]; simp, hb, by rw [akK, cW]⟩
theorem bdV (h : Limbs xs) : val xs < 2 ^ (32 * xs.length) := by
 have := afE h
 rwa [show (4294967296 : Nat) = 2 ^ 32 by decide, ← dO] at this
theorem azX (hy : Limbs ys) (h : r < val ys) : (zK r).length ≤ ys.length := by
 rw [qZ]; exact cX h (afE hy)
theorem bjA {s : Nat} (h : s < 32) : 1 * 2 ^ s < 4294967296 := by
 rw [cL]; exact dI (by decide) h
theorem bit_nat : (decide (((v % 2 : Nat) : Int) = 1)).toNat = v % 2 := by
 by_cases h : v % 2 = 1
 ·rw [h]; rfl
 rw [show v % 2 = 0 by omega]; rfl
theorem bmV : 0 ≤ atZ a b ↔ b ≤ a := by unfold atZ; split <;> (try split) <;> omega

def bbU (xs ys : List Nat) (tl tl2 : Tail) (b : Nat) (H : Heap) : Nat → Env → Heap → Prop := fun k env H1 => ∃ (j r : Nat) (zs : List Nat), j ≤ 32 * xs.length ∧ zs.length = xs.length ∧ Limbs zs ∧ PartsOK (val xs) (val ys) zs r j ∧ env = [(0, .slice 1 (U .u32 xs) tl), (1, .slice 1 (U .u32 ys) tl2), (6, .mslice (some ⟨b, 0, none⟩) xs.length xs.length), (7, aaT r), (8, .int .i64 ((j : Int) - 1))] ∧ H1 = H.set b (.box 166 (U .u32 zs)) ∧ k = j

theorem alN (xs : List Nat) (tl : Tail) (hx : Limbs xs) (hl : xs.length ≤ 100000) (ys : List Nat) (tl2 : Tail) (hy : Limbs ys) (hm : ys.length ≤ 50000) (hb : 0 < val ys) (H : Heap) : ACall Tryz.prog 86 [.slice 1 (U .u32 xs) tl, .slice 1 (U .u32 ys) tl2] H (fun y H' => y = .tuple [aaT (val xs / val ys), aaT (val xs % val ys)] ∧ H' = H) := by
 refine ACall.of_body Tryz.func86 rfl Tryz.ntmps86 Tryz.results86 rfl ?_
 iterate 2 refine AX ?_
 refine .p rfl (zA (qK (sz := 1) (tl := .shared))) ?_
 refine .p rfl (zA (qK (sz := 1) (tl := .shared))) ?_
 iterate 6 refine AX ?_
 refine .s rfl (yV (xs.length) U107 Tryz.typeInfo166 Z166 V166 (tm rfl) (tm rfl) (by omega) (by omega) (by decide) (by omega)) ?_
 rintro _ _ ⟨b11, rfl, hb11, hH⟩
 obtain rfl := hH.symm
 iterate 5 refine AX ?_
 refine .p rfl (zA (qK (sz := 1) (tl := .shared))) ?_
 iterate 7 refine AX ?_
 refine .p rfl (amD (zI 32) (tm rfl) (by omega)) (.p rfl (yG (tm rfl) (zI 1) (by omega)) ?_)
 iterate 2 refine AX ?_
 refine Next.go ?_
 refine .block ?_
 refine AWP.loopW (bbU xs ys tl tl2 b11 H) (32 * xs.length) ⟨32 * xs.length, 0, List.replicate xs.length 0, aX _, by simp, Limbs.rep (by omega), .begin hb (bdV hx) _, rfl, rfl, rfl⟩ (zC rfl (zC rfl (zC rfl (zC rfl (zX rfl (by rfl) zU))))) (hRa _) ?_
 rintro _ _ _ ⟨j, r, zs, hj, hzl, hz, hp, rfl, rfl, hk⟩
 have hrl := azX hy hp.lt
 have hrl2 := awG (n := (2 * r + val xs / 2 ^ (j - 1) % 2)) hy (by have := hp.lt; have := bQ (val xs / 2 ^ (j - 1)) (by decide : 0 < 2); omega)
 refine .seq (.seq (.region (.mv rfl rfl (.p rfl (yS (tm rfl) (zI 0)) (.nil ?_)))))
 refine Next.go ?_
 refine AWP.cond (tm rfl) (fun hc17 => ?_) (fun hc17 => ?_)
 ·try simp only [aM] at hc17
  have hp1 : PartsOK (val xs) (val ys) zs r (j - 1 + 1) := by rw [show j - 1 + 1 = j by omega]; exact hp
  have hlow := hp1.low hz
  have hs1 := bjA (bQ (j - 1) (by decide : 0 < 32))
  have hgz := hz.getD ((j - 1) / 32)
  rw [show ((j : Int) - 1) = ((j - 1 : Nat) : Int) by omega]
  refine .skip ?_
  refine Next.go ?_
  refine AWP.meet (fun env H2 => ∃ (r2 : Nat) (zs2 : List Nat), zs2.length = xs.length ∧ Limbs zs2 ∧ PartsOK (val xs) (val ys) zs2 r2 (j - 1) ∧ env = [(0, .slice 1 (U .u32 xs) tl), (1, .slice 1 (U .u32 ys) tl2), (6, .mslice (some ⟨b11, 0, none⟩) xs.length xs.length), (7, aaT r2), (8, .int .i64 ((j - 1 : Nat) : Int))] ∧ H2 = H.set b11 (.box 166 (U .u32 zs2))) ?_ ?_
  ·refine .block (.seq (.region (.mv rfl rfl (.mv rfl rfl (.mv rfl rfl (.cl rfl C151 (evs2 rfl rfl) (afU _ _ hx (by omega) (j - 1) (by omega) _ (by omega) _) (.cl rfl Tryz.call154 (evs2 rfl rfl) (alJ (zK r) .shared (zP r) (by omega) _ _) ?_)))))))
   rw [zT, bit_nat]
   refine .as rfl rfl (.nil ?_)
   refine Next.go ?_
   refine .seq (.region (.mv rfl rfl (.mv rfl rfl (.cl rfl Tryz.call155 (evs2 rfl rfl) (beW (zK (2 * r + val xs / 2 ^ (j - 1) % 2)) .shared (zP _) (by omega) _ _ hy (by omega) _) ?_))))
   rw [zT]
   refine .p rfl (yS (tm rfl) (zI 0)) (.nil ?_)
   refine Next.go ?_
   refine AWP.cond (tm rfl) (fun hc28 => ?_) (fun hc28 => ?_)
   ·try simp only [aM] at hc28
    have hge := bmV.1 hc28
    refine .seq (.region (.mv rfl rfl (.mv rfl rfl (.cl rfl Tryz.call156 (evs2 rfl rfl) (ayW (zK (2 * r + val xs / 2 ^ (j - 1) % 2)) .shared (zP _) (by omega) _ _ hy (by omega) (by rw [zT]; exact hge) _) ?_))))
    rw [zT]
    refine .as rfl rfl (.nil ?_)
    refine Next.go ?_
    refine .region (.mv rfl rfl (.mv rfl rfl (.p rfl (abV (tm rfl) (zI 32) (by omega) (by omega)) (.mv rfl rfl (.mv rfl rfl (.p rfl (abV (tm rfl) (zI 32) (by omega) (by omega)) (.p rfl (yO ((j - 1) / 32) U107 Z166 (tm rfl) (tm rfl) (by omega) (by omega)) (.e rfl (qJ G166 (tm rfl) (oS _ _ _) (by omega)) ?_))))))))
    refine .mv rfl rfl (.p rfl (aeQ (tm rfl) (zI 32) (by omega)) (.p rfl (qM U3 U102 (tm rfl) (wrapN64 (by omega))) (.p rfl (anW (zI 1) (tm rfl) (by omega) (by exact bjA (bQ _ (by decide)))) (.p rfl (bjW (tm rfl) (tm rfl) (by assumption) (by assumption)) (.p rfl (yO ((j - 1) / 32) U107 Z166 (tm rfl) (tm rfl) (by omega) (by omega)) (.e0 (qH Z166 (tm rfl) (tm rfl) (oS _ _ _) (by omega)) ?_))))))
    try first | rw [sS] | rw [sU (by assumption)]
    refine .nil ?_
    refine Block.go ?_
    refine Next.go ?_
    refine Meets.mk (M := fun env H2 => ∃ (r2 : Nat) (zs2 : List Nat), zs2.length = xs.length ∧ Limbs zs2 ∧ PartsOK (val xs) (val ys) zs2 r2 (j - 1) ∧ env = [(0, .slice 1 (U .u32 xs) tl), (1, .slice 1 (U .u32 ys) tl2), (6, .mslice (some ⟨b11, 0, none⟩) xs.length xs.length), (7, aaT r2), (8, .int .i64 ((j - 1 : Nat) : Int))] ∧ H2 = H.set b11 (.box 166 (U .u32 zs2))) ⟨_, zs.set ((j - 1) / 32) (zs.getD ((j - 1) / 32) 0 ||| (1 * 2 ^ ((j - 1) % 32))), by simpa using hzl, by rw [cL, hlow.1]; exact Limbs.set hz hlow.2, by rw [cL, hlow.1]; exact hp1.take hz (by omega) hge, rfl, rfl⟩ sX (hRa _)
   try simp only [aL, cA] at hc28
   have hlt : (2 * r + val xs / 2 ^ (j - 1) % 2) < val ys := by rcases bZ (2 * r + val xs / 2 ^ (j - 1) % 2) (val ys) with h | h; exact h; exact absurd (bmV.2 h) (by omega)
   refine .skip ?_
   refine Block.go ?_
   refine Next.go ?_
   refine Meets.mk (M := fun env H2 => ∃ (r2 : Nat) (zs2 : List Nat), zs2.length = xs.length ∧ Limbs zs2 ∧ PartsOK (val xs) (val ys) zs2 r2 (j - 1) ∧ env = [(0, .slice 1 (U .u32 xs) tl), (1, .slice 1 (U .u32 ys) tl2), (6, .mslice (some ⟨b11, 0, none⟩) xs.length xs.length), (7, aaT r2), (8, .int .i64 ((j - 1 : Nat) : Int))] ∧ H2 = H.set b11 (.box 166 (U .u32 zs2))) ⟨_, zs, hzl, hz, hp1.stay hlt, rfl, rfl⟩ sX (hRa _)
  rintro _ _ ⟨r2, zs2, hzl2, hz2, hp2, rfl, rfl⟩
  refine .region (.mv rfl rfl (.p rfl (yG (tm rfl) (zI 1) (by omega)) (.as rfl rfl (.nil ?_))))
  refine Next.go ?_
  refine Round.mk (J := bbU xs ys tl tl2 b11 H) ⟨j - 1, r2, zs2, by omega, hzl2, hz2, hp2, rfl, rfl, rfl⟩ sX (hRa _) (by omega)
 try simp only [aL, cA] at hc17
 refine .exit ?_
 refine Next.ex ?_
 refine Next.ex ?_
 refine Block.hit ?_
 refine Next.go ?_
 refine .seq ?_
 have hj0 : j = 0 := by omega
 subst hj0
 obtain ⟨hq, hrm⟩ := hp.done
 refine AWP.frzU (t := 6) rfl hb11 (by omega) (aX _) (by simp only [zW]; omega) ?_
 rw [aU (by omega)]
 refine .region (.mv rfl rfl (.cl rfl C153 (evs1 rfl) (aaQ zs .shared hz (by omega) _) (.mv rfl rfl (.cl rfl C153 (evs1 rfl) (aaQ (zK r) .shared (zP r) (by omega) _) ?_))))
 rw [zT]
 iterate 6 refine AX ?_
 refine ⟨?_, rfl⟩
 rw [← hq, ← hrm]; rfl

end
section
open Go Go.RowKit
set_option maxRecDepth 100000

def XS (v : Nat) (H H1 : Heap) (p : Option Addr) (c : Nat) : Prop :=
 (v = 0 ∧ H1 = H) ∨ (0 < v ∧ ∃ b, p = some ⟨b, 0, none⟩ ∧ H.objs b = none ∧ (zK v).length ≤ c ∧ c ≤ maxLen ∧ H1 = H.set b (.box 166 (U .u32 (zK v ++ List.replicate (c - (zK v).length) 0))))
theorem XS.le {H H1 : Heap} {p : Option Addr} (h : XS v H H1 p c) : H.le H1 := by
 rcases h with ⟨_, rfl⟩ | ⟨_, b, _, hb, _, _, rfl⟩
 ·exact hRa _
 exact Heap.le_set hb _
theorem XS.live {H H1 : Heap} {p : Option Addr} (h : XS v H H1 p c) (u : Nat) : XS v (H.live u) (H1.live u) p c := by
 rcases h with ⟨h, rfl⟩ | ⟨h, b, h1, hb, h2, h3, rfl⟩
 ·exact .inl ⟨h, rfl⟩
 exact .inr ⟨h, b, h1, hb, h2, h3, rfl⟩
theorem baH {g : G} {sz : Nat} {tl : Tail} {v : Value} (h : RelV g (.slice sz [] tl) v) : ∃ p c, v = .slice p 0 c := by
 cases h with
 | nilSlice => exact ⟨none, 0, rfl⟩
 | voidSlice sz a => exact ⟨_, _, rfl⟩
 | slice sz xs tl b off cap vs hsz hi hr hlen hcap htl => exact ⟨_, cap, rfl⟩
theorem aiA (h : 0 < n) : 0 < (zK n).length := by rw [qV h]; simp
theorem bytes_of (h : ∀ x, x ∈ l → x < 256) : U .u8 l = (l.map UInt8.ofNat).map bv := by
 unfold U
 rw [List.map_map]
 apply List.map_congr_left
 intro x hx
 have := h x hx
 simp only [Function.comp, bv, eU]
 rw [aW (by omega)]

theorem avL (xs : List Nat) (tl : Tail) (hx : Limbs xs) (hl : xs.length ≤ 1000000) (hv : 0 < val xs) (H : Heap) : ACall Tryz.prog 153 [.slice 1 (U .u32 xs) tl] H (fun y H' => ∃ p c, y = .mslice p (zK (val xs)).length c ∧ XS (val xs) H H' p c) := by
 refine ACall.of_body Tryz.func153 rfl Tryz.ntmps153 Tryz.results153 rfl ?_
 iterate 2 refine AX ?_
 refine .p rfl (zA (qK (sz := 1) (tl := .full))) ?_
 iterate 11 refine AX ?_
 refine AWP.loopW (asP xs tl H) (xs.length) ⟨xs.length, aX _, by rw [dL], rfl, rfl, rfl⟩ sX (hRa _) ?_
 rintro _ _ _ ⟨n, hn, hr, rfl, rfl, hk⟩
 refine AX ?_
 refine AWP.seqTo 15 (.bool (decide (0 < (n : Int)) && decide (((xs.getD (n - 1) 0 : Nat) : Int) = 0))) [0, 3] ?_ ?_
 ·-- region 2
  iterate 4 refine AX ?_
  refine zL (t := 8) rfl (fun hg8 => ?_) (fun hg8 => ?_)
  ·have hh8 := hg8; try simp only [aM] at hh8
   iterate 3 refine AX ?_
   refine .gp rfl rfl rfl (by assumption) (yA (n - 1) U107 Z166 (tm rfl) (tm rfl) (by omega) (by omega)) ?_
   refine AX ?_
   refine .gp rfl rfl rfl (by assumption) (zR (tm rfl) (zI 0)) ?_
   iterate 2 refine AX ?_
   exact ⟨rfl, zY rfl (by simp_all) sX, rfl⟩
  have hh8 := hg8; try simp only [aL, bN] at hh8
  iterate 8 refine AX ?_
  exact ⟨rfl, zY rfl (by simp_all) sX, rfl⟩
 refine AWP.sub [(15, _), (0, _), (3, _)] sX ?_
 refine AWP.cx rfl (fun hc15 => ?_) (fun hc15 => ?_)
 ·simp only [bK, aM] at hc15
  iterate 10 refine AX ?_
  have hs := acA (xs := xs) (k := n - 1) (by omega)
  rw [show n - 1 + 1 = n by omega, aO (by omega)] at hs
  refine Round.mk (J := asP xs tl H) ⟨n - 1, by omega, by rw [← hs, hr], rfl, rfl, rfl⟩ (zC rfl (zX rfl (by rw [show ((n : Int) - 1) = ((n - 1 : Nat) : Int) by omega]) zU)) (hRa _) (by omega)
 simp only [cB, aL] at hc15
 have hq : n = qD xs := by
  rcases aY n with h0 | h0
  ·subst h0; rw [← hr]; rfl
  have hs := acA (xs := xs) (k := n - 1) (by omega)
  rw [show n - 1 + 1 = n by omega, aN (by omega), hr] at hs
  exact hs.symm
 have hxt := adC hx
 rw [← hq] at hxt
 have hnz := aiA hv
 iterate 7 refine AX ?_
 refine .e rfl (asI U107 Z166 V166 ) ?_
 iterate 2 refine AX ?_
 refine .p rfl (acT (_) U107 Z166 (tm rfl) (tm rfl) rfl (by omega)) ?_
 refine .s rfl (auT (ys := xs.take n) U107 U107 Z166 Tryz.typeInfo166 V166 (by decide) (tm rfl) (tm rfl) (by show _ * 4 ≤ _; simp only [aQ]; omega) (by rw [hxt]; exact hnz)) ?_
 rintro _ _ ⟨b22, c22, rfl, hb22, hc1, hc2, hH⟩
 obtain rfl := hH.symm
 rw [hxt] at hc1
 rw [hxt]
 iterate 5 refine AX ?_
 exact ⟨_, c22, rfl, .inr ⟨hv, b22, rfl, hb22, hc1, hc2, rfl⟩⟩

theorem alK (xs : List Nat) (tl : Tail) (hx : Limbs xs) (hl : xs.length ≤ 1000000) (H : Heap) : ACall Tryz.prog 153 [.slice 1 (U .u32 xs) tl] H (fun y H' => ∃ p c, y = .mslice p (zK (val xs)).length c ∧ XS (val xs) H H' p c) := by
 rcases aY (val xs) with h | h
 ·have hc := aaQ xs tl hx hl H
  intro g vs w hr s
  refine (hc g vs w hr s).mono ?_
  rintro e w' ⟨v, rfl, g', y, H', hle, hv, s', rfl, rfl⟩
  rw [h] at hv
  obtain ⟨p, c, rfl⟩ := baH hv
  refine ⟨_, rfl, g', .mslice p 0 c, _, hle, .mslice _ _ _, s', p, c, ?_, .inl ⟨h, rfl⟩⟩
  rw [h]; rfl
 exact avL xs tl hx hl h H
theorem bmM (hv : 0 < v) (h : dec a = (if v = 0 then [] else dec v) ++ (l.map UInt8.ofNat).reverse) : dec a = (if v / 10 = 0 then [] else dec (v / 10)) ++ ((l ++ [48 + v % 10]).map UInt8.ofNat).reverse := by
 rw [h, aN (by omega), List.map_append, List.reverse_append]
 by_cases h10 : v < 10
 ·rw [alT h10, aO (by omega), aW h10]; rfl
 rw [alU (by omega), aN (by omega), bV]; rfl
theorem bnE {m : Int} (c : Nat) (hm : m = (c : Int)) : U .u8 zs ++ [.int .u8 m] = U .u8 (zs ++ [c]) := by
 subst hm; rw [← auF]; rfl
theorem shl_r (h : r < 10) : r * 2 ^ 32 < 18446744073709551616 := by rw [aqF]; omega
theorem take_app {ws ts : List Nat} (h : ws.length = n) : (ws ++ ts).take n = ws := by subst h; exact List.take_left
theorem bcW {ws ts : List Nat} {k : Nat} (h : k < ws.length) : (ws ++ ts).getD k 0 = ws.getD k 0 := by
 rw [aP, aP, fE h]
theorem live_set (H : Heap) (b t u : Nat) (o : AObj) : ((H.set b o).kill t).live u = ((H.kill t).live u).set b o := rfl
theorem rev_next (h : j < l.length) : (l.drop (j + 1)).reverse ++ [l.getD j 0] = (l.drop j).reverse := by
 rw [cN h, List.reverse_cons, aP, bF h]; rfl

def rdig_J (a : Nat) (H : Heap) : Nat → Env → Heap → Prop := fun k env H1 => ∃ (v : Nat) (p : Option Addr) (c t : Nat) (l : List Nat) (Hb : Heap), v < BIG ∧ (∀ x, x ∈ l → x < 256) ∧ dec a = (if v = 0 then [] else dec v) ++ (l.map UInt8.ofNat).reverse ∧ XS v Hb H1 p c ∧ H.le Hb ∧ Hb.toks t = true ∧ H.toks t = false ∧ env = [(3, .mslice p (zK v).length c), (4, .slice 1 (U .u8 l) (.own t))] ∧ k = v

def bjS (v b c t : Nat) (l : List Nat) (ts : List Nat) (Hb : Heap) : Nat → Env → Heap → Prop := fun k env H1 => ∃ (j r : Nat) (ws : List Nat), j ≤ (zK v).length ∧ ws.length = (zK v).length ∧ Limbs ws ∧ r < 10 ∧ (∀ q, q < j → ws.getD q 0 = (zK v).getD q 0) ∧ val (ws.drop j) * 10 + r = val ((zK v).drop j) ∧ env = [(3, .mslice (some ⟨b, 0, none⟩) (zK v).length c), (4, .slice 1 (U .u8 l) (.own t)), (5, .int .u64 (r : Int)), (6, .int .i64 ((j : Int) - 1))] ∧ H1 = Hb.set b (.box 166 (U .u32 (ws ++ ts))) ∧ k = j

def rrev_J (l : List Nat) (tl : Tail) (H : Heap) : Nat → Env → Heap → Prop := fun k env H1 => ∃ (j t : Nat), j ≤ l.length ∧ env = [(4, .slice 1 (U .u8 l) tl), (8, .slice 1 (U .u8 (l.drop j).reverse) (.own t)), (9, .int .i64 ((j : Int) - 1))] ∧ H.le H1 ∧ H1.toks t = true ∧ H.toks t = false ∧ k = j

theorem ajL (xs : List Nat) (tl : Tail) (hx : Limbs xs) (hl : xs.length ≤ 1000000) (hB : val xs < BIG) (H : Heap) : ACall Tryz.prog 202 [.slice 1 (U .u32 xs) tl] H (fun y H' => y = .str (dec (val xs)) ∧ H' = H) := by
 have hle0 := hRa H
 have hdl := apB hB
 refine ACall.of_body Tryz.func202 rfl Tryz.ntmps202 Tryz.results202 rfl ?_
 iterate 8 refine AX ?_
 refine .s rfl (zF C153 (evs1 rfl) (alK xs tl hx hl _)) ?_
 rintro _ H2 ⟨p2, c2, rfl, hxs2⟩
 have hle2 := hxs2.le
 iterate 8 refine AX ?_
 refine .p rfl (zR (tm rfl) (zI 0)) ?_
 iterate 2 refine AX ?_
 refine AWP.cond (tm rfl) (fun hc14 => ?_) (fun hc14 => ?_)
 ·try simp only [aM] at hc14
  iterate 3 refine AX ?_
  refine .nil ?_
  refine Next.go ?_
  refine .ret ?_
  refine Next.rt ?_
  refine Ret.go (.cons (.tmp _ _ rfl) .nil) _ (hle2) ?_
  refine ⟨?_, rfl⟩
  have h0 : val xs = 0 := by
   rcases aY (val xs) with h | h
   ·exact h
   have := aiA h; omega
  rw [h0]; rfl
 try simp only [aL] at hc14
 have hpos : 0 < val xs := by
  rcases aY (val xs) with h | h
  ·rw [h] at hc14; exact absurd rfl hc14
  exact h
 iterate 4 refine AX ?_
 refine .p rfl (zA (qK (sz := 1) (tl := .full))) ?_
 iterate 4 refine AX ?_
 refine AWP.tag (t := 4) rfl (fun u4 hu4 => ?_)
 have hfu4 := Heap.fresh_of hle2 hu4
 have hleu4 := Heap.le_in hle2 u4
 refine AWP.loopW (rdig_J (val xs) H) (val xs) ⟨val xs, p2, c2, u4, [], H.live u4, hB, by simp, by rw [aN (by omega)]; simp, hxs2.live u4, Heap.le_live _ _, Heap.toks_live_same _ _, hfu4, rfl, rfl⟩ sX (hRa _) ?_
 rintro _ _ H1 ⟨v, p, c, t, l, Hb, hvB, hl8, hd, hxs, hlb, hlive, hfr, rfl, hk⟩
 have hll : l.length ≤ 2500 := by have := congrArg List.length hd; rw [aS, fK, eY] at this; omega
 iterate 5 refine AX ?_
 refine .p rfl (yC (tm rfl) (zI 0)) ?_
 iterate 2 refine AX ?_
 refine AWP.cond (tm rfl) (fun hc17 => ?_) (fun hc17 => ?_)
 ·try simp only [aM] at hc17
  have hvp : 0 < v := by
   rcases aY v with h | h
   ·rw [h] at hc17; exact absurd hc17 (by decide)
   exact h
  obtain ⟨_, b, rfl, hb, hcl, hcm, rfl⟩ := hxs.resolve_left (by rintro ⟨h, _⟩; omega)
  have hlv := yU hvB
  generalize hts : List.replicate (c - (zK v).length) 0 = ts
  iterate 5 refine AX ?_
  refine .p rfl (zA (zI 0)) ?_
  iterate 7 refine AX ?_
  refine .p rfl (yG (tm rfl) (zI 1) (by omega)) ?_
  iterate 4 refine AX ?_
  refine AWP.loopW (bjS v b c t l ts Hb) ((zK v).length) ⟨(zK v).length, 0, zK v, aX _, rfl, zP _, by decide, fun _ _ => rfl, by simp [val], rfl, rfl, rfl⟩ sX (hRa _) ?_
  rintro _ _ _ ⟨j, r, ws, hj, hwl, hwL, hr, hgs, hv, rfl, rfl, hk2⟩
  iterate 4 refine AX ?_
  refine .p rfl (yS (tm rfl) (zI 0)) ?_
  iterate 2 refine AX ?_
  refine AWP.cond (tm rfl) (fun hc22 => ?_) (fun hc22 => ?_)
  ·try simp only [aM] at hc22
   have hgv := Limbs.getD (zP v) (j - 1)
   have hgw := hwL.getD (j - 1)
   have hts8 := hgs (j - 1) (by omega)
   have hta := bcW (ts := ts) (by omega : j - 1 < ws.length)
   have hv1 : val (ws.drop (j - 1 + 1)) * 10 + r = val ((zK v).drop (j - 1 + 1)) := by rw [show j - 1 + 1 = j by omega]; exact hv
   obtain ⟨hf1, hf2⟩ := aqQ hr hgv (by decide : (10 : Nat) < 4294967296)
   iterate 7 refine AX ?_
   refine .p rfl (qL (tm rfl) (zI 32) (by omega) (by exact shl_r hr)) ?_
   iterate 2 refine AX ?_
   refine .p rfl (yO (j - 1) U107 Z166 (tm rfl) (tm rfl) (by omega) (by omega)) (.e rfl (qJ G166 (tm rfl) (oS _ _ _) (by (rw [aS]; omega))) ?_)
   iterate 6 refine AX ?_
   rw [bcW (by omega : j - 1 < ws.length), hgs (j - 1) (by omega), aqF]
   iterate 4 refine AX ?_
   refine .p rfl (adE (tm rfl) (zI 10) (by assumption) (by omega)) ?_
   refine AX ?_
   refine .p rfl (yO (j - 1) U107 Z166 (tm rfl) (tm rfl) (by omega) (by omega)) (.e0 (qH Z166 (tm rfl) (tm rfl) (oS _ _ _) (by (rw [aS]; omega))) ?_)
   try first | rw [sS] | rw [sU (by assumption)]
   iterate 4 refine AX ?_
   refine .p rfl (qY (tm rfl) (zI 10) (by omega)) ?_
   iterate 6 refine AX ?_
   refine .p rfl (yG (tm rfl) (zI 1) (by omega)) ?_
   iterate 3 refine AX ?_
   rw [List.set_append_left _ _ (by omega), aW (show _ < 2 ^ IntKind.u32.bits from hf1)]
   refine Round.mk (J := bjS v b c t l ts Hb) ⟨j - 1, _, _, by omega, by simpa using hwl, Limbs.set hwL hf1, bQ _ (by decide), fun q hq => by rw [getD_set_ne (by omega)]; exact hgs q (by omega), aqP (by decide) (by omega) hwl (hgs _ (by omega)) hv1, rfl, rfl, rfl⟩ (zC rfl (zC rfl (zC rfl (zX rfl (by congr 1; omega) zU)))) (hRa _) (by omega)
  try simp only [aL, cA] at hc22
  have hj0 : j = 0 := by omega
  subst hj0
  rw [dK, dK, zT] at hv
  have hwv : val ws = v / 10 := by omega
  have hrv : r = v % 10 := by omega
  iterate 3 refine AX ?_
  refine Block.hit ?_
  refine Next.go ?_
  refine .seq (.region (.mv rfl rfl (.mv rfl rfl (.p rfl (yR (zI 48) (tm rfl) (by omega)) (.p rfl (adF U22 U5 rfl (tm rfl)) (.e rfl (aaF U142 Z5 V5 rfl (tm rfl) (.inl rfl) ⟨rfl, rfl⟩) ?_))))))
  refine .s rfl (abU U142 U142 Z5 Tryz.typeInfo5 V5 rfl (by decide) (tm rfl) (tm rfl) (by exact .own _ (show Heap.toks _ _ = true from hlive)) (by show (_ + _) * 1 ≤ _; simp only [adW, bE, bL]; omega) (by repeat' (first | exact yP _ | exact abH | exact afP ⟨rfl, rfl⟩ abH | exact aaV (yP _) | exact aaU (yP _) | refine abP ?_ ?_ | exact akE _ _)) (by repeat' (first | exact yP _ | exact abH | exact afP ⟨rfl, rfl⟩ abH | exact aaV (yP _) | exact aaU (yP _) | refine abP ?_ ?_))) ?_
  rintro _ _ ⟨t46, ht46, rfl, hH⟩
  obtain rfl := hH.symm
  have hf46 := Heap.fresh_of hlb ht46
  have hle46 := Heap.le_in (Heap.le_out (t := t) hlb (by assumption)) t46
  refine .as rfl rfl (.nil ?_)
  refine Next.go ?_
  rw [live_set]
  refine AWP.frzU (t := 3) rfl (show Heap.objs _ _ = none from hb) (by simp only [aS]; omega) hcl hcm ?_
  rw [take_app hwl]
  refine .region (.mv rfl rfl (.s rfl (zF C153 (evs1 rfl) (alK ws .shared hwL (by omega) _)) ?_))
  rintro _ H3 ⟨p3, c3, rfl, hxs3⟩
  iterate 4 refine AX ?_
  refine Round.mk (J := rdig_J (val xs) H) ⟨val ws, p3, c3, t46, l ++ [48 + v % 10], _, by omega, fun x hx => by rcases eF.1 hx with h | h; exact hl8 x h; rw [List.mem_singleton.1 h]; omega, by rw [hwv]; exact bmM hvp hd, hxs3, hle46, Heap.toks_live_same _ _, hf46, rfl, rfl⟩ (zC rfl (zX rfl (adI (bnE _ (by rw [hrv]; simp only [IntKind.bits]; omega))) zU)) (hRa _) (by omega)
 try simp only [aL, bN] at hc17
 have hv0 : v = 0 := by
  rcases aY v with h | h
  ·exact h
  have := aiA h; omega
 subst hv0
 obtain ⟨_, rfl⟩ := hxs.resolve_right (by rintro ⟨h, _⟩; omega)
 rw [aO rfl, cT] at hd
 iterate 2 refine AX ?_
 refine Next.ex ?_
 refine Block.hit ?_
 refine Next.go ?_
 refine .seq (.region ?_)
 refine .p rfl (zA (qK (sz := 1) (tl := .full))) ?_
 refine .nil ?_
 refine Next.go ?_
 refine .seq (.seq (.region (.mv rfl rfl (.p rfl (abD U142 (tm rfl)) (.p rfl (yG (tm rfl) (zI 1) (by omega)) (.as rfl rfl (.nil ?_)))))))
 refine Next.go ?_
 refine .block ?_
 refine AWP.tag (t := 8) rfl (fun u8 hu8 => ?_)
 have hfu8 := Heap.fresh_of hlb hu8
 have hleu8 := Heap.le_in hlb u8
 refine AWP.loopW (rrev_J l (.own t) H) (l.length) ⟨l.length, u8, aX _, rfl, hleu8, Heap.toks_live_same _ _, hfu8, rfl⟩ (zC rfl (zX rfl (adI (by rw [fX]; rfl)) (zC rfl zU))) (hRa _) ?_
 rintro _ _ H4 ⟨j, t8, hj, rfl, hle4, hlive4, hfr4, hk4⟩
 refine .seq (.seq (.region (.mv rfl rfl (.p rfl (yS (tm rfl) (zI 0)) (.nil ?_)))))
 refine Next.go ?_
 refine AWP.cond (tm rfl) (fun hc53 => ?_) (fun hc53 => ?_)
 ·try simp only [aM] at hc53
  refine .skip ?_
  refine Next.go ?_
  refine .seq (.block (.region (.mv rfl rfl (.mv rfl rfl (.mv rfl rfl (.p rfl (yA (j - 1) U142 Z5 (tm rfl) (tm rfl) (by omega) (by omega)) (.p rfl (zH G5 (tm rfl)) (.e rfl (aaF U142 Z5 V5 rfl (tm rfl) (.inl rfl) ⟨rfl, rfl⟩) ?_))))))))
  refine .s rfl (abU U142 U142 Z5 Tryz.typeInfo5 V5 rfl (by decide) (tm rfl) (tm rfl) (by exact .own _ (by assumption)) (by show (_ + _) * 1 ≤ _; simp only [adW, bE, bL, fK, bS]; omega) (by repeat' (first | exact yP _ | exact abH | exact afP ⟨rfl, rfl⟩ abH | exact aaV (yP _) | exact aaU (yP _) | refine abP ?_ ?_ | exact akE _ _)) (by repeat' (first | exact yP _ | exact abH | exact afP ⟨rfl, rfl⟩ abH | exact aaV (yP _) | exact aaU (yP _) | refine abP ?_ ?_))) ?_
  rintro _ _ ⟨t62, ht62, rfl, hH⟩
  obtain rfl := hH.symm
  have hf62 := Heap.fresh_of hle4 ht62
  have hle62 := Heap.le_in (Heap.le_out (t := t8) hle4 (by assumption)) t62
  refine .as rfl rfl (.nil ?_)
  refine Block.go ?_
  refine Next.go ?_
  refine .region (.mv rfl rfl (.p rfl (yG (tm rfl) (zI 1) (by omega)) (.as rfl rfl (.nil ?_))))
  refine Next.go ?_
  refine Round.mk (J := rrev_J l (.own t) H) ⟨j - 1, t62, by omega, rfl, hle62, Heap.toks_live_same _ _, hf62, rfl⟩ (zC rfl (zX rfl (adI (by rw [← rev_next (l := l) (j := j - 1) (by omega), show j - 1 + 1 = j by omega]; exact bnE _ rfl)) (zX rfl (by congr 1; omega) zU))) (hRa _) (by omega)
 try simp only [aL, cA] at hc53
 refine .exit ?_
 refine Next.ex ?_
 refine Next.ex ?_
 refine Block.hit ?_
 refine Next.go ?_
 refine .seq ?_
 have hj0 : j = 0 := by omega
 subst hj0
 rw [dK, bytes_of (l := l.reverse) (fun x hx => hl8 x (by simpa using hx))]
 refine .region (.mv rfl rfl (.e rfl (beC U142 U9 U5 (tm rfl)) ?_))
 iterate 4 refine AX ?_
 refine Ret.go (.cons (.tmp _ _ rfl) .nil) _ (hle4) ?_
 refine ⟨?_, rfl⟩
 rw [hd, List.map_reverse]; rfl

end
section
open Go Go.RowKit
set_option maxRecDepth 100000

theorem up_pow (v n : Nat) : 4294967296 ^ (n / 32) * v * 2 ^ (n % 32) = v * 2 ^ n := by
 have e2 : (4294967296 : Nat) ^ (n / 32) * 2 ^ (n % 32) = 2 ^ n := by
  rw [show (4294967296 : Nat) = 2 ^ 32 by decide, ← dO, ← bB, cD]
 rw [bD _ v, bC, e2]
theorem up_small (h : v * 2 ^ n < BIG) (hi : i < n % 32) : 2 * (4294967296 ^ (n / 32) * v * 2 ^ i) < BIG := by
 refine aR ?_ h
 rw [← up_pow v n, bD 2, bC _ (2 ^ i), ← bO]
 exact bT _ (aT (by decide) hi)
theorem beV (v : Nat) (hv : v < 18446744073709551616) (H : Heap) : ACall Tryz.prog 130 [.int .u64 (v : Int)] H (fun y H' => y = aaT v ∧ H' = H) := by
 refine ACall.of_body Tryz.func130 rfl Tryz.ntmps130 Tryz.results130 rfl ?_
 iterate 2 refine AX ?_
 refine .p rfl (zA (qK (sz := 1) (tl := .full))) ?_
 iterate 5 refine AX ?_
 refine .cl rfl Tryz.call189 (evs1 rfl) (bjU _ (by assumption) _) ?_
 iterate 5 refine AX ?_
 exact ⟨rfl, rfl⟩

def rup_J (xs : List Nat) (tl : Tail) (n : Nat) (H : Heap) : Nat → Env → Heap → Prop := fun k env H1 => ∃ (i : Nat) (zs : List Nat) (tl2 : Tail), i ≤ n % 32 ∧ Limbs zs ∧ zs.length ≤ 20000 ∧ val zs = 4294967296 ^ (n / 32) * val xs * 2 ^ i ∧ env = [(0, .slice 1 (U .u32 xs) tl), (1, .int .i64 (n : Int)), (5, .slice 1 (U .u32 zs) tl2), (6, .int .i64 (i : Int))] ∧ H = H1 ∧ k = n % 32 - i

theorem anT (xs : List Nat) (tl : Tail) (hx : Limbs xs) (hl : xs.length ≤ 10000) (n : Nat) (hn : n ≤ 100000) (q : Int) (hq : q = (n : Int)) (hB : val xs * 2 ^ n < BIG) (H : Heap) : ACall Tryz.prog 87 [.slice 1 (U .u32 xs) tl, .int .i64 q] H (fun y H' => y = aaT (val xs * 2 ^ n) ∧ H' = H) := by
 subst hq
 refine ACall.of_body Tryz.func87 rfl Tryz.ntmps87 Tryz.results87 rfl ?_
 iterate 2 refine AX ?_
 refine .p rfl (zA (qK (sz := 1) (tl := .full))) ?_
 iterate 5 refine AX ?_
 refine .p rfl (abV (tm rfl) (zI 32) (by omega) (by omega)) (.s rfl (yV (n / 32) U107 Tryz.typeInfo166 Z166 V166 (tm rfl) (tm rfl) (by omega) (by omega) (by decide) (by omega)) ?_)
 rintro _ _ ⟨b9, rfl, hb9, hH⟩
 obtain rfl := hH.symm
 iterate 4 refine AX ?_
 refine AWP.frzUF (t := 5) rfl hb9 (by simp) rfl (by simp only [zW]; omega) ?_
 rw [aU (by simp)]
 iterate 3 refine AX ?_
 refine .e rfl (alD U107 U107 Z166 Tryz.typeInfo166 V166 rfl (by decide) (tm rfl) (tm rfl) (by show (_ + _) * 4 ≤ _; simp only [adW, bR]; omega) (by repeat' (first | exact yP _ | exact abH | exact afP ⟨rfl, rfl⟩ abH | exact aaV (yP _) | exact aaU (yP _) | refine abP ?_ ?_ | exact akE _ _)) (by repeat' (first | exact yP _ | exact abH | exact afP ⟨rfl, rfl⟩ abH | exact aaV (yP _) | exact aaU (yP _) | refine abP ?_ ?_ | exact akE _ _))) ?_
 iterate 6 refine AX ?_
 refine .p rfl (zA (zI 0)) ?_
 iterate 3 refine AX ?_
 refine AWP.loopW (rup_J xs tl n H) (n % 32) ⟨0, List.replicate (n / 32) 0 ++ xs, .shared, Nat.zero_le _, (Limbs.rep (by decide)).append hx, by simp; omega, by rw [qX, akK, bR]; omega, rfl, rfl, rfl⟩ (zC rfl (zC rfl (zX rfl (adI (auF _ _ _)) (zC rfl zU)))) (hRa _) ?_
 rintro _ _ _ ⟨i, zs, tl2, hi, hz, hzl, hv, rfl, rfl, hk⟩
 iterate 5 refine AX ?_
 refine .p rfl (aeQ (tm rfl) (zI 32) (by omega)) ?_
 iterate 3 refine AX ?_
 refine AWP.cx rfl (fun hc16 => ?_) (fun hc16 => ?_)
 ·iterate 6 refine AX ?_
  refine .cl rfl Tryz.call154 (.cons (tm rfl) (.cons zM .nil)) (alJ zs tl2 hz (by omega) false _) ?_
  have hsm := yU (up_small hB (show i < n % 32 by omega))
  rw [← hv] at hsm
  iterate 6 refine AX ?_
  refine .p rfl (yT (tm rfl) (zI 1) (by omega)) ?_
  iterate 3 refine AX ?_
  refine Round.mk (J := rup_J xs tl n H) ⟨i + 1, zK (2 * val zs), .shared, by omega, zP _, by omega, by rw [zT, hv, bO, bD 2, bC], rfl, rfl, rfl⟩ sX (hRa _) (by omega)
 iterate 8 refine AX ?_
 refine .cl rfl C153 (evs1 rfl) (aaQ _ _ (by assumption) (by omega) _) ?_
 iterate 5 refine AX ?_
 refine ⟨?_, rfl⟩
 have hi2 : i = n % 32 := by omega
 rw [hv, hi2, up_pow]; rfl

def bbX (n : Nat) (H : Heap) : Nat → Env → Heap → Prop := fun k env H1 => ∃ (i : Nat) (tl : Tail), i ≤ n ∧ env = [(0, .int .i64 (n : Int)), (3, .slice 1 (U .u32 (zK (5 ^ i))) tl), (4, .int .i64 (i : Int))] ∧ H = H1 ∧ k = n - i

theorem avE (n : Nat) (hn : n ≤ 100000) (q : Int) (hq : q = (n : Int)) (hB : 5 ^ n < BIG) (H : Heap) : ACall Tryz.prog 203 [.int .i64 q] H (fun y H' => y = aaT (5 ^ n) ∧ H' = H) := by
 subst hq
 refine ACall.of_body Tryz.func203 rfl Tryz.ntmps203 Tryz.results203 rfl ?_
 iterate 2 refine AX ?_
 refine .p rfl (zA (qK (sz := 1) (tl := .full))) ?_
 iterate 4 refine AX ?_
 refine .e rfl (aaF U107 Z166 V166 rfl (zI 1) (.inl rfl) ⟨rfl, rfl⟩) ?_
 iterate 6 refine AX ?_
 refine .p rfl (zA (zI 0)) ?_
 iterate 3 refine AX ?_
 refine AWP.loopW (bbX n H) (n) ⟨0, .full, Nat.zero_le _, rfl, rfl, rfl⟩ (zC rfl (zX rfl (adI rfl) (zC rfl zU))) (hRa _) ?_
 rintro _ _ _ ⟨i, tl, hi, rfl, rfl, hk⟩
 have hl := yU (n := 5 ^ i) (aR (aT (by decide) hi) hB)
 iterate 8 refine AX ?_
 refine AWP.cx rfl (fun hc8 => ?_) (fun hc8 => ?_)
 ·iterate 6 refine AX ?_
  refine .e rfl (aaF U107 Z166 V166 rfl (zI 5) (.inl rfl) ⟨rfl, rfl⟩) (.cl rfl C83 (evs2 rfl rfl) (adO (zK (5 ^ i)) tl (zP _) (by omega) [5] .full (Limbs.mk (by decide) Limbs.nil) (by decide) _) ?_)
  rw [zT, show val [5] = 5 from rfl, ← bO]
  iterate 6 refine AX ?_
  refine .p rfl (yT (tm rfl) (zI 1) (by omega)) ?_
  iterate 3 refine AX ?_
  refine Round.mk (J := bbX n H) ⟨i + 1, .shared, by omega, rfl, rfl, rfl⟩ sX (hRa _) (by omega)
 iterate 12 refine AX ?_
 refine Ret.go (.cons (.weak _ _ _ rfl (.slice _ _ _)) .nil) _ (hRa _) ?_
 refine ⟨?_, rfl⟩
 rw [show i = n by omega]; rfl

def rten_J (n : Nat) (H : Heap) : Nat → Env → Heap → Prop := fun k env H1 => ∃ (i : Nat) (tl : Tail), i ≤ n ∧ env = [(0, .int .i64 (n : Int)), (3, .slice 1 (U .u32 (zK (10 ^ i))) tl), (4, .int .i64 (i : Int))] ∧ H = H1 ∧ k = n - i

theorem aqU (n : Nat) (hn : n ≤ 100000) (q : Int) (hq : q = (n : Int)) (hB : 10 ^ n < BIG) (H : Heap) : ACall Tryz.prog 84 [.int .i64 q] H (fun y H' => y = aaT (10 ^ n) ∧ H' = H) := by
 subst hq
 refine ACall.of_body Tryz.func84 rfl Tryz.ntmps84 Tryz.results84 rfl ?_
 iterate 2 refine AX ?_
 refine .p rfl (zA (qK (sz := 1) (tl := .full))) ?_
 iterate 4 refine AX ?_
 refine .e rfl (aaF U107 Z166 V166 rfl (zI 1) (.inl rfl) ⟨rfl, rfl⟩) ?_
 iterate 6 refine AX ?_
 refine .p rfl (zA (zI 0)) ?_
 iterate 3 refine AX ?_
 refine AWP.loopW (rten_J n H) (n) ⟨0, .full, Nat.zero_le _, rfl, rfl, rfl⟩ (zC rfl (zX rfl (adI rfl) (zC rfl zU))) (hRa _) ?_
 rintro _ _ _ ⟨i, tl, hi, rfl, rfl, hk⟩
 have hl := yU (n := 10 ^ i) (aR (aT (by decide) hi) hB)
 iterate 8 refine AX ?_
 refine AWP.cx rfl (fun hc8 => ?_) (fun hc8 => ?_)
 ·iterate 6 refine AX ?_
  refine .e rfl (aaF U107 Z166 V166 rfl (zI 10) (.inl rfl) ⟨rfl, rfl⟩) (.cl rfl C83 (evs2 rfl rfl) (adO (zK (10 ^ i)) tl (zP _) (by omega) [10] .full (Limbs.mk (by decide) Limbs.nil) (by decide) _) ?_)
  rw [zT, show val [10] = 10 from rfl, ← bO]
  iterate 6 refine AX ?_
  refine .p rfl (yT (tm rfl) (zI 1) (by omega)) ?_
  iterate 3 refine AX ?_
  refine Round.mk (J := rten_J n H) ⟨i + 1, .shared, by omega, rfl, rfl, rfl⟩ sX (hRa _) (by omega)
 iterate 12 refine AX ?_
 refine Ret.go (.cons (.weak _ _ _ rfl (.slice _ _ _)) .nil) _ (hRa _) ?_
 refine ⟨?_, rfl⟩
 rw [show i = n by omega]; rfl

end
end Go.Proofs.YtmmgbnolccpjoaaGreatDoor
