import Derived.Test.YtmmgbnolccpjoaaGreatDoorP2
import Derived.Shelf.Spec.BitsCarry
namespace Go.Proofs.YtmmgbnolccpjoaaGreatDoor
open Go Go.RowKit

variable {B Y a b k r u u1 y y0 y1 : Nat}
theorem shl_big {v n : Nat} (h1 : 64 ≤ n) : v * 2 ^ n % M2 / M1 = v % M1 * 2 ^ (n - 64) % M1 ∧ v * 2 ^ n % M2 % M1 = 0 := by
 have e : v * 2 ^ n = M1 * (v * 2 ^ (n - 64)) := by
  rw [aeZ, Nat.mul_left_comm, ← bB, show 64 + (n - 64) = n by omega]
 have h0 : 0 < M1 := by decide
 rw [e, bbB, Nat.mul_mod_mul_left, Nat.mul_div_cancel_left _ h0, Nat.mul_mod_right]
 refine ⟨?_, rfl⟩
 have q1 := Nat.mul_mod v (2 ^ (n - 64)) M1
 have q2 := Nat.mul_mod (v % M1) (2 ^ (n - 64)) M1
 rw [Nat.mod_mod] at q2
 exact q1.trans q2.symm
theorem sub_lo (hb : b < M2) : (a + M2 - b) % M2 % M1 = (a % M1 + M1 - b % M1 - 0) % M1 := by
 unfold M1 M2 at *
 omega
theorem sub_hi (ha : a < M2) (hb : b < M2) : (a + M2 - b) % M2 / M1 = (a / M1 + M1 - b / M1 - (if a % M1 < b % M1 + 0 then 1 else 0)) % M1 := by
 unfold M1 M2 at *
 split <;> omega
theorem biS (ha : a < M2) (hb : b < M2) : ((if a / M1 < b / M1 + (if a % M1 < b % M1 + 0 then 1 else 0) then 1 else 0 : Nat) = 1 ↔ a < b) := by
 unfold M1 M2 at *
 by_cases p : a % 18446744073709551616 < b % 18446744073709551616 + 0
 ·rw [aO p]
  by_cases q : a / 18446744073709551616 < b / 18446744073709551616 + 1
  ·rw [aO q]; omega
  rw [aN q]; omega
 rw [aN p]
 by_cases q : a / 18446744073709551616 < b / 18446744073709551616 + 0
 ·rw [aO q]; omega
 rw [aN q]; omega
theorem bmU {a b : Nat} : (a / M1 < b / M1 ∨ (a / M1 = b / M1 ∧ a % M1 < b % M1) ↔ a < b) ∧ (a / M1 = b / M1 ∧ a % M1 = b % M1 ↔ a = b) := by
 unfold M1
 omega
section
open Go Go.RowKit Go.Shelf

theorem ext292 : IsExt Tryz.prog 292 sub64Entry := ⟨_, Tryz.func292, by kernel_rfl, by kernel_rfl, by kernel_rfl, by kernel_rfl⟩
theorem awV {x y c : Nat} (hc : c ≤ 1) : ∀ g vs w, RelVs g [.int .u64 (x : Int), .int .u64 (y : Int), .int .u64 (c : Int)] vs → ∃ v, (sub64Entry vs.toArray).run Tryz.prog w = .ok v w ∧ RelV g (.tuple [.int .u64 (((x + 18446744073709551616 - y - c) % 18446744073709551616 : Nat) : Int), .int .u64 ((if x < y + c then 1 else 0 : Nat) : Int)]) v := by
 intro g vs w hr
 obtain ⟨v, u, z, rfl, h1, h2, h3⟩ := relvs3 hr
 cases h1; cases h2; cases h3
 have hrun := run_sub64 (P := Tryz.prog) x y c hc w
 refine ⟨_, hrun, .tuple _ _ rfl (fun i c v hc hv => ?_)⟩
 match i with
 | 0 => cases hc; cases hv; exact .int _ _
 | 1 => cases hc; cases hv; exact .int _ _
 | i + 2 => simp at hc
theorem bgQ {x : Nat} : ∀ g vs w, RelVs g [.int .u64 (x : Int), .int .u64 (y : Int), .int .u64 ((0 : Nat) : Int)] vs → ∃ v, (sub64Entry vs.toArray).run Tryz.prog w = .ok v w ∧ RelV g (.tuple [.int .u64 (((x + 18446744073709551616 - y - 0) % 18446744073709551616 : Nat) : Int), .int .u64 ((if x < y + 0 then 1 else 0 : Nat) : Int)]) v := @awV x y 0 (by decide)
end
section
open Go Go.RowKit
set_option maxRecDepth 100000

theorem eqIn2 (d : Nat) (a b a2 b2 : Int) (w : World) : (Op.equalIn (d + 2) 149 (.agg #[.int .u64 a, .int .u64 b]) (.agg #[.int .u64 a2, .int .u64 b2])).run Tryz.prog w = .ok (decide (a = a2 ∧ b = b2)) w := by
 have u3 := U22
 have a3 := G22
 have z3 := Z22
 have hS : Tryz.prog.underlying 149 = some (.struct (Tryz.prog.fieldsOf 149)) := by kernel_rfl
 have hp : Tryz.prog.stoodInHeld 149 = false := by kernel_rfl
 rw [run_equalIn_agg w (d + 1) 149 _ _ hS hp]
 simp only [Program.fieldsOf, U149]
 go_simp
 by_cases h1 : a = a2 <;> by_cases h2 : b = b2 <;> simp [h1, h2]
theorem eq2 (a b a2 b2 : Int) : apM Tryz.prog 149 [.int .u64 a, .int .u64 b] [.int .u64 a2, .int .u64 b2] (decide (a = a2 ∧ b = b2)) := fun g xs ys w h k => by
 rw [h.plain [.int .u64 a, .int .u64 b] rfl, k.plain [.int .u64 a2, .int .u64 b2] rfl]; exact eqIn2 9998 a b a2 b2 w
theorem one_iff {p : Prop} [Decidable p] : (((0 : Nat) : Int) < ((if p then 1 else 0 : Nat) : Int)) ↔ (if p then 1 else 0 : Nat) = 1 := by
 by_cases h : p
 ·rw [aO h]; decide
 rw [aN h]; decide
theorem sub_bool (ha : a < M2) (hb : b < M2) : decide (((0 : Nat) : Int) < ((if a / M1 < b / M1 + (if a % M1 < b % M1 + 0 then 1 else 0) then 1 else 0 : Nat) : Int)) = decide (a < b) := bA.2 (one_iff.trans (biS ha hb))
theorem subc_le (x y : Nat) : (if x < y + 0 then 1 else 0 : Nat) ≤ 1 := by split <;> omega

theorem aqC (a b : Nat) (ha : a < M2) (hb : b < M2) (H : Heap) : ACall Tryz.prog 244 [u2 a, u2 b] H (fun y H' => y = .tuple [u2 ((a + M2 - b) % M2), .bool (decide (a < b))] ∧ H' = H) := by
 refine ACall.of_body Tryz.func244 rfl Tryz.ntmps244 Tryz.results244 rfl ?_
 refine .seq (.region (.e rfl (zZ (tm rfl) (.inr ⟨_, rfl⟩)) (.e rfl (zZ (tm rfl) (.inr ⟨_, rfl⟩)) ?_)))
 refine .al zr149 (fun b4 hb4 => ?_)
 refine .p rfl (zA zM) (.nil ?_)
 refine Next.go ?_
 refine .seq (.region (.p rfl (zD U149 rfl Z22 (tm rfl)) (.p rfl (zH G22 (tm rfl)) (.p rfl (zD U149 rfl Z22 (tm rfl)) (.p rfl (zH G22 (tm rfl)) ?_)))))
 refine AList.ext rfl ext292 (.cons (tm rfl) (.cons (tm rfl) (.cons (zI 0) .nil))) (bgQ) ?_
 refine .mv rfl rfl (.p rfl (zB (tm rfl) rfl) (.p rfl (zB (tm rfl) rfl) (.as rfl rfl (.as rfl rfl (.nil ?_)))))
 refine Next.go ?_
 refine .seq (.region (.p rfl (zD U149 rfl Z22 (tm rfl)) (.p rfl (zH G22 (tm rfl)) (.p rfl (zD U149 rfl Z22 (tm rfl)) ?_))))
 iterate 2 refine AX ?_
 refine AList.ext rfl ext292 (evs3 rfl rfl rfl) (awV (x := a / M1) (y := b / M1) (c := (if a % M1 < b % M1 + 0 then 1 else 0)) (subc_le _ _)) ?_
 iterate 11 refine AX ?_
 refine .p rfl (yK zr149 pl149 (.cons (tm rfl) (.inl rfl) (.cons (tm rfl) (.inl rfl) .nil)) rfl) ?_
 refine AX ?_
 refine .p rfl (yC (tm rfl) (zI 0)) ?_
 iterate 4 refine AX ?_
 refine AWP.frz (t := 4) rfl (hb4) ?_
 iterate 2 refine AX ?_
 refine ⟨?_, rfl⟩
 rw [← sub_bool ha hb]
 unfold u2 w2
 rw [sub_hi ha hb, sub_lo hb]
 rfl

theorem axO (v : Nat) (n : Nat) (hn : 64 ≤ n ∧ n < 128) (q : Int) (hq : q = (n : Int)) (H : Heap) : ACall Tryz.prog 187 [u2 v, .int .i64 q] H (fun y H' => y = u2 (v * 2 ^ n % M2) ∧ H' = H) := by
 subst hq
 refine ACall.of_body Tryz.func187 rfl Tryz.ntmps187 Tryz.results187 rfl ?_
 iterate 3 refine AX ?_
 refine .al zr149 (fun b4 hb4 => ?_)
 iterate 7 refine AX ?_
 refine .nil ?_
 refine Next.go ?_
 refine .seq (.seq ?_)
 rw [show awK (n : Int) 0 = (n : Int) by simp only [awK]; split <;> omega]
 refine .region (.mv rfl rfl (.p rfl (yS (tm rfl) zE) (.nil ?_)))
 refine Next.go ?_
 refine AWP.cond_true (tm rfl) (by exact bH (by omega)) ?_
 refine .seq (.region (.p rfl (zD U149 rfl Z22 (tm rfl)) ?_))
 iterate 3 refine AX ?_
 refine .p rfl (.as (b := .int .i64 ((n - 64 : Nat) : Int)) (by simp only [bhU]; split <;> (congr 1; omega)) (ahL (tm rfl) zE)) ?_
 refine AX ?_
 refine .p rfl (yK zr149 pl149 (.cons (tm rfl) (.inl rfl) (.cons (zI 0) (.inl rfl) .nil)) rfl) ?_
 iterate 3 refine AX ?_
 refine AWP.frz (t := 4) rfl (hb4) ?_
 iterate 3 refine AX ?_
 refine ⟨?_, rfl⟩
 obtain ⟨e1, e2⟩ := shl_big (v := v) hn.1
 unfold u2 w2
 rw [e1, e2]
 rfl

theorem baM : (((a / M1 : Nat) : Int) = ((b / M1 : Nat) : Int) ∧ ((a % M1 : Nat) : Int) = ((b % M1 : Nat) : Int)) ↔ a = b := by
 have := (@bmU a b).2
 omega
theorem baL : (decide (((a / M1 : Nat) : Int) < ((b / M1 : Nat) : Int)) || (decide (((a / M1 : Nat) : Int) = ((b / M1 : Nat) : Int)) && decide (((a % M1 : Nat) : Int) < ((b % M1 : Nat) : Int)))) = decide (a < b) := by
 rw [← Bool.decide_and, ← Bool.decide_or]
 refine bA.2 ?_
 have := (@bmU a b).1
 omega

theorem bdU (a b : Nat) (H : Heap) : ACall Tryz.prog 251 [u2 a, u2 b] H (fun y H' => y = .int .i64 (if a = b then 0 else if a < b then -1 else 1) ∧ H' = H) := by
 refine ACall.of_body Tryz.func251 rfl Tryz.ntmps251 Tryz.results251 rfl ?_
 refine .seq (.region (.e rfl (zZ (tm rfl) (.inr ⟨_, rfl⟩)) (.e rfl (zZ (tm rfl) (.inr ⟨_, rfl⟩)) (.p rfl (zA zE) (.nil ?_)))))
 refine Next.go ?_
 refine .seq (.block (.seq (.region (.p rfl (zQ G149 Z149 (tm rfl) (lB rfl)) (.p rfl (zQ G149 Z149 (tm rfl) (lB rfl)) ?_)))))
 refine .p rfl (aaC Tryz.eqGuardType149 (tm rfl) (tm rfl) (eq2 _ _ _ _)) ?_
 refine .as rfl rfl (.nil ?_)
 refine Next.go ?_
 refine AWP.cond (tm rfl) (fun hc5 => ?_) (fun hc5 => ?_)
 ·try simp only [aM] at hc5
  have hab := baM.1 hc5
  refine .seq (.region (.p rfl (zA zE) (.nil ?_)))
  refine Next.go ?_
  refine .ret ?_
  refine Block.rt ?_
  refine Next.rt ?_
  refine Ret.go (.cons (.tmp _ _ rfl) .nil) _ (hRa _) ?_
  refine ⟨?_, rfl⟩
  rw [aO hab]; rfl
 try simp only [aL] at hc5
 have hab : ¬ a = b := fun h => hc5 (baM.2 h)
 refine AWP.seqTo 9 (.bool (decide (a < b))) [4] ?_ ?_
 ·-- region 3
  refine .region (.p rfl (zD U149 rfl Z22 (tm rfl)) (.p rfl (zH G22 (tm rfl)) (.p rfl (zD U149 rfl Z22 (tm rfl)) ?_)))
  iterate 3 refine AX ?_
  refine zL (t := 15) rfl (fun hg15 => ?_) (fun hg15 => ?_)
  ·iterate 15 refine AX ?_
   exact ⟨rfl, zY rfl (by (rw [← baL, hg15]; rfl)) (zC rfl zU), rfl⟩
  refine .gp rfl rfl rfl (by assumption) (zD U149 rfl Z22 (tm rfl)) ?_
  refine AX ?_
  refine .gp rfl rfl rfl (by assumption) (zD U149 rfl Z22 (tm rfl)) ?_
  iterate 3 refine AX ?_
  refine zL (t := 21) rfl (fun hg21 => ?_) (fun hg21 => ?_)
  ·refine .gp rfl rfl rfl (by assumption) (zD U149 rfl Z22 (tm rfl)) ?_
   refine AX ?_
   refine .gp rfl rfl rfl (by assumption) (zD U149 rfl Z22 (tm rfl)) ?_
   iterate 6 refine AX ?_
   exact ⟨rfl, zY rfl (by (rw [← baL, hg15, hg21]; rfl)) (zC rfl zU), rfl⟩
  iterate 9 refine AX ?_
  exact ⟨rfl, zY rfl (by (rw [← baL, hg15, hg21]; rfl)) (zC rfl zU), rfl⟩
 refine AWP.sub [(9, _), (4, _)] sX ?_
 refine AWP.cond (tm rfl) (fun hc9 => ?_) (fun hc9 => ?_)
 ·try simp only [aM] at hc9
  iterate 9 refine AX ?_
  refine ⟨?_, rfl⟩
  rw [aN hab, aO hc9]; rfl
 try simp only [aL] at hc9
 iterate 10 refine AX ?_
 refine ⟨?_, rfl⟩
 rw [aN hab, aN (by omega)]; rfl

end
theorem dig_stop {q : Nat} (hi : q * y1 + r = u) (h1 : ¬ B ≤ q) (h : ¬ B * r + u1 < q * y0) (hy : 0 < y1 * B + y0) (hq : (u * B + u1) / (y1 * B + y0) ≤ q) : q = (u * B + u1) / (y1 * B + y0) := by
 refine Nat.le_antisymm ?_ hq
 rw [cZ hy, bY, ← hi, bP, ← bC, bD r B]
 omega
theorem dig_down {q : Nat} (hi : q * y1 + r = u) (hB : 0 < B) (hu : u < y1 * B + y0) (h1 : u1 < B) (h : B ≤ q ∨ B * r + u1 < q * y0) (hq : (u * B + u1) / (y1 * B + y0) ≤ q) :
  1 ≤ q ∧ (u * B + u1) / (y1 * B + y0) ≤ q - 1 ∧ (q - 1) * y1 + (r + y1) = u := by
 have hy : 0 < y1 * B + y0 := by omega
 have hlt : (u * B + u1) / (y1 * B + y0) < q := by
  rcases h with h | h
  ·refine bM ?_ h
   rw [bJ hy]
   have h3 := aV B (show u + 1 ≤ y1 * B + y0 from hu)
   rw [bP, cL] at h3
   rw [bD B (y1 * B + y0)]
   omega
  rw [bJ hy, bY, ← hi, bP, ← bC, bD r B]
  omega
 have hp : 1 ≤ q := aR (Nat.zero_le _) hlt
 refine ⟨hp, Nat.le_sub_one_of_lt hlt, ?_⟩
 have h5 : q * y1 = (q - 1) * y1 + y1 := by
  rw [← Nat.succ_mul, Nat.succ_eq_add_one, Nat.sub_add_cancel hp]
 omega
theorem bmQ {q : Nat} (hi : q * y1 + r = u) (hq1 : q ≤ B) (h0 : y0 ≤ B) (hr : B ≤ r) (hy : 0 < y1 * B + y0) (hq : (u * B + u1) / (y1 * B + y0) ≤ q) : q = (u * B + u1) / (y1 * B + y0) := by
 refine Nat.le_antisymm ?_ hq
 have h3 : q * y0 ≤ B * r := dZ hq1 (aZ h0 hr)
 rw [cZ hy, bY, ← hi, bP, ← bC, bD r B]
 omega
theorem bmO (hB : B ≤ 2 * y1) (h0 : y0 < B) (h1 : u1 < B) (hu : u < y1 * B + y0) : u / y1 ≤ B + 1 ∧ (u * B + u1) / (y1 * B + y0) ≤ u / y1 := by
 have hy1 : 0 < y1 := by omega
 have hy : 0 < y1 * B + y0 := by omega
 constructor
 ·refine Nat.le_of_lt_succ ?_
  rw [bJ hy1, Nat.succ_eq_add_one, bP, bP, cL, bD B y1]
  omega
 refine Nat.le_of_lt_succ ?_
 have hd := cD u y1
 have hm := bQ u hy1
 rw [bJ hy, Nat.succ_eq_add_one, bY]
 generalize u / y1 = q at *
 have e1 : (q + 1) * (y1 * B) = (y1 * q + y1) * B := by rw [← bC, bP, cL, bD q y1]
 have e2 : (u + 1) * B ≤ (y1 * q + y1) * B := aV B (by omega)
 rw [bP, cL] at e2
 omega
theorem bdC {u0 : Nat} (hY : 0 < Y) : (a * B + u0) / Y = a / Y * B + (a % Y * B + u0) / Y ∧ (a * B + u0) % Y = (a % Y * B + u0) % Y := by
 have hd := cD a Y
 have e : a * B + u0 = Y * (a / Y * B) + (a % Y * B + u0) := by
  have : a * B = Y * (a / Y * B) + a % Y * B := by
   rw [← bC, ← bP, hd]
  omega
 constructor
 ·rw [e, fR hY]
 rw [e, fQ]
theorem blH {M q : Nat} (hM : Y ≤ M) (hq : q = u / Y) (hY : 0 < Y) (ha : a % M = u % M) : (a + (M - q * Y % M)) % M = u % Y := by
 have hd := cD u Y
 have hm := bQ u hY
 have hM0 : 0 < M := bM hY hM
 rw [← hq, bD Y q] at hd
 have h1 : (a + (M - q * Y % M)) % M = (u + (M - q * Y % M)) % M := by rw [Nat.add_mod, ha, ← Nat.add_mod]
 rw [h1, ← hd]
 have hl := bQ (q * Y) hM0
 have hdm := cD (q * Y) M
 have e : q * Y + u % Y + (M - q * Y % M) = u % Y + M * (q * Y / M + 1) := by
  rw [bY, eZ]; omega
 have e3 : (q * Y + u % Y) % Y = u % Y := by rw [hd]
 rw [e3, e, dB, aW (bM hm hM)]
theorem baI {hi lo s : Nat} (hs : s ≤ 64) : (hi * 18446744073709551616 + lo) * 2 ^ s = ((hi * 2 ^ s + lo / 2 ^ (64 - s)) * 4294967296 + lo * 2 ^ s % 18446744073709551616 / 4294967296) * 4294967296 + lo * 2 ^ s % 18446744073709551616 % 4294967296 := by
 have e1 : lo / 2 ^ (64 - s) = lo * 2 ^ s / 18446744073709551616 := by
  have h64 : (18446744073709551616 : Nat) = 2 ^ (64 - s) * 2 ^ s := by rw [← bB, Nat.sub_add_cancel hs]
  rw [h64, eR _ _ (bI (by decide))]
 rw [e1, bP, Nat.mul_right_comm]
 generalize lo * 2 ^ s = a
 generalize hi * 2 ^ s = b
 omega
theorem bmH {x s u32 u0 : Nat} (hy : 0 < y) (hY : Y = y * 2 ^ s) (hU : x * 2 ^ s = (u32 * B + u1) * B + u0) :
  (u32 * B + u1) / Y * B + ((u32 * B + u1) % Y * B + u0) / Y = x / y ∧ ((u32 * B + u1) % Y * B + u0) % Y / 2 ^ s = x % y := by
 have hp : 0 < 2 ^ s := bI (by decide)
 have hY0 : 0 < Y := by rw [hY]; exact fO hy hp
 obtain ⟨h1, h2⟩ := bdC (B := B) (a := u32 * B + u1) (u0 := u0) hY0
 rw [← h1, ← h2, ← hU, hY, eR _ _ hp, fD, fC _ hp]
 exact ⟨rfl, rfl⟩
theorem or_two (h : r % 2 ^ (k + 1) = 0) : r ||| 2 ^ k = r + 2 ^ k := by
 obtain ⟨c, rfl⟩ := Nat.dvd_of_mod_eq_zero h
 rw [bD, ← Nat.shiftLeft_eq]
 exact (Nat.shiftLeft_add_eq_or_of_lt (dI (by decide) (fW k)) c).symm
theorem blR {m : Nat} (hk : 0 < k) : (m / 2 ^ (k - 1) % 2 = 1 ∨ m % 2 ^ (k - 1) ≠ 0) ↔ m % 2 ^ k ≠ 0 := by
 obtain ⟨j, rfl⟩ : ∃ j, k = j + 1 := ⟨k - 1, by omega⟩
 rw [fP, Nat.mod_pow_succ]
 have hp : 0 < 2 ^ j := bI (by decide)
 rcases Nat.mod_two_eq_zero_or_one (m / 2 ^ j) with h | h
 ·rw [h, cW, cC]; simp
 rw [h, eZ]; simp
theorem blS {m : Nat} (hk : 0 < k) : m / 2 ^ (k - 1) / 2 = m / 2 ^ k := by
 obtain ⟨j, rfl⟩ : ∃ j, k = j + 1 := ⟨k - 1, by omega⟩
 rw [fP, bU, bO]
section
open Go Go.RowKit
set_option maxRecDepth 100000

theorem asC (x : Nat) : x &&& 4294967295 = x % 4294967296 := cO x 32
theorem norm_64 (h0 : 0 < y) (h : y < 18446744073709551616) : 64 - yJ y ≤ 64 ∧ y * 2 ^ (64 - yJ y) < 18446744073709551616 ∧ 9223372036854775808 ≤ y * 2 ^ (64 - yJ y) := by
 have hb : yJ y ≤ 64 := qB.2 (cR h (by decide))
 have h1 : 0 < yJ y := aaX.2 (by rw [dC]; exact h0)
 have h2 : y < 2 ^ yJ y := qB.1 (aX _)
 have h3 : 2 ^ (yJ y - 1) ≤ y := aaX.1 (by omega)
 refine ⟨by omega, ?_, ?_⟩
 ·have := (Nat.mul_lt_mul_right (a := 2 ^ (64 - yJ y)) (bI (by decide))).2 h2
  rw [← bB, show yJ y + (64 - yJ y) = 64 by omega] at this
  exact cR this (by decide)
 have := aV (2 ^ (64 - yJ y)) h3
 rw [← bB, show yJ y - 1 + (64 - yJ y) = 63 by omega] at this
 exact aZ (by decide) this
theorem un_lt {hi lo s : Nat} (hs : s ≤ 64) (h : hi < y) (hl : lo < 18446744073709551616) : lo / 2 ^ (64 - s) < 2 ^ s ∧ hi * 2 ^ s + lo / 2 ^ (64 - s) < y * 2 ^ s := by
 have h1 : lo / 2 ^ (64 - s) < 2 ^ s := by
  rw [bJ (bI (by decide)), ← bB, show s + (64 - s) = 64 by omega]
  exact cR hl (by decide)
 have h2 := aV (2 ^ s) (show hi + 1 ≤ y from h)
 rw [bP, cL] at h2
 exact ⟨h1, by omega⟩
def bnK (u u1 y1 y0 q r : Nat) : Prop := q * y1 + r = u ∧ q ≤ 4294967297 ∧ (u * 4294967296 + u1) / (y1 * 4294967296 + y0) ≤ q ∧ r < 4294967296
theorem awZ (hy : 2147483648 ≤ y1) (hy1 : y1 < 4294967296) (h0 : y0 < 4294967296) (h1 : u1 < 4294967296) (hu : u < y1 * 4294967296 + y0) : bnK u u1 y1 y0 (u / y1) (u - u / y1 * y1) := by
 obtain ⟨a, b⟩ := bmO (B := 4294967296) (by omega) h0 h1 hu
 have hd := cD u y1
 have hm := bQ u (show 0 < y1 by omega)
 rw [bD] at hd
 exact ⟨by omega, a, b, by omega⟩
theorem bmP {q : Nat} (hk : bnK u u1 y1 y0 q r) (hy : 0 < y1 * 4294967296 + y0) (h1 : ¬ 4294967296 ≤ q) (h : ¬ 4294967296 * r + u1 < q * y0) : q = (u * 4294967296 + u1) / (y1 * 4294967296 + y0) := dig_stop hk.1 h1 h hy hk.2.2.1
theorem bdE {q : Nat} (hk : bnK u u1 y1 y0 q r) (hu : u < y1 * 4294967296 + y0) (h1 : u1 < 4294967296) (h : 4294967296 ≤ q ∨ 4294967296 * r + u1 < q * y0) : 1 ≤ q ∧ (q - 1) * y1 + (r + y1) = u ∧ (u * 4294967296 + u1) / (y1 * 4294967296 + y0) ≤ q - 1 := by
 obtain ⟨a, b, c⟩ := dig_down hk.1 (by decide) hu h1 h hk.2.2.1
 exact ⟨a, c, b⟩
theorem bmN {q : Nat} (hq : q ≤ 4294967297) (h1 : 1 ≤ q) (hn : (q - 1) * y1 + (r + y1) = u) (hb : (u * 4294967296 + u1) / (y1 * 4294967296 + y0) ≤ q - 1) (h0 : y0 < 4294967296) (hr : 4294967296 ≤ r + y1) (hy : 0 < y1 * 4294967296 + y0) : q - 1 = (u * 4294967296 + u1) / (y1 * 4294967296 + y0) := bmQ hn (by omega) (dG h0) hr hy hb
theorem dig_lt (h1 : u1 < 4294967296) (hu : u < Y) : (u * 4294967296 + u1) / Y < 4294967296 := by
 rw [bJ (by omega)]
 have := aV 4294967296 (show u + 1 ≤ Y from hu)
 rw [bP, cL, bD Y] at this
 omega
theorem blI {q : Nat} (hM : Y ≤ 18446744073709551616) (hq : q = (u * 4294967296 + u1) / Y) (hY : 0 < Y) : ((u * 4294967296 % 18446744073709551616 + u1) % 18446744073709551616 + (18446744073709551616 - q * Y % 18446744073709551616)) % 18446744073709551616 = (u * 4294967296 + u1) % Y :=
 blH hM hq hY (by omega)
theorem qy_lt {q : Nat} (h1 : q < 4294967296) (h2 : y < 4294967296) : q * y < 18446744073709551616 := aR (dZ (Nat.le_pred_of_lt h1) (Nat.le_pred_of_lt h2)) (by decide)

theorem bhQ (x : Nat) (hx : x < 18446744073709551616) (H : Heap) : ACall Tryz.prog 236 [.int .u64 (x : Int)] H (fun y H' => y = .int .i64 ((64 - yJ x : Nat) : Int) ∧ H' = H) := by
 have hb := (qB (n := x) (k := 64)).2 (cR hx (by decide))
 refine ACall.of_body Tryz.func236 rfl Tryz.ntmps236 Tryz.results236 rfl ?_
 iterate 8 refine AX ?_
 refine .cl rfl C182 (evs1 rfl) (len64A _ (by assumption) _) ?_
 iterate 6 refine AX ?_
 refine ⟨?_, rfl⟩
 simp only [yI]
 congr 1
 omega

def div_J (Y s y1 y0 u32 u1 u0 u21 q1 : Nat) (H : Heap) : Nat → Env → Heap → Prop := fun k env H1 => ∃ q r : Nat, bnK u32 u1 y1 y0 q r ∧ env = [(2, .int .u64 ((Y : Nat) : Int)), (6, .int .u64 ((0 : Nat) : Int)), (7, .int .u64 ((0 : Nat) : Int)), (8, .int .u64 ((s : Nat) : Int)), (9, .int .u64 ((y1 : Nat) : Int)), (10, .int .u64 ((y0 : Nat) : Int)), (11, .int .u64 ((u32 : Nat) : Int)), (13, .int .u64 ((u1 : Nat) : Int)), (14, .int .u64 ((u0 : Nat) : Int)), (15, .int .u64 ((q : Nat) : Int)), (16, .int .u64 ((r : Nat) : Int))] ∧ H = H1 ∧ k = q

def div_K (Y s y1 y0 u32 u1 u0 u21 q1 : Nat) (H : Heap) : Nat → Env → Heap → Prop := fun k env H1 => ∃ q r : Nat, bnK u21 u0 y1 y0 q r ∧ env = [(2, .int .u64 ((Y : Nat) : Int)), (6, .int .u64 ((0 : Nat) : Int)), (7, .int .u64 ((0 : Nat) : Int)), (8, .int .u64 ((s : Nat) : Int)), (9, .int .u64 ((y1 : Nat) : Int)), (10, .int .u64 ((y0 : Nat) : Int)), (14, .int .u64 ((u0 : Nat) : Int)), (15, .int .u64 ((q1 : Nat) : Int)), (16, .int .u64 ((r : Nat) : Int)), (17, .int .u64 ((u21 : Nat) : Int)), (18, .int .u64 ((q : Nat) : Int))] ∧ H = H1 ∧ k = q

theorem bbC (hi lo y : Nat) (hh : hi < y) (hl : lo < 18446744073709551616) (hy : y < 18446744073709551616) (H : Heap) : ACall Tryz.prog 183 [.int .u64 (hi : Int), .int .u64 (lo : Int), .int .u64 (y : Int)] H (fun z H' => z = .tuple [.int .u64 (((hi * 18446744073709551616 + lo) / y : Nat) : Int), .int .u64 (((hi * 18446744073709551616 + lo) % y : Nat) : Int)] ∧ H' = H) := by
 obtain ⟨hs64, hYlt0, hYge0⟩ := norm_64 (show 0 < y by omega) hy
 obtain ⟨s, hs⟩ : ∃ s, s = 64 - yJ y := ⟨_, rfl⟩
 rw [← hs] at hs64 hYlt0 hYge0
 obtain ⟨hlo2, hun0⟩ := un_lt hs64 hh hl
 have hhi : hi * 2 ^ s < 18446744073709551616 := cX (aR (fV _ _) hun0) hYlt0
 refine ACall.of_body Tryz.func183 rfl Tryz.ntmps183 Tryz.results183 rfl ?_
 refine .seq (.region (.p rfl (zA (zI 0)) (.p rfl (zA (zI 0)) (.nil ?_))))
 refine Next.go ?_
 refine .seq (.seq (.region (.mv rfl rfl (.p rfl (zR (tm rfl) (zI 0)) (.nil ?_)))))
 refine Next.go ?_
 refine AWP.cond_false (tm rfl) (by exact bG (by omega)) ?_
 refine .skip ?_
 refine Next.go ?_
 refine .seq (.seq (.region (.mv rfl rfl (.mv rfl rfl (.p rfl (abJ (tm rfl) (tm rfl)) (.nil ?_))))))
 refine Next.go ?_
 refine AWP.cond_false (tm rfl) (by exact bG (by omega)) ?_
 refine .skip ?_
 refine Next.go ?_
 refine .seq (.seq (.region (.mv rfl rfl (.p rfl (zR (tm rfl) (zI 0)) (.nil ?_)))))
 refine Next.go ?_
 refine AWP.cond (tm rfl) (fun hc27 => ?_) (fun hc27 => ?_)
 ·try simp only [aM] at hc27
  refine .seq ?_
  refine AWP.draw [(0, true), (1, true), (2, true), (3, true), (4, true), (5, true), (6, true), (7, true)] rfl (by decide +kernel) ?_
  refine .p rfl rfl (zJ (tm rfl)) (.p rfl rfl (zJ (tm rfl)) (.p rfl rfl (adE (tm rfl) (tm rfl) (by assumption) (by omega)) (.p rfl rfl (zJ (tm rfl)) (.p rfl rfl (zJ (tm rfl)) (.p rfl rfl (qY (tm rfl) (tm rfl) (by omega)) (.p rfl rfl (zA (tm rfl)) (.p rfl rfl (zA (tm rfl)) (.nil ?_))))))))
  refine Next.go ?_
  refine .ret ?_
  refine Next.rt ?_
  refine Ret.go (.cons (.tmp _ _ rfl) (.cons (.tmp _ _ rfl) .nil)) _ (hRa _) ?_
  refine ⟨?_, rfl⟩
  have h0 : hi = 0 := by omega
  rw [h0, dF, bW]; rfl
 try simp only [aL] at hc27
 refine .skip ?_
 refine Next.go ?_
 refine .seq (.region (.mv rfl rfl (.cl rfl Tryz.call236 (evs1 rfl) (bhQ y hy _) ?_)))
 rw [← hs]
 refine .p rfl (qM U3 U102 (tm rfl) (wrapN64 (by omega))) (.as rfl rfl (.nil ?_))
 refine Next.go ?_
 refine .seq (.region (.mv rfl rfl (.mv rfl rfl (.p rfl (qL (tm rfl) (tm rfl) (by omega) (by exact hYlt0)) (.as rfl rfl (.nil ?_))))))
 refine Next.go ?_
 refine .seq (.region (.mv rfl rfl (.p rfl (yF (tm rfl) (zI 32) (by assumption)) (.as rfl rfl (.nil ?_)))))
 refine Next.go ?_
 refine .seq (.region (.mv rfl rfl (.p rfl (aaN (tm rfl) (zI 4294967295) (by assumption) (by omega)) (.as rfl rfl (.nil ?_)))))
 refine Next.go ?_
 refine .seq (.region (.mv rfl rfl (.mv rfl rfl (.p rfl (qL (tm rfl) (tm rfl) (by omega) (by exact hhi)) (.mv rfl rfl (.mv rfl rfl (.p rfl (abI (zI 64) (tm rfl) (by omega) (by omega)) (.p rfl (yF (tm rfl) (tm rfl) (by assumption)) ?_))))))))
 refine .p rfl (abC (tm rfl) (tm rfl) (by assumption) (by omega)) (.as rfl rfl (.nil ?_))
 refine Next.go ?_
 refine .seq (.region (.mv rfl rfl (.mv rfl rfl (.p rfl (arA (tm rfl) (tm rfl)) (.as rfl rfl (.nil ?_))))))
 refine Next.go ?_
 refine .seq (.region (.mv rfl rfl (.p rfl (yF (tm rfl) (zI 32) (by omega)) (.as rfl rfl (.nil ?_)))))
 refine Next.go ?_
 refine .seq (.region (.mv rfl rfl (.p rfl (aaN (tm rfl) (zI 4294967295) (by omega) (by omega)) (.as rfl rfl (.nil ?_)))))
 refine Next.go ?_
 refine .seq ?_
 have hor : (hi * 2 ^ s ||| lo / 2 ^ (64 - s)) = hi * 2 ^ s + lo / 2 ^ (64 - s) := ahN hlo2
 have hdv := baI (hi := hi) (lo := lo) hs64
 rw [hor, asC, asC]
 have hpw : (2 : Nat) ^ 32 = 4294967296 := by decide
 rw [hpw]
 obtain ⟨Y, hY⟩ : ∃ Y, Y = y * 2 ^ s := ⟨_, rfl⟩
 obtain ⟨u32, hU⟩ : ∃ u, u = hi * 2 ^ s + lo / 2 ^ (64 - s) := ⟨_, rfl⟩
 obtain ⟨un, hn⟩ : ∃ u, u = lo * 2 ^ s % 18446744073709551616 := ⟨_, rfl⟩
 rw [← hY, ← hU, ← hn]
 rw [← hn, ← hU] at hdv
 rw [← hY, ← hU] at hun0
 rw [← hY] at hYlt0 hYge0
 have hun64 : un < 18446744073709551616 := by rw [hn]; exact bQ _ (by decide)
 obtain ⟨y1, hy1⟩ : ∃ v, v = Y / 4294967296 := ⟨_, rfl⟩
 obtain ⟨y0, hy0⟩ : ∃ v, v = Y % 4294967296 := ⟨_, rfl⟩
 obtain ⟨u1, hu1⟩ : ∃ v, v = un / 4294967296 := ⟨_, rfl⟩
 obtain ⟨u0, hu0⟩ : ∃ v, v = un % 4294967296 := ⟨_, rfl⟩
 rw [← hy1, ← hy0, ← hu1, ← hu0]
 rw [← hu1, ← hu0] at hdv
 have hYs : Y = y1 * 4294967296 + y0 := by omega
 have hly0 : y0 < 4294967296 := by omega
 have hly1 : 2147483648 ≤ y1 ∧ y1 < 4294967296 := by omega
 have hlu1 : u1 < 4294967296 := by omega
 have hlu0 : u0 < 4294967296 := by omega
 have hu64 : u32 < 18446744073709551616 := by omega
 have hY0 : 0 < y1 * 4294967296 + y0 := by omega
 have hu32 : u32 < Y := hun0
 have hbeg := awZ hly1.1 hly1.2 hly0 hlu1 (by rw [← hYs]; exact hu32)
 have hyp : 0 < y := by omega
 clear hun64 hhi hor
 refine .region (.mv rfl rfl (.mv rfl rfl (.p rfl (adE (tm rfl) (tm rfl) (by assumption) (by omega)) (.as rfl rfl (.nil ?_)))))
 refine Next.go ?_
 refine .seq (.region (.mv rfl rfl (.mv rfl rfl (.mv rfl rfl (.p rfl (aaR (tm rfl) (tm rfl) (by exact aR (eD _ _) hu64)) (.p rfl (abI (tm rfl) (tm rfl) (eD _ _) (hu64)) (.as rfl rfl (.nil ?_))))))))
 refine Next.go ?_
 refine AWP.meet (fun env H2 => env = [(2, .int .u64 ((Y : Nat) : Int)), (6, .int .u64 ((0 : Nat) : Int)), (7, .int .u64 ((0 : Nat) : Int)), (8, .int .u64 ((s : Nat) : Int)), (9, .int .u64 ((y1 : Nat) : Int)), (10, .int .u64 ((y0 : Nat) : Int)), (11, .int .u64 ((u32 : Nat) : Int)), (13, .int .u64 ((u1 : Nat) : Int)), (14, .int .u64 ((u0 : Nat) : Int)), (15, .int .u64 (((u32 * 4294967296 + u1) / Y : Nat) : Int))] ∧ H = H2) ?_ ?_
 ·refine .block ?_
  refine AWP.loopW (div_J Y s y1 y0 u32 u1 u0 0 0 H) (u32 / y1) ⟨u32 / y1, u32 - u32 / y1 * y1, hbeg, rfl, rfl, rfl⟩ sX (hRa _) ?_
  rintro _ _ _ ⟨q, r, hdig, rfl, rfl, hk⟩
  have hdd := hdig
  obtain ⟨he1, he2, he3, he4⟩ := hdd
  refine .seq ?_
  refine AWP.seqTo 78 (.bool (decide (((4294967296 : Nat) : Int) ≤ (q : Int)) || decide (((4294967296 * r + u1 : Nat) : Int) < ((q * y0 : Nat) : Int)))) [2, 6, 7, 8, 9, 10, 11, 13, 14, 15, 16] ?_ ?_
  ·-- region 17
   refine .region (.mv rfl rfl (.p rfl (yS (tm rfl) (zI 4294967296)) (.mv rfl rfl ?_)))
   refine zL (t := 69) rfl (fun hg69 => ?_) (fun hg69 => ?_)
   ·have hh69 := hg69; try simp only [aM] at hh69
    refine .gn rfl rfl rfl (by assumption) (.gn rfl rfl rfl (by assumption) (.gn rfl rfl rfl (by assumption) (.gn rfl rfl rfl (by assumption) (.gn rfl rfl rfl (by assumption) (.gn rfl rfl rfl (by assumption) (.gn rfl rfl rfl (by assumption) (.gn rfl rfl rfl (by assumption) (.p rfl (zO (tm rfl) (by assumption) zM) ?_))))))))
    refine .nil ?_
    exact ⟨rfl, zY rfl (by (rw [hg69]; rfl)) sX, rfl⟩
   have hh69 := hg69; try simp only [aL, cA] at hh69
   refine .gp rfl rfl rfl (by assumption) (zJ (tm rfl)) (.gp rfl rfl rfl (by assumption) (zJ (tm rfl)) (.gp rfl rfl rfl (by assumption) (aaR (tm rfl) (tm rfl) (by exact qy_lt (by omega) hly0)) (.gp rfl rfl rfl (by assumption) (zJ (tm rfl)) (.gp rfl rfl rfl (by assumption) (aaR (zI 4294967296) (tm rfl) (by omega)) (.gp rfl rfl rfl (by assumption) (zJ (tm rfl)) (.gp rfl rfl rfl (by assumption) (yR (tm rfl) (tm rfl) (by omega)) (.gp rfl rfl rfl (by assumption) (yC (tm rfl) (tm rfl)) (.p rfl (zN (tm rfl) (by assumption) (tm rfl)) ?_))))))))
   refine .nil ?_
   exact ⟨rfl, zY rfl (by (rw [hg69]; rfl)) sX, rfl⟩
  refine AWP.sub [(78, _), (2, _), (6, _), (7, _), (8, _), (9, _), (10, _), (11, _), (13, _), (14, _), (15, _), (16, _)] sX ?_
  refine AWP.cond (tm rfl) (fun hc78 => ?_) (fun hc78 => ?_)
  ·try simp only [aK] at hc78
   have hcq : 4294967296 ≤ q ∨ 4294967296 * r + u1 < q * y0 := by simp only [cV, aM] at hc78; rcases hc78 with h | h; exact .inl (by exact_mod_cast h); exact .inr (by exact_mod_cast h)
   obtain ⟨hq1, hqn, hqb⟩ := bdE hdig (by rw [← hYs]; exact hu32) hlu1 hcq
   obtain ⟨hd1, hd2, hd3, hd4⟩ := hdig
   refine .skip ?_
   refine Next.go ?_
   refine .block (.seq (.region (.mv rfl rfl (.p rfl (abI (tm rfl) (zI 1) (by omega) (by omega)) (.as rfl rfl (.nil ?_))))))
   refine Next.go ?_
   refine .seq (.region (.mv rfl rfl (.mv rfl rfl (.p rfl (yR (tm rfl) (tm rfl) (by omega)) (.as rfl rfl (.nil ?_))))))
   refine Next.go ?_
   refine .seq (.region (.mv rfl rfl (.p rfl (yS (tm rfl) (zI 4294967296)) (.nil ?_))))
   refine Next.go ?_
   refine AWP.cond (tm rfl) (fun hc85 => ?_) (fun hc85 => ?_)
   ·try simp only [aM] at hc85
    refine .exit ?_
    refine Block.miss rfl ?_
    refine Next.ex ?_
    refine Block.hit ?_
    refine Next.go ?_
    refine Meets.mk (M := fun env H2 => env = [(2, .int .u64 ((Y : Nat) : Int)), (6, .int .u64 ((0 : Nat) : Int)), (7, .int .u64 ((0 : Nat) : Int)), (8, .int .u64 ((s : Nat) : Int)), (9, .int .u64 ((y1 : Nat) : Int)), (10, .int .u64 ((y0 : Nat) : Int)), (11, .int .u64 ((u32 : Nat) : Int)), (13, .int .u64 ((u1 : Nat) : Int)), (14, .int .u64 ((u0 : Nat) : Int)), (15, .int .u64 (((u32 * 4294967296 + u1) / Y : Nat) : Int))] ∧ H = H2) ⟨rfl, rfl⟩ (zC rfl (zC rfl (zC rfl (zC rfl (zC rfl (zC rfl (zC rfl (zC rfl (zC rfl (zX rfl (by rw [hYs, ← bmN hd2 hq1 hqn hqb hly0 (by omega) hY0]) zU)))))))))) (hRa _)
   try simp only [aL, cA] at hc85
   refine .skip ?_
   refine Block.go ?_
   refine Next.go ?_
   refine Round.mk (J := div_J Y s y1 y0 u32 u1 u0 0 0 H) ⟨q - 1, r + y1, ⟨hqn, by omega, hqb, by omega⟩, rfl, rfl, rfl⟩ sX (hRa _) (by omega)
  try simp only [aK] at hc78
  have hcq : ¬ 4294967296 ≤ q ∧ ¬ 4294967296 * r + u1 < q * y0 := by simp only [cP, aL] at hc78; exact ⟨fun h => hc78.1 (by exact_mod_cast h), fun h => hc78.2 (by exact_mod_cast h)⟩
  refine .exit ?_
  refine Next.ex ?_
  refine Next.ex ?_
  refine Block.hit ?_
  refine Next.go ?_
  refine Meets.mk (M := fun env H2 => env = [(2, .int .u64 ((Y : Nat) : Int)), (6, .int .u64 ((0 : Nat) : Int)), (7, .int .u64 ((0 : Nat) : Int)), (8, .int .u64 ((s : Nat) : Int)), (9, .int .u64 ((y1 : Nat) : Int)), (10, .int .u64 ((y0 : Nat) : Int)), (11, .int .u64 ((u32 : Nat) : Int)), (13, .int .u64 ((u1 : Nat) : Int)), (14, .int .u64 ((u0 : Nat) : Int)), (15, .int .u64 (((u32 * 4294967296 + u1) / Y : Nat) : Int))] ∧ H = H2) ⟨rfl, rfl⟩ (zC rfl (zC rfl (zC rfl (zC rfl (zC rfl (zC rfl (zC rfl (zC rfl (zC rfl (zX rfl (by rw [hYs, ← bmP hdig hY0 hcq.1 hcq.2]) zU)))))))))) (hRa _)
 rintro _ _ ⟨rfl, rfl⟩
 refine .seq (.region (.mv rfl rfl (.p rfl (aeR (tm rfl) (zI 4294967296)) (.mv rfl rfl (.p rfl (aiZ (tm rfl) (tm rfl)) (.mv rfl rfl (.mv rfl rfl (.p rfl (aeR (tm rfl) (tm rfl)) ?_))))))))
 refine .p rfl (aiX (tm rfl) (tm rfl) (by omega)) (.as rfl rfl (.nil ?_))
 refine Next.go ?_
 refine .seq ?_
 rw [blI (by omega) rfl (by omega)]
 obtain ⟨u21, hu21e⟩ : ∃ u, u = (u32 * 4294967296 + u1) % Y := ⟨_, rfl⟩
 obtain ⟨q1, hq1e⟩ : ∃ u, u = (u32 * 4294967296 + u1) / Y := ⟨_, rfl⟩
 have hq1l : q1 < 4294967296 := by rw [hq1e]; exact dig_lt hlu1 hu32
 have hu21 : u21 < Y := by rw [hu21e]; exact bQ _ (by omega)
 have hu21b : u21 < 18446744073709551616 := by omega
 rw [← hu21e, ← hq1e]
 have hbeg2 := awZ hly1.1 hly1.2 hly0 hlu0 (by rw [← hYs]; exact hu21)
 refine .region (.mv rfl rfl (.mv rfl rfl (.p rfl (adE (tm rfl) (tm rfl) (by assumption) (by omega)) (.as rfl rfl (.nil ?_)))))
 refine Next.go ?_
 refine .seq (.region (.mv rfl rfl (.mv rfl rfl (.mv rfl rfl (.p rfl (aaR (tm rfl) (tm rfl) (by exact aR (eD _ _) hu21b)) (.p rfl (abI (tm rfl) (tm rfl) (eD _ _) (hu21b)) (.as rfl rfl (.nil ?_))))))))
 refine Next.go ?_
 refine AWP.meet (fun env H2 => env = [(2, .int .u64 ((Y : Nat) : Int)), (6, .int .u64 ((0 : Nat) : Int)), (7, .int .u64 ((0 : Nat) : Int)), (8, .int .u64 ((s : Nat) : Int)), (14, .int .u64 ((u0 : Nat) : Int)), (15, .int .u64 ((q1 : Nat) : Int)), (17, .int .u64 ((u21 : Nat) : Int)), (18, .int .u64 (((u21 * 4294967296 + u0) / Y : Nat) : Int))] ∧ H = H2) ?_ ?_
 ·refine .block ?_
  refine AWP.loopW (div_K Y s y1 y0 u32 u1 u0 u21 q1 H) (u21 / y1) ⟨u21 / y1, u21 - u21 / y1 * y1, hbeg2, rfl, rfl, rfl⟩ sX (hRa _) ?_
  rintro _ _ _ ⟨q, r, hdig, rfl, rfl, hk⟩
  have hdd := hdig
  obtain ⟨he1, he2, he3, he4⟩ := hdd
  refine .seq ?_
  refine AWP.seqTo 113 (.bool (decide (((4294967296 : Nat) : Int) ≤ (q : Int)) || decide (((4294967296 * r + u0 : Nat) : Int) < ((q * y0 : Nat) : Int)))) [2, 6, 7, 8, 9, 10, 14, 15, 16, 17, 18] ?_ ?_
  ·-- region 24
   refine .region (.mv rfl rfl (.p rfl (yS (tm rfl) (zI 4294967296)) (.mv rfl rfl ?_)))
   refine zL (t := 104) rfl (fun hg104 => ?_) (fun hg104 => ?_)
   ·have hh104 := hg104; try simp only [aM] at hh104
    refine .gn rfl rfl rfl (by assumption) (.gn rfl rfl rfl (by assumption) (.gn rfl rfl rfl (by assumption) (.gn rfl rfl rfl (by assumption) (.gn rfl rfl rfl (by assumption) (.gn rfl rfl rfl (by assumption) (.gn rfl rfl rfl (by assumption) (.gn rfl rfl rfl (by assumption) (.p rfl (zO (tm rfl) (by assumption) zM) ?_))))))))
    refine .nil ?_
    exact ⟨rfl, zY rfl (by (rw [hg104]; rfl)) sX, rfl⟩
   have hh104 := hg104; try simp only [aL, cA] at hh104
   refine .gp rfl rfl rfl (by assumption) (zJ (tm rfl)) (.gp rfl rfl rfl (by assumption) (zJ (tm rfl)) (.gp rfl rfl rfl (by assumption) (aaR (tm rfl) (tm rfl) (by exact qy_lt (by omega) hly0)) (.gp rfl rfl rfl (by assumption) (zJ (tm rfl)) (.gp rfl rfl rfl (by assumption) (aaR (zI 4294967296) (tm rfl) (by omega)) (.gp rfl rfl rfl (by assumption) (zJ (tm rfl)) (.gp rfl rfl rfl (by assumption) (yR (tm rfl) (tm rfl) (by omega)) (.gp rfl rfl rfl (by assumption) (yC (tm rfl) (tm rfl)) (.p rfl (zN (tm rfl) (by assumption) (tm rfl)) ?_))))))))
   refine .nil ?_
   exact ⟨rfl, zY rfl (by (rw [hg104]; rfl)) sX, rfl⟩
  refine AWP.sub [(113, _), (2, _), (6, _), (7, _), (8, _), (9, _), (10, _), (14, _), (15, _), (16, _), (17, _), (18, _)] sX ?_
  refine AWP.cond (tm rfl) (fun hc113 => ?_) (fun hc113 => ?_)
  ·try simp only [aK] at hc113
   have hcq : 4294967296 ≤ q ∨ 4294967296 * r + u0 < q * y0 := by simp only [cV, aM] at hc113; rcases hc113 with h | h; exact .inl (by exact_mod_cast h); exact .inr (by exact_mod_cast h)
   obtain ⟨hq1, hqn, hqb⟩ := bdE hdig (by rw [← hYs]; exact hu21) hlu0 hcq
   obtain ⟨hd1, hd2, hd3, hd4⟩ := hdig
   refine .skip ?_
   refine Next.go ?_
   refine .block (.seq (.region (.mv rfl rfl (.p rfl (abI (tm rfl) (zI 1) (by omega) (by omega)) (.as rfl rfl (.nil ?_))))))
   refine Next.go ?_
   refine .seq (.region (.mv rfl rfl (.mv rfl rfl (.p rfl (yR (tm rfl) (tm rfl) (by omega)) (.as rfl rfl (.nil ?_))))))
   refine Next.go ?_
   refine .seq (.region (.mv rfl rfl (.p rfl (yS (tm rfl) (zI 4294967296)) (.nil ?_))))
   refine Next.go ?_
   refine AWP.cond (tm rfl) (fun hc120 => ?_) (fun hc120 => ?_)
   ·try simp only [aM] at hc120
    refine .exit ?_
    refine Block.miss rfl ?_
    refine Next.ex ?_
    refine Block.hit ?_
    refine Next.go ?_
    refine Meets.mk (M := fun env H2 => env = [(2, .int .u64 ((Y : Nat) : Int)), (6, .int .u64 ((0 : Nat) : Int)), (7, .int .u64 ((0 : Nat) : Int)), (8, .int .u64 ((s : Nat) : Int)), (14, .int .u64 ((u0 : Nat) : Int)), (15, .int .u64 ((q1 : Nat) : Int)), (17, .int .u64 ((u21 : Nat) : Int)), (18, .int .u64 (((u21 * 4294967296 + u0) / Y : Nat) : Int))] ∧ H = H2) ⟨rfl, rfl⟩ (zC rfl (zC rfl (zC rfl (zC rfl (zC rfl (zC rfl (zC rfl (zX rfl (by rw [hYs, ← bmN hd2 hq1 hqn hqb hly0 (by omega) hY0]) zU)))))))) (hRa _)
   try simp only [aL, cA] at hc120
   refine .skip ?_
   refine Block.go ?_
   refine Next.go ?_
   refine Round.mk (J := div_K Y s y1 y0 u32 u1 u0 u21 q1 H) ⟨q - 1, r + y1, ⟨hqn, by omega, hqb, by omega⟩, rfl, rfl, rfl⟩ sX (hRa _) (by omega)
  try simp only [aK] at hc113
  have hcq : ¬ 4294967296 ≤ q ∧ ¬ 4294967296 * r + u0 < q * y0 := by simp only [cP, aL] at hc113; exact ⟨fun h => hc113.1 (by exact_mod_cast h), fun h => hc113.2 (by exact_mod_cast h)⟩
  refine .exit ?_
  refine Next.ex ?_
  refine Next.ex ?_
  refine Block.hit ?_
  refine Next.go ?_
  refine Meets.mk (M := fun env H2 => env = [(2, .int .u64 ((Y : Nat) : Int)), (6, .int .u64 ((0 : Nat) : Int)), (7, .int .u64 ((0 : Nat) : Int)), (8, .int .u64 ((s : Nat) : Int)), (14, .int .u64 ((u0 : Nat) : Int)), (15, .int .u64 ((q1 : Nat) : Int)), (17, .int .u64 ((u21 : Nat) : Int)), (18, .int .u64 (((u21 * 4294967296 + u0) / Y : Nat) : Int))] ∧ H = H2) ⟨rfl, rfl⟩ (zC rfl (zC rfl (zC rfl (zC rfl (zC rfl (zC rfl (zC rfl (zX rfl (by rw [hYs, ← bmP hdig hY0 hcq.1 hcq.2]) zU)))))))) (hRa _)
 rintro _ _ ⟨rfl, rfl⟩
 refine .seq ?_
 have hq0l : (u21 * 4294967296 + u0) / Y < 4294967296 := dig_lt hlu0 hu21
 refine .region (.mv rfl rfl (.p rfl (aaR (tm rfl) (zI 4294967296) (by omega)) (.mv rfl rfl (.p rfl (yR (tm rfl) (tm rfl) (by omega)) (.mv rfl rfl (.p rfl (aeR (tm rfl) (zI 4294967296)) (.mv rfl rfl (.p rfl (aiZ (tm rfl) (tm rfl)) ?_))))))))
 refine .mv rfl rfl (.mv rfl rfl (.p rfl (aeR (tm rfl) (tm rfl)) (.p rfl (aiX (tm rfl) (tm rfl) (by omega)) (.mv rfl rfl (.p rfl (yF (tm rfl) (tm rfl) (by exact bQ _ (by decide))) ?_)))))
 iterate 6 refine AX ?_
 refine ⟨?_, rfl⟩
 rw [blI (by omega) rfl (by omega)]
 obtain ⟨e1, e2⟩ := bmH (B := 4294967296) hyp hY hdv
 rw [hq1e, hu21e, e1, e2]; rfl

end
end Go.Proofs.YtmmgbnolccpjoaaGreatDoor
