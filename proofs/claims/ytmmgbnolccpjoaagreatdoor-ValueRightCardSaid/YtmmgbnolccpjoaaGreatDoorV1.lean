import Derived.Test.YtmmgbnolccpjoaaGreatDoorYd
import Derived.Test.YtmmgbnolccpjoaaGreatDoorP1
import Derived.Shelf.Spec.BitsCarry
import Derived.Test.YtmmgbnolccpjoaaGreatDoorSsk
import Derived.Test.YtmmgbnolccpjoaaGreatDoorP2
namespace Go.Proofs.YtmmgbnolccpjoaaGreatDoor
open Go Go.RowKit

theorem shl_big {v n : Nat} (h1 : 64 ≤ n) : v * 2 ^ n % M2 / M1 = v % M1 * 2 ^ (n - 64) % M1 ∧ v * 2 ^ n % M2 % M1 = 0 := by
 have e : v * 2 ^ n = M1 * (v * 2 ^ (n - 64)) := by
  rw [adF, Nat.mul_left_comm, ← Nat.pow_add, show 64 + (n - 64) = n by omega]
 have h0 : 0 < M1 := by decide
 rw [e, awO, Nat.mul_mod_mul_left, Nat.mul_div_cancel_left _ h0, Nat.mul_mod_right]
 refine ⟨?_, rfl⟩
 have q1 := Nat.mul_mod v (2 ^ (n - 64)) M1
 have q2 := Nat.mul_mod (v % M1) (2 ^ (n - 64)) M1
 rw [Nat.mod_mod] at q2
 exact q1.trans q2.symm
theorem sub_lo {a b : Nat} (hb : b < M2) : (a + M2 - b) % M2 % M1 = (a % M1 + M1 - b % M1 - 0) % M1 := by
 unfold M1 M2 at *
 omega
theorem sub_hi {a b : Nat} (ha : a < M2) (hb : b < M2) : (a + M2 - b) % M2 / M1 = (a / M1 + M1 - b / M1 - (if a % M1 < b % M1 + 0 then 1 else 0)) % M1 := by
 unfold M1 M2 at *
 split <;> omega
theorem bdD {a b : Nat} (ha : a < M2) (hb : b < M2) : ((if a / M1 < b / M1 + (if a % M1 < b % M1 + 0 then 1 else 0) then 1 else 0 : Nat) = 1 ↔ a < b) := by
 unfold M1 M2 at *
 by_cases p : a % 18446744073709551616 < b % 18446744073709551616 + 0
 ·rw [if_pos p]
  by_cases q : a / 18446744073709551616 < b / 18446744073709551616 + 1
  ·rw [if_pos q]; omega
  ·rw [if_neg q]; omega
 ·rw [if_neg p]
  by_cases q : a / 18446744073709551616 < b / 18446744073709551616 + 0
  ·rw [if_pos q]; omega
  ·rw [if_neg q]; omega
theorem bgS {a b : Nat} : (a / M1 < b / M1 ∨ (a / M1 = b / M1 ∧ a % M1 < b % M1) ↔ a < b) ∧ (a / M1 = b / M1 ∧ a % M1 = b % M1 ↔ a = b) := by
 unfold M1
 omega
section
open Go Go.RowKit Go.Shelf

theorem ext292 : IsExt Tryz.prog 292 sub64Entry := ⟨_, Tryz.func292, by kernel_rfl, by kernel_rfl, by kernel_rfl, by kernel_rfl⟩
theorem asZ {x y c : Nat} (hc : c ≤ 1) : ∀ g vs w, RelVs g [.int .u64 (x : Int), .int .u64 (y : Int), .int .u64 (c : Int)] vs → ∃ v, (sub64Entry vs.toArray).run Tryz.prog w = .ok v w ∧ RelV g (.tuple [.int .u64 (((x + 18446744073709551616 - y - c) % 18446744073709551616 : Nat) : Int), .int .u64 ((if x < y + c then 1 else 0 : Nat) : Int)]) v := by
 intro g vs w hr
 obtain ⟨v, u, z, rfl, h1, h2, h3⟩ := relvs3 hr
 cases h1; cases h2; cases h3
 have hrun := run_sub64 (P := Tryz.prog) x y c hc w
 refine ⟨_, hrun, .tuple _ _ rfl (fun i c v hc hv => ?_)⟩
 match i with
 | 0 => cases hc; cases hv; exact .int _ _
 | 1 => cases hc; cases hv; exact .int _ _
 | i + 2 => simp at hc
theorem bbB {x y : Nat} : ∀ g vs w, RelVs g [.int .u64 (x : Int), .int .u64 (y : Int), .int .u64 ((0 : Nat) : Int)] vs → ∃ v, (sub64Entry vs.toArray).run Tryz.prog w = .ok v w ∧ RelV g (.tuple [.int .u64 (((x + 18446744073709551616 - y - 0) % 18446744073709551616 : Nat) : Int), .int .u64 ((if x < y + 0 then 1 else 0 : Nat) : Int)]) v := @asZ x y 0 (by decide)
end
theorem eqIn2 (d : Nat) (a b a2 b2 : Int) (w : World) : (Op.equalIn (d + 2) 149 (.agg #[.int .u64 a, .int .u64 b]) (.agg #[.int .u64 a2, .int .u64 b2])).run Tryz.prog w = .ok (decide (a = a2 ∧ b = b2)) w := by
 have u3 := Tryz.underlying22
 have a3 := Tryz.isAgg22
 have z3 := Tryz.sizeOf22
 have hS : Tryz.prog.underlying 149 = some (.struct (Tryz.prog.fieldsOf 149)) := by kernel_rfl
 have hp : Tryz.prog.stoodInHeld 149 = false := by kernel_rfl
 rw [run_equalIn_agg w (d + 1) 149 _ _ hS hp]
 simp only [Program.fieldsOf, Tryz.underlying149]
 go_simp
 by_cases h1 : a = a2 <;> by_cases h2 : b = b2 <;> simp [h1, h2]
theorem eq2 (a b a2 b2 : Int) : amN Tryz.prog 149 [.int .u64 a, .int .u64 b] [.int .u64 a2, .int .u64 b2] (decide (a = a2 ∧ b = b2)) := fun g xs ys w h k => by
 rw [h.plain [.int .u64 a, .int .u64 b] rfl, k.plain [.int .u64 a2, .int .u64 b2] rfl]; exact eqIn2 9998 a b a2 b2 w
theorem one_iff {p : Prop} [Decidable p] : (((0 : Nat) : Int) < ((if p then 1 else 0 : Nat) : Int)) ↔ (if p then 1 else 0 : Nat) = 1 := by
 by_cases h : p
 ·rw [if_pos h]; decide
 ·rw [if_neg h]; decide
theorem sub_bool {a b : Nat} (ha : a < M2) (hb : b < M2) : decide (((0 : Nat) : Int) < ((if a / M1 < b / M1 + (if a % M1 < b % M1 + 0 then 1 else 0) then 1 else 0 : Nat) : Int)) = decide (a < b) := decide_eq_decide.2 (one_iff.trans (bdD ha hb))
theorem subc_le (x y : Nat) : (if x < y + 0 then 1 else 0 : Nat) ≤ 1 := by split <;> omega

set_option maxRecDepth 100000 in
theorem anB (a b : Nat) (ha : a < M2) (hb : b < M2) (H : Heap) : ACall Tryz.prog 244 [u2 a, u2 b] H (fun y H' => y = .tuple [u2 ((a + M2 - b) % M2), .bool (decide (a < b))] ∧ H' = H) := by
 refine ACall.of_body Tryz.func244 rfl Tryz.ntmps244 Tryz.results244 rfl ?_
 iterate 2 refine AX ?_
 refine .e rfl (zO (tm rfl) (.inr ⟨_, rfl⟩)) (.e rfl (zO (tm rfl) (.inr ⟨_, rfl⟩)) (.s rfl (zG Tryz.zeroValue149 (zr149)) ?_))
 rintro _ _ ⟨b4, hb4, rfl, hH⟩
 obtain rfl := hH.symm
 iterate 5 refine AX ?_
 refine .p rfl (zA Tryz.underlying149 rfl Tryz.sizeOf22 (tm rfl)) ?_
 refine AX ?_
 refine .p rfl (zA Tryz.underlying149 rfl Tryz.sizeOf22 (tm rfl)) ?_
 refine AX ?_
 refine AList.ext rfl ext292 (.cons (tm rfl) (.cons (tm rfl) (.cons (zE 0) .nil))) (bbB) ?_
 iterate 9 refine AX ?_
 refine .p rfl (zA Tryz.underlying149 rfl Tryz.sizeOf22 (tm rfl)) ?_
 refine AX ?_
 refine .p rfl (zA Tryz.underlying149 rfl Tryz.sizeOf22 (tm rfl)) ?_
 iterate 2 refine AX ?_
 refine AList.ext rfl ext292 (evs3 rfl rfl rfl) (asZ (x := a / M1) (y := b / M1) (c := (if a % M1 < b % M1 + 0 then 1 else 0)) (subc_le _ _)) ?_
 iterate 11 refine AX ?_
 refine .p rfl (zL [(0, 1), (1, 1)] Tryz.underlying149 Tryz.zeroValue149 (zr149) rfl (pl149 _ Tryz.underlying149) (.cons (tm rfl) (.inl rfl) (.cons (tm rfl) (.inl rfl) .nil)) rfl) ?_
 refine AX ?_
 refine .p rfl (yQ (tm rfl) (zE 0)) (.e0 (zB Tryz.sizeOf149 (tm rfl) (tm rfl) rfl rfl (.inr ⟨_, rfl⟩) (Heap.objs_set_same _ _ _) (Nat.le_of_ble_eq_true rfl)) ?_)
 try first | rw [Heap.set_set] | rw [Heap.set_under (by assumption)]
 iterate 3 refine AX ?_
 refine AWP.frz (t := 4) rfl (hb4) ?_
 refine AX ?_
 refine Ret.go (.cons (.cellI _ _ _ _ rfl Tryz.isAgg149 Tryz.sizeOf149 rfl) (.cons (.tmp _ _ rfl) .nil)) _ (Heap.le.refl _) ?_
 refine ⟨?_, rfl⟩
 rw [← sub_bool ha hb]
 unfold u2 w2
 rw [sub_hi ha hb, sub_lo hb]
 rfl

set_option maxRecDepth 100000 in
theorem atV (v : Nat) (n : Nat) (hn : 64 ≤ n ∧ n < 128) (q : Int) (hq : q = (n : Int)) (H : Heap) : ACall Tryz.prog 187 [u2 v, .int .i64 q] H (fun y H' => y = u2 (v * 2 ^ n % M2) ∧ H' = H) := by
 subst hq
 refine ACall.of_body Tryz.func187 rfl Tryz.ntmps187 Tryz.results187 rfl ?_
 iterate 2 refine AX ?_
 refine .e rfl (zO (tm rfl) (.inr ⟨_, rfl⟩)) (.s rfl (zG Tryz.zeroValue149 (zr149)) ?_)
 rintro _ _ ⟨b4, hb4, rfl, hH⟩
 obtain rfl := hH.symm
 iterate 11 refine AX ?_
 rw [show asQ (n : Int) 0 = (n : Int) by simp only [asQ]; split <;> omega]
 iterate 5 refine AX ?_
 refine AWP.cond_true (tm rfl) (by exact decide_eq_true (by omega)) ?_
 iterate 2 refine AX ?_
 refine .p rfl (zA Tryz.underlying149 rfl Tryz.sizeOf22 (tm rfl)) ?_
 iterate 3 refine AX ?_
 refine .p rfl (.as (b := .int .i64 ((n - 64 : Nat) : Int)) (by simp only [bcH]; split <;> (congr 1; omega)) (arU (tm rfl) zI)) ?_
 refine AX ?_
 refine .p rfl (zL [(0, 1), (1, 1)] Tryz.underlying149 Tryz.zeroValue149 (zr149) rfl (pl149 _ Tryz.underlying149) (.cons (tm rfl) (.inl rfl) (.cons (zE 0) (.inl rfl) .nil)) rfl) (.e0 (zB Tryz.sizeOf149 (tm rfl) (tm rfl) rfl rfl (.inr ⟨_, rfl⟩) (Heap.objs_set_same _ _ _) (Nat.le_of_ble_eq_true rfl)) ?_)
 try first | rw [Heap.set_set] | rw [Heap.set_under (by assumption)]
 iterate 2 refine AX ?_
 refine AWP.frz (t := 4) rfl (hb4) ?_
 iterate 2 refine AX ?_
 refine Ret.go (.cons (.cellI _ _ _ _ rfl Tryz.isAgg149 Tryz.sizeOf149 rfl) .nil) _ (Heap.le.refl _) ?_
 refine ⟨?_, rfl⟩
 obtain ⟨e1, e2⟩ := shl_big (v := v) hn.1
 unfold u2 w2
 rw [e1, e2]
 rfl

theorem awA {a b : Nat} : (((a / M1 : Nat) : Int) = ((b / M1 : Nat) : Int) ∧ ((a % M1 : Nat) : Int) = ((b % M1 : Nat) : Int)) ↔ a = b := by
 have := (@bgS a b).2
 omega
theorem avZ {a b : Nat} : (decide (((a / M1 : Nat) : Int) < ((b / M1 : Nat) : Int)) || (decide (((a / M1 : Nat) : Int) = ((b / M1 : Nat) : Int)) && decide (((a % M1 : Nat) : Int) < ((b % M1 : Nat) : Int)))) = decide (a < b) := by
 rw [← Bool.decide_and, ← Bool.decide_or]
 refine decide_eq_decide.2 ?_
 have := (@bgS a b).1
 omega

set_option maxRecDepth 100000 in
theorem ayS (a b : Nat) (H : Heap) : ACall Tryz.prog 251 [u2 a, u2 b] H (fun y H' => y = .int .i64 (if a = b then 0 else if a < b then -1 else 1) ∧ H' = H) := by
 refine ACall.of_body Tryz.func251 rfl Tryz.ntmps251 Tryz.results251 rfl ?_
 iterate 2 refine AX ?_
 refine .e rfl (zO (tm rfl) (.inr ⟨_, rfl⟩)) (.e rfl (zO (tm rfl) (.inr ⟨_, rfl⟩)) ?_)
 iterate 9 refine AX ?_
 refine .p rfl (yH Tryz.eqGuardType149 (tm rfl) (tm rfl) (eq2 _ _ _ _)) ?_
 iterate 3 refine AX ?_
 refine AWP.cx rfl (fun hc5 => ?_) (fun hc5 => ?_)
 ·have hab := awA.1 hc5
  iterate 8 refine AX ?_
  refine Ret.go (.cons (.tmp _ _ rfl) .nil) _ (Heap.le.refl _) ?_
  refine ⟨?_, rfl⟩
  rw [if_pos hab]; rfl
 ·have hab : ¬ a = b := fun h => hc5 (awA.2 h)
  refine AWP.seqTo 9 (.bool (decide (a < b))) [4] ?_ ?_
  ·-- region 3
   refine AX ?_
   refine .p rfl (zA Tryz.underlying149 rfl Tryz.sizeOf22 (tm rfl)) ?_
   refine AX ?_
   refine .p rfl (zA Tryz.underlying149 rfl Tryz.sizeOf22 (tm rfl)) ?_
   iterate 3 refine AX ?_
   refine zH (t := 15) rfl (fun hg15 => ?_) (fun hg15 => ?_)
   ·iterate 15 refine AX ?_
    exact ⟨rfl, zS rfl (by (rw [← avZ, hg15]; rfl)) (zP rfl qM), rfl⟩
   ·refine .gp rfl rfl rfl (by assumption) (zA Tryz.underlying149 rfl Tryz.sizeOf22 (tm rfl)) ?_
    refine AX ?_
    refine .gp rfl rfl rfl (by assumption) (zA Tryz.underlying149 rfl Tryz.sizeOf22 (tm rfl)) ?_
    iterate 3 refine AX ?_
    refine zH (t := 21) rfl (fun hg21 => ?_) (fun hg21 => ?_)
    ·refine .gp rfl rfl rfl (by assumption) (zA Tryz.underlying149 rfl Tryz.sizeOf22 (tm rfl)) ?_
     refine AX ?_
     refine .gp rfl rfl rfl (by assumption) (zA Tryz.underlying149 rfl Tryz.sizeOf22 (tm rfl)) ?_
     iterate 6 refine AX ?_
     exact ⟨rfl, zS rfl (by (rw [← avZ, hg15, hg21]; rfl)) (zP rfl qM), rfl⟩
    ·iterate 9 refine AX ?_
     exact ⟨rfl, zS rfl (by (rw [← avZ, hg15, hg21]; rfl)) (zP rfl qM), rfl⟩
  ·refine AWP.sub [(9, _), (4, _)] sX ?_
   refine AWP.cx rfl (fun hc9 => ?_) (fun hc9 => ?_)
   ·iterate 8 refine AX ?_
    refine Ret.go (.cons (.tmp _ _ rfl) .nil) _ (Heap.le.refl _) ?_
    refine ⟨?_, rfl⟩
    rw [if_neg hab, if_pos hc9]; rfl
   ·iterate 9 refine AX ?_
    refine Ret.go (.cons (.tmp _ _ rfl) .nil) _ (Heap.le.refl _) ?_
    refine ⟨?_, rfl⟩
    rw [if_neg hab, if_neg (by omega)]; rfl
theorem dig_stop {B u u1 y1 y0 q r : Nat} (hi : q * y1 + r = u) (h1 : ¬ B ≤ q) (h : ¬ B * r + u1 < q * y0) (hy : 0 < y1 * B + y0) (hq : (u * B + u1) / (y1 * B + y0) ≤ q) : q = (u * B + u1) / (y1 * B + y0) := by
 refine Nat.le_antisymm ?_ hq
 rw [Nat.le_div_iff_mul_le hy, Nat.mul_add, ← hi, Nat.add_mul, ← Nat.mul_assoc, Nat.mul_comm r B]
 omega
theorem dig_down {B u u1 y1 y0 q r : Nat} (hi : q * y1 + r = u) (hB : 0 < B) (hu : u < y1 * B + y0) (h1 : u1 < B) (h : B ≤ q ∨ B * r + u1 < q * y0) (hq : (u * B + u1) / (y1 * B + y0) ≤ q) :
  1 ≤ q ∧ (u * B + u1) / (y1 * B + y0) ≤ q - 1 ∧ (q - 1) * y1 + (r + y1) = u := by
 have hy : 0 < y1 * B + y0 := by omega
 have hlt : (u * B + u1) / (y1 * B + y0) < q := by
  rcases h with h | h
  ·refine Nat.lt_of_lt_of_le ?_ h
   rw [Nat.div_lt_iff_lt_mul hy]
   have h3 := Nat.mul_le_mul_right B (show u + 1 ≤ y1 * B + y0 from hu)
   rw [Nat.add_mul, Nat.one_mul] at h3
   rw [Nat.mul_comm B (y1 * B + y0)]
   omega
  ·rw [Nat.div_lt_iff_lt_mul hy, Nat.mul_add, ← hi, Nat.add_mul, ← Nat.mul_assoc, Nat.mul_comm r B]
   omega
 have hp : 1 ≤ q := Nat.lt_of_le_of_lt (Nat.zero_le _) hlt
 refine ⟨hp, Nat.le_sub_one_of_lt hlt, ?_⟩
 have h5 : q * y1 = (q - 1) * y1 + y1 := by
  rw [← Nat.succ_mul, Nat.succ_eq_add_one, Nat.sub_add_cancel hp]
 omega
theorem bgN {B u u1 y1 y0 q r : Nat} (hi : q * y1 + r = u) (hq1 : q ≤ B) (h0 : y0 ≤ B) (hr : B ≤ r) (hy : 0 < y1 * B + y0) (hq : (u * B + u1) / (y1 * B + y0) ≤ q) : q = (u * B + u1) / (y1 * B + y0) := by
 refine Nat.le_antisymm ?_ hq
 have h3 : q * y0 ≤ B * r := Nat.mul_le_mul hq1 (Nat.le_trans h0 hr)
 rw [Nat.le_div_iff_mul_le hy, Nat.mul_add, ← hi, Nat.add_mul, ← Nat.mul_assoc, Nat.mul_comm r B]
 omega
theorem bgL {B u y1 y0 u1 : Nat} (hB : B ≤ 2 * y1) (h0 : y0 < B) (h1 : u1 < B) (hu : u < y1 * B + y0) : u / y1 ≤ B + 1 ∧ (u * B + u1) / (y1 * B + y0) ≤ u / y1 := by
 have hy1 : 0 < y1 := by omega
 have hy : 0 < y1 * B + y0 := by omega
 constructor
 ·refine Nat.le_of_lt_succ ?_
  rw [Nat.div_lt_iff_lt_mul hy1, Nat.succ_eq_add_one, Nat.add_mul, Nat.add_mul, Nat.one_mul, Nat.mul_comm B y1]
  omega
 ·refine Nat.le_of_lt_succ ?_
  have hd := Nat.div_add_mod u y1
  have hm := Nat.mod_lt u hy1
  rw [Nat.div_lt_iff_lt_mul hy, Nat.succ_eq_add_one, Nat.mul_add]
  generalize u / y1 = q at *
  have e1 : (q + 1) * (y1 * B) = (y1 * q + y1) * B := by rw [← Nat.mul_assoc, Nat.add_mul, Nat.one_mul, Nat.mul_comm q y1]
  have e2 : (u + 1) * B ≤ (y1 * q + y1) * B := Nat.mul_le_mul_right B (by omega)
  rw [Nat.add_mul, Nat.one_mul] at e2
  omega
theorem ayC {B Y a u0 : Nat} (hY : 0 < Y) : (a * B + u0) / Y = a / Y * B + (a % Y * B + u0) / Y ∧ (a * B + u0) % Y = (a % Y * B + u0) % Y := by
 have hd := Nat.div_add_mod a Y
 have e : a * B + u0 = Y * (a / Y * B) + (a % Y * B + u0) := by
  have : a * B = Y * (a / Y * B) + a % Y * B := by
   rw [← Nat.mul_assoc, ← Nat.add_mul, hd]
  omega
 constructor
 ·rw [e, Nat.mul_add_div hY]
 ·rw [e, Nat.mul_add_mod]
theorem bfG {M u q Y a : Nat} (hM : Y ≤ M) (hq : q = u / Y) (hY : 0 < Y) (ha : a % M = u % M) : (a + (M - q * Y % M)) % M = u % Y := by
 have hd := Nat.div_add_mod u Y
 have hm := Nat.mod_lt u hY
 have hM0 : 0 < M := Nat.lt_of_lt_of_le hY hM
 rw [← hq, Nat.mul_comm Y q] at hd
 have h1 : (a + (M - q * Y % M)) % M = (u + (M - q * Y % M)) % M := by rw [Nat.add_mod, ha, ← Nat.add_mod]
 rw [h1, ← hd]
 have hl := Nat.mod_lt (q * Y) hM0
 have hdm := Nat.div_add_mod (q * Y) M
 have e : q * Y + u % Y + (M - q * Y % M) = u % Y + M * (q * Y / M + 1) := by
  rw [Nat.mul_add, Nat.mul_one]; omega
 have e3 : (q * Y + u % Y) % Y = u % Y := by rw [hd]
 rw [e3, e, Nat.add_mul_mod_self_left, Nat.mod_eq_of_lt (Nat.lt_of_lt_of_le hm hM)]
theorem avW {hi lo s : Nat} (hs : s ≤ 64) : (hi * 18446744073709551616 + lo) * 2 ^ s = ((hi * 2 ^ s + lo / 2 ^ (64 - s)) * 4294967296 + lo * 2 ^ s % 18446744073709551616 / 4294967296) * 4294967296 + lo * 2 ^ s % 18446744073709551616 % 4294967296 := by
 have e1 : lo / 2 ^ (64 - s) = lo * 2 ^ s / 18446744073709551616 := by
  have h64 : (18446744073709551616 : Nat) = 2 ^ (64 - s) * 2 ^ s := by rw [← Nat.pow_add, Nat.sub_add_cancel hs]
  rw [h64, Nat.mul_div_mul_right _ _ (Nat.pow_pos (by decide))]
 rw [e1, Nat.add_mul, Nat.mul_right_comm]
 generalize lo * 2 ^ s = a
 generalize hi * 2 ^ s = b
 omega
theorem bgG {x y s Y u32 u1 u0 B : Nat} (hy : 0 < y) (hY : Y = y * 2 ^ s) (hU : x * 2 ^ s = (u32 * B + u1) * B + u0) :
  (u32 * B + u1) / Y * B + ((u32 * B + u1) % Y * B + u0) / Y = x / y ∧ ((u32 * B + u1) % Y * B + u0) % Y / 2 ^ s = x % y := by
 have hp : 0 < 2 ^ s := Nat.pow_pos (by decide)
 have hY0 : 0 < Y := by rw [hY]; exact Nat.mul_pos hy hp
 obtain ⟨h1, h2⟩ := ayC (B := B) (a := u32 * B + u1) (u0 := u0) hY0
 rw [← h1, ← h2, ← hU, hY, Nat.mul_div_mul_right _ _ hp, Nat.mul_mod_mul_right, Nat.mul_div_cancel _ hp]
 exact ⟨rfl, rfl⟩
theorem or_two {r k : Nat} (h : r % 2 ^ (k + 1) = 0) : r ||| 2 ^ k = r + 2 ^ k := by
 obtain ⟨c, rfl⟩ := Nat.dvd_of_mod_eq_zero h
 rw [Nat.mul_comm, ← Nat.shiftLeft_eq]
 exact (Nat.shiftLeft_add_eq_or_of_lt (Nat.pow_lt_pow_right (by decide) (Nat.lt_succ_self k)) c).symm
theorem bfP {m k : Nat} (hk : 0 < k) : (m / 2 ^ (k - 1) % 2 = 1 ∨ m % 2 ^ (k - 1) ≠ 0) ↔ m % 2 ^ k ≠ 0 := by
 obtain ⟨j, rfl⟩ : ∃ j, k = j + 1 := ⟨k - 1, by omega⟩
 rw [Nat.add_sub_cancel, Nat.mod_pow_succ]
 have hp : 0 < 2 ^ j := Nat.pow_pos (by decide)
 rcases Nat.mod_two_eq_zero_or_one (m / 2 ^ j) with h | h
 ·rw [h, Nat.mul_zero, Nat.add_zero]; simp
 ·rw [h, Nat.mul_one]; simp
theorem bfQ {m k : Nat} (hk : 0 < k) : m / 2 ^ (k - 1) / 2 = m / 2 ^ k := by
 obtain ⟨j, rfl⟩ : ∃ j, k = j + 1 := ⟨k - 1, by omega⟩
 rw [Nat.add_sub_cancel, Nat.div_div_eq_div_mul, Nat.pow_succ]
theorem aoP (x : Nat) : x &&& 4294967295 = x % 4294967296 := Nat.and_two_pow_sub_one_eq_mod x 32
theorem norm_64 {y : Nat} (h0 : 0 < y) (h : y < 18446744073709551616) : 64 - yE y ≤ 64 ∧ y * 2 ^ (64 - yE y) < 18446744073709551616 ∧ 9223372036854775808 ≤ y * 2 ^ (64 - yE y) := by
 have hb : yE y ≤ 64 := yW.2 (Nat.lt_of_lt_of_eq h (by decide))
 have h1 : 0 < yE y := aaT.2 (by rw [Nat.pow_zero]; exact h0)
 have h2 : y < 2 ^ yE y := yW.1 (Nat.le_refl _)
 have h3 : 2 ^ (yE y - 1) ≤ y := aaT.1 (by omega)
 refine ⟨by omega, ?_, ?_⟩
 ·have := (Nat.mul_lt_mul_right (a := 2 ^ (64 - yE y)) (Nat.pow_pos (by decide))).2 h2
  rw [← Nat.pow_add, show yE y + (64 - yE y) = 64 by omega] at this
  exact Nat.lt_of_lt_of_eq this (by decide)
 ·have := Nat.mul_le_mul_right (2 ^ (64 - yE y)) h3
  rw [← Nat.pow_add, show yE y - 1 + (64 - yE y) = 63 by omega] at this
  exact Nat.le_trans (by decide) this
theorem un_lt {hi lo y s : Nat} (hs : s ≤ 64) (h : hi < y) (hl : lo < 18446744073709551616) : lo / 2 ^ (64 - s) < 2 ^ s ∧ hi * 2 ^ s + lo / 2 ^ (64 - s) < y * 2 ^ s := by
 have h1 : lo / 2 ^ (64 - s) < 2 ^ s := by
  rw [Nat.div_lt_iff_lt_mul (Nat.pow_pos (by decide)), ← Nat.pow_add, show s + (64 - s) = 64 by omega]
  exact Nat.lt_of_lt_of_eq hl (by decide)
 have h2 := Nat.mul_le_mul_right (2 ^ s) (show hi + 1 ≤ y from h)
 rw [Nat.add_mul, Nat.one_mul] at h2
 exact ⟨h1, by omega⟩
def bhD (u u1 y1 y0 q r : Nat) : Prop := q * y1 + r = u ∧ q ≤ 4294967297 ∧ (u * 4294967296 + u1) / (y1 * 4294967296 + y0) ≤ q ∧ r < 4294967296
theorem atC {u u1 y1 y0 : Nat} (hy : 2147483648 ≤ y1) (hy1 : y1 < 4294967296) (h0 : y0 < 4294967296) (h1 : u1 < 4294967296) (hu : u < y1 * 4294967296 + y0) : bhD u u1 y1 y0 (u / y1) (u - u / y1 * y1) := by
 obtain ⟨a, b⟩ := bgL (B := 4294967296) (by omega) h0 h1 hu
 have hd := Nat.div_add_mod u y1
 have hm := Nat.mod_lt u (show 0 < y1 by omega)
 rw [Nat.mul_comm] at hd
 exact ⟨by omega, a, b, by omega⟩
theorem bgM {u u1 y1 y0 q r : Nat} (hk : bhD u u1 y1 y0 q r) (hy : 0 < y1 * 4294967296 + y0) (h1 : ¬ 4294967296 ≤ q) (h : ¬ 4294967296 * r + u1 < q * y0) : q = (u * 4294967296 + u1) / (y1 * 4294967296 + y0) := dig_stop hk.1 h1 h hy hk.2.2.1
theorem ayE {u u1 y1 y0 q r : Nat} (hk : bhD u u1 y1 y0 q r) (hu : u < y1 * 4294967296 + y0) (h1 : u1 < 4294967296) (h : 4294967296 ≤ q ∨ 4294967296 * r + u1 < q * y0) : 1 ≤ q ∧ (q - 1) * y1 + (r + y1) = u ∧ (u * 4294967296 + u1) / (y1 * 4294967296 + y0) ≤ q - 1 := by
 obtain ⟨a, b, c⟩ := dig_down hk.1 (by decide) hu h1 h hk.2.2.1
 exact ⟨a, c, b⟩
theorem bgK {u u1 y1 y0 q r : Nat} (hq : q ≤ 4294967297) (h1 : 1 ≤ q) (hn : (q - 1) * y1 + (r + y1) = u) (hb : (u * 4294967296 + u1) / (y1 * 4294967296 + y0) ≤ q - 1) (h0 : y0 < 4294967296) (hr : 4294967296 ≤ r + y1) (hy : 0 < y1 * 4294967296 + y0) : q - 1 = (u * 4294967296 + u1) / (y1 * 4294967296 + y0) := bgN hn (by omega) (Nat.le_of_lt h0) hr hy hb
theorem dig_lt {u u1 Y : Nat} (h1 : u1 < 4294967296) (hu : u < Y) : (u * 4294967296 + u1) / Y < 4294967296 := by
 rw [Nat.div_lt_iff_lt_mul (by omega)]
 have := Nat.mul_le_mul_right 4294967296 (show u + 1 ≤ Y from hu)
 rw [Nat.add_mul, Nat.one_mul, Nat.mul_comm Y] at this
 omega
theorem bfH {u u1 q Y : Nat} (hM : Y ≤ 18446744073709551616) (hq : q = (u * 4294967296 + u1) / Y) (hY : 0 < Y) : ((u * 4294967296 % 18446744073709551616 + u1) % 18446744073709551616 + (18446744073709551616 - q * Y % 18446744073709551616)) % 18446744073709551616 = (u * 4294967296 + u1) % Y :=
 bfG hM hq hY (by omega)
theorem qy_lt {q y : Nat} (h1 : q < 4294967296) (h2 : y < 4294967296) : q * y < 18446744073709551616 := Nat.lt_of_le_of_lt (Nat.mul_le_mul (Nat.le_pred_of_lt h1) (Nat.le_pred_of_lt h2)) (by decide)

set_option maxRecDepth 100000 in
theorem bcD (x : Nat) (hx : x < 18446744073709551616) (H : Heap) : ACall Tryz.prog 236 [.int .u64 (x : Int)] H (fun y H' => y = .int .i64 ((64 - yE x : Nat) : Int) ∧ H' = H) := by
 have hb := (yW (n := x) (k := 64)).2 (Nat.lt_of_lt_of_eq hx (by decide))
 refine ACall.of_body Tryz.func236 rfl Tryz.ntmps236 Tryz.results236 rfl ?_
 iterate 8 refine AX ?_
 refine .cl rfl Tryz.call182 (evs1 rfl) (len64A _ (by assumption) _) ?_
 iterate 5 refine AX ?_
 refine Ret.go (.cons (.tmp _ _ rfl) .nil) _ (Heap.le.refl _) ?_
 refine ⟨?_, rfl⟩
 simp only [zU]
 congr 1
 omega

def div_J (Y s y1 y0 u32 u1 u0 u21 q1 : Nat) (H : Heap) : Nat → Env → Heap → Prop := fun k env H1 => ∃ q r : Nat, bhD u32 u1 y1 y0 q r ∧ env = [(2, .int .u64 ((Y : Nat) : Int)), (6, .int .u64 ((0 : Nat) : Int)), (7, .int .u64 ((0 : Nat) : Int)), (8, .int .u64 ((s : Nat) : Int)), (9, .int .u64 ((y1 : Nat) : Int)), (10, .int .u64 ((y0 : Nat) : Int)), (11, .int .u64 ((u32 : Nat) : Int)), (13, .int .u64 ((u1 : Nat) : Int)), (14, .int .u64 ((u0 : Nat) : Int)), (15, .int .u64 ((q : Nat) : Int)), (16, .int .u64 ((r : Nat) : Int))] ∧ H = H1 ∧ k = q

def div_K (Y s y1 y0 u32 u1 u0 u21 q1 : Nat) (H : Heap) : Nat → Env → Heap → Prop := fun k env H1 => ∃ q r : Nat, bhD u21 u0 y1 y0 q r ∧ env = [(2, .int .u64 ((Y : Nat) : Int)), (6, .int .u64 ((0 : Nat) : Int)), (7, .int .u64 ((0 : Nat) : Int)), (8, .int .u64 ((s : Nat) : Int)), (9, .int .u64 ((y1 : Nat) : Int)), (10, .int .u64 ((y0 : Nat) : Int)), (14, .int .u64 ((u0 : Nat) : Int)), (15, .int .u64 ((q1 : Nat) : Int)), (16, .int .u64 ((r : Nat) : Int)), (17, .int .u64 ((u21 : Nat) : Int)), (18, .int .u64 ((q : Nat) : Int))] ∧ H = H1 ∧ k = q

set_option maxRecDepth 100000 in
theorem awP (hi lo y : Nat) (hh : hi < y) (hl : lo < 18446744073709551616) (hy : y < 18446744073709551616) (H : Heap) : ACall Tryz.prog 183 [.int .u64 (hi : Int), .int .u64 (lo : Int), .int .u64 (y : Int)] H (fun z H' => z = .tuple [.int .u64 (((hi * 18446744073709551616 + lo) / y : Nat) : Int), .int .u64 (((hi * 18446744073709551616 + lo) % y : Nat) : Int)] ∧ H' = H) := by
 obtain ⟨hs64, hYlt0, hYge0⟩ := norm_64 (show 0 < y by omega) hy
 obtain ⟨s, hs⟩ : ∃ s, s = 64 - yE y := ⟨_, rfl⟩
 rw [← hs] at hs64 hYlt0 hYge0
 obtain ⟨hlo2, hun0⟩ := un_lt hs64 hh hl
 have hhi : hi * 2 ^ s < 18446744073709551616 := Nat.lt_trans (Nat.lt_of_le_of_lt (Nat.le_add_right _ _) hun0) hYlt0
 refine ACall.of_body Tryz.func183 rfl Tryz.ntmps183 Tryz.results183 rfl ?_
 refine .seq (.region (.p rfl (zD (zE 0)) (.p rfl (zD (zE 0)) (.nil ?_))))
 refine Next.go ?_
 refine .seq (.seq (.region (.mv rfl rfl (.p rfl (qH (tm rfl) (zE 0)) (.nil ?_)))))
 refine Next.go ?_
 refine AWP.cond_false (tm rfl) (by exact decide_eq_false (by omega)) ?_
 refine .skip ?_
 refine Next.go ?_
 refine .seq (.seq (.region (.mv rfl rfl (.mv rfl rfl (.p rfl (ajR (tm rfl) (tm rfl)) (.nil ?_))))))
 refine Next.go ?_
 refine AWP.cond_false (tm rfl) (by exact decide_eq_false (by omega)) ?_
 refine .skip ?_
 refine Next.go ?_
 refine .seq (.seq (.region (.mv rfl rfl (.p rfl (qH (tm rfl) (zE 0)) (.nil ?_)))))
 refine Next.go ?_
 refine AWP.cond (tm rfl) (fun hc27 => ?_) (fun hc27 => ?_)
 ·try simp only [decide_eq_true_eq, decide_eq_false_iff_not, Bool.not_eq_true', Bool.not_eq_false', Int.not_lt, Int.not_le, ne_eq, Decidable.not_not] at hc27
  refine .seq ?_
  refine AWP.draw [(0, true), (1, true), (2, true), (3, true), (4, true), (5, true), (6, true), (7, true)] rfl (by decide +kernel) ?_
  refine .p rfl rfl (zT (tm rfl)) (.p rfl rfl (zT (tm rfl)) (.p rfl rfl (adX (tm rfl) (tm rfl) (by assumption) (by omega)) (.p rfl rfl (zT (tm rfl)) (.p rfl rfl (zT (tm rfl)) (.p rfl rfl (afS (tm rfl) (tm rfl) (by omega)) (.p rfl rfl (zD (tm rfl)) (.p rfl rfl (zD (tm rfl)) (.nil ?_))))))))
  refine Next.go ?_
  refine .ret ?_
  refine Next.rt ?_
  refine Ret.go (.cons (.tmp _ _ rfl) (.cons (.tmp _ _ rfl) .nil)) _ (Heap.le.refl _) ?_
  refine ⟨?_, rfl⟩
  have h0 : hi = 0 := by omega
  rw [h0, Nat.zero_mul, Nat.zero_add]; rfl
 ·try simp only [decide_eq_true_eq, decide_eq_false_iff_not, Bool.not_eq_true', Bool.not_eq_false', Int.not_lt, Int.not_le, ne_eq, Decidable.not_not] at hc27
  refine .skip ?_
  refine Next.go ?_
  refine .seq (.region (.mv rfl rfl (.cl rfl Tryz.call236 (evs1 rfl) (bcD y hy _) ?_)))
  rw [← hs]
  refine .p rfl (qP Tryz.underlying3 Tryz.underlying102 (tm rfl) (wrapN64 (by omega))) (.as rfl rfl (.nil ?_))
  refine Next.go ?_
  refine .seq (.region (.mv rfl rfl (.mv rfl rfl (.p rfl (yV (tm rfl) (tm rfl) (by omega) (by exact hYlt0)) (.as rfl rfl (.nil ?_))))))
  refine Next.go ?_
  refine .seq (.region (.mv rfl rfl (.p rfl (zW (tm rfl) (zE 32) (by assumption)) (.as rfl rfl (.nil ?_)))))
  refine Next.go ?_
  refine .seq (.region (.mv rfl rfl (.p rfl (qQ (tm rfl) (zE 4294967295) (by assumption) (by omega)) (.as rfl rfl (.nil ?_)))))
  refine Next.go ?_
  refine .seq (.region (.mv rfl rfl (.mv rfl rfl (.p rfl (yV (tm rfl) (tm rfl) (by omega) (by exact hhi)) (.mv rfl rfl (.mv rfl rfl (.p rfl (aaQ (zE 64) (tm rfl) (by omega) (by omega)) (.p rfl (zW (tm rfl) (tm rfl) (by assumption)) ?_))))))))
  refine .p rfl (qW (tm rfl) (tm rfl) (by assumption) (by omega)) (.as rfl rfl (.nil ?_))
  refine Next.go ?_
  refine .seq (.region (.mv rfl rfl (.mv rfl rfl (.p rfl (anR (tm rfl) (tm rfl)) (.as rfl rfl (.nil ?_))))))
  refine Next.go ?_
  refine .seq (.region (.mv rfl rfl (.p rfl (zW (tm rfl) (zE 32) (by omega)) (.as rfl rfl (.nil ?_)))))
  refine Next.go ?_
  refine .seq (.region (.mv rfl rfl (.p rfl (qQ (tm rfl) (zE 4294967295) (by omega) (by omega)) (.as rfl rfl (.nil ?_)))))
  refine Next.go ?_
  refine .seq ?_
  have hor : (hi * 2 ^ s ||| lo / 2 ^ (64 - s)) = hi * 2 ^ s + lo / 2 ^ (64 - s) := afE hlo2
  have hdv := avW (hi := hi) (lo := lo) hs64
  rw [hor, aoP, aoP]
  have hpw : (2 : Nat) ^ 32 = 4294967296 := by decide
  rw [hpw]
  obtain ⟨Y, hY⟩ : ∃ Y, Y = y * 2 ^ s := ⟨_, rfl⟩
  obtain ⟨u32, hU⟩ : ∃ u, u = hi * 2 ^ s + lo / 2 ^ (64 - s) := ⟨_, rfl⟩
  obtain ⟨un, hn⟩ : ∃ u, u = lo * 2 ^ s % 18446744073709551616 := ⟨_, rfl⟩
  rw [← hY, ← hU, ← hn]
  rw [← hn, ← hU] at hdv
  rw [← hY, ← hU] at hun0
  rw [← hY] at hYlt0 hYge0
  have hun64 : un < 18446744073709551616 := by rw [hn]; exact Nat.mod_lt _ (by decide)
  obtain ⟨y1, hy1⟩ : ∃ v, v = Y / 4294967296 := ⟨_, rfl⟩
  obtain ⟨y0, hy0⟩ : ∃ v, v = Y % 4294967296 := ⟨_, rfl⟩
  obtain ⟨u1, hu1⟩ : ∃ v, v = un / 4294967296 := ⟨_, rfl⟩
  obtain ⟨u0, hu0⟩ : ∃ v, v = un % 4294967296 := ⟨_, rfl⟩
  rw [← hy1, ← hy0, ← hu1, ← hu0]
  rw [← hu1, ← hu0] at hdv
  have hYs : Y = y1 * 4294967296 + y0 := by omega
  have hly0 : y0 < 4294967296 := by omega
  have hly1 : 2147483648 ≤ y1 ∧ y1 < 4294967296 := by omega
  have hlu1 : u1 < 4294967296 := by omega
  have hlu0 : u0 < 4294967296 := by omega
  have hu64 : u32 < 18446744073709551616 := by omega
  have hY0 : 0 < y1 * 4294967296 + y0 := by omega
  have hu32 : u32 < Y := hun0
  have hbeg := atC hly1.1 hly1.2 hly0 hlu1 (by rw [← hYs]; exact hu32)
  have hyp : 0 < y := by omega
  clear hun64 hhi hor
  refine .region (.mv rfl rfl (.mv rfl rfl (.p rfl (adX (tm rfl) (tm rfl) (by assumption) (by omega)) (.as rfl rfl (.nil ?_)))))
  refine Next.go ?_
  refine .seq (.region (.mv rfl rfl (.mv rfl rfl (.mv rfl rfl (.p rfl (qX (tm rfl) (tm rfl) (by exact Nat.lt_of_le_of_lt (Nat.div_mul_le_self _ _) hu64)) (.p rfl (aaQ (tm rfl) (tm rfl) (Nat.div_mul_le_self _ _) (hu64)) (.as rfl rfl (.nil ?_))))))))
  refine Next.go ?_
  refine AWP.meet (fun env H2 => env = [(2, .int .u64 ((Y : Nat) : Int)), (6, .int .u64 ((0 : Nat) : Int)), (7, .int .u64 ((0 : Nat) : Int)), (8, .int .u64 ((s : Nat) : Int)), (9, .int .u64 ((y1 : Nat) : Int)), (10, .int .u64 ((y0 : Nat) : Int)), (11, .int .u64 ((u32 : Nat) : Int)), (13, .int .u64 ((u1 : Nat) : Int)), (14, .int .u64 ((u0 : Nat) : Int)), (15, .int .u64 (((u32 * 4294967296 + u1) / Y : Nat) : Int))] ∧ H = H2) ?_ ?_
  ·refine .block ?_
   refine AWP.loopW (div_J Y s y1 y0 u32 u1 u0 0 0 H) (u32 / y1) ⟨u32 / y1, u32 - u32 / y1 * y1, hbeg, rfl, rfl, rfl⟩ sX (Heap.le.refl _) ?_
   rintro _ _ _ ⟨q, r, hdig, rfl, rfl, hk⟩
   have hdd := hdig
   obtain ⟨he1, he2, he3, he4⟩ := hdd
   refine .seq ?_
   refine AWP.seqTo 78 (.bool (decide (((4294967296 : Nat) : Int) ≤ (q : Int)) || decide (((4294967296 * r + u1 : Nat) : Int) < ((q * y0 : Nat) : Int)))) [2, 6, 7, 8, 9, 10, 11, 13, 14, 15, 16] ?_ ?_
   ·-- region 17
    refine .region (.mv rfl rfl (.p rfl (abC (tm rfl) (zE 4294967296)) (.mv rfl rfl ?_)))
    refine zH (t := 69) rfl (fun hg69 => ?_) (fun hg69 => ?_)
    ·have hh69 := hg69; try simp only [decide_eq_true_eq, decide_eq_false_iff_not, Bool.not_eq_true', Bool.not_eq_false', Int.not_lt, Int.not_le, ne_eq, Decidable.not_not] at hh69
     refine .gn rfl rfl rfl (by assumption) (.gn rfl rfl rfl (by assumption) (.gn rfl rfl rfl (by assumption) (.gn rfl rfl rfl (by assumption) (.gn rfl rfl rfl (by assumption) (.gn rfl rfl rfl (by assumption) (.gn rfl rfl rfl (by assumption) (.gn rfl rfl rfl (by assumption) (.p rfl (adY (tm rfl) (by assumption) yF) ?_))))))))
     refine .nil ?_
     exact ⟨rfl, zS rfl (by (rw [hg69]; rfl)) sX, rfl⟩
    ·have hh69 := hg69; try simp only [decide_eq_true_eq, decide_eq_false_iff_not, Bool.not_eq_true', Bool.not_eq_false', Int.not_lt, Int.not_le, ne_eq, Decidable.not_not] at hh69
     refine .gp rfl rfl rfl (by assumption) (zT (tm rfl)) (.gp rfl rfl rfl (by assumption) (zT (tm rfl)) (.gp rfl rfl rfl (by assumption) (qX (tm rfl) (tm rfl) (by exact qy_lt (by omega) hly0)) (.gp rfl rfl rfl (by assumption) (zT (tm rfl)) (.gp rfl rfl rfl (by assumption) (qX (zE 4294967296) (tm rfl) (by omega)) (.gp rfl rfl rfl (by assumption) (zT (tm rfl)) (.gp rfl rfl rfl (by assumption) (qB (tm rfl) (tm rfl) (by omega)) (.gp rfl rfl rfl (by assumption) (yQ (tm rfl) (tm rfl)) (.p rfl (aiE (tm rfl) (by assumption) (tm rfl)) ?_))))))))
     refine .nil ?_
     exact ⟨rfl, zS rfl (by (rw [hg69]; rfl)) sX, rfl⟩
   ·refine AWP.sub [(78, _), (2, _), (6, _), (7, _), (8, _), (9, _), (10, _), (11, _), (13, _), (14, _), (15, _), (16, _)] sX ?_
    refine AWP.cond (tm rfl) (fun hc78 => ?_) (fun hc78 => ?_)
    ·try simp only [decide_eq_true_eq, decide_eq_false_iff_not, Bool.not_eq_true', Bool.not_eq_false', Int.not_lt, Int.not_le, ne_eq, Decidable.not_not] at hc78
     have hcq : 4294967296 ≤ q ∨ 4294967296 * r + u1 < q * y0 := by simp only [Bool.or_eq_true, decide_eq_true_eq] at hc78; rcases hc78 with h | h; exact .inl (by exact_mod_cast h); exact .inr (by exact_mod_cast h)
     obtain ⟨hq1, hqn, hqb⟩ := ayE hdig (by rw [← hYs]; exact hu32) hlu1 hcq
     obtain ⟨hd1, hd2, hd3, hd4⟩ := hdig
     refine .skip ?_
     refine Next.go ?_
     refine .block (.seq (.region (.mv rfl rfl (.p rfl (aaQ (tm rfl) (zE 1) (by omega) (by omega)) (.as rfl rfl (.nil ?_))))))
     refine Next.go ?_
     refine .seq (.region (.mv rfl rfl (.mv rfl rfl (.p rfl (qB (tm rfl) (tm rfl) (by omega)) (.as rfl rfl (.nil ?_))))))
     refine Next.go ?_
     refine .seq (.region (.mv rfl rfl (.p rfl (abC (tm rfl) (zE 4294967296)) (.nil ?_))))
     refine Next.go ?_
     refine AWP.cond (tm rfl) (fun hc85 => ?_) (fun hc85 => ?_)
     ·try simp only [decide_eq_true_eq, decide_eq_false_iff_not, Bool.not_eq_true', Bool.not_eq_false', Int.not_lt, Int.not_le, ne_eq, Decidable.not_not] at hc85
      refine .exit ?_
      refine Block.miss rfl ?_
      refine Next.ex ?_
      refine Block.hit ?_
      refine Next.go ?_
      refine Meets.mk (M := fun env H2 => env = [(2, .int .u64 ((Y : Nat) : Int)), (6, .int .u64 ((0 : Nat) : Int)), (7, .int .u64 ((0 : Nat) : Int)), (8, .int .u64 ((s : Nat) : Int)), (9, .int .u64 ((y1 : Nat) : Int)), (10, .int .u64 ((y0 : Nat) : Int)), (11, .int .u64 ((u32 : Nat) : Int)), (13, .int .u64 ((u1 : Nat) : Int)), (14, .int .u64 ((u0 : Nat) : Int)), (15, .int .u64 (((u32 * 4294967296 + u1) / Y : Nat) : Int))] ∧ H = H2) ⟨rfl, rfl⟩ (zP rfl (zP rfl (zP rfl (zP rfl (zP rfl (zP rfl (zP rfl (zP rfl (zP rfl (zZ rfl (by rw [hYs, ← bgK hd2 hq1 hqn hqb hly0 (by omega) hY0]) qM)))))))))) (Heap.le.refl _)
     ·try simp only [decide_eq_true_eq, decide_eq_false_iff_not, Bool.not_eq_true', Bool.not_eq_false', Int.not_lt, Int.not_le, ne_eq, Decidable.not_not] at hc85
      refine .skip ?_
      refine Block.go ?_
      refine Next.go ?_
      refine Round.mk (J := div_J Y s y1 y0 u32 u1 u0 0 0 H) ⟨q - 1, r + y1, ⟨hqn, by omega, hqb, by omega⟩, rfl, rfl, rfl⟩ sX (Heap.le.refl _) (by omega)
    ·try simp only [decide_eq_true_eq, decide_eq_false_iff_not, Bool.not_eq_true', Bool.not_eq_false', Int.not_lt, Int.not_le, ne_eq, Decidable.not_not] at hc78
     have hcq : ¬ 4294967296 ≤ q ∧ ¬ 4294967296 * r + u1 < q * y0 := by simp only [Bool.or_eq_false_iff, decide_eq_false_iff_not] at hc78; exact ⟨fun h => hc78.1 (by exact_mod_cast h), fun h => hc78.2 (by exact_mod_cast h)⟩
     refine .exit ?_
     refine Next.ex ?_
     refine Next.ex ?_
     refine Block.hit ?_
     refine Next.go ?_
     refine Meets.mk (M := fun env H2 => env = [(2, .int .u64 ((Y : Nat) : Int)), (6, .int .u64 ((0 : Nat) : Int)), (7, .int .u64 ((0 : Nat) : Int)), (8, .int .u64 ((s : Nat) : Int)), (9, .int .u64 ((y1 : Nat) : Int)), (10, .int .u64 ((y0 : Nat) : Int)), (11, .int .u64 ((u32 : Nat) : Int)), (13, .int .u64 ((u1 : Nat) : Int)), (14, .int .u64 ((u0 : Nat) : Int)), (15, .int .u64 (((u32 * 4294967296 + u1) / Y : Nat) : Int))] ∧ H = H2) ⟨rfl, rfl⟩ (zP rfl (zP rfl (zP rfl (zP rfl (zP rfl (zP rfl (zP rfl (zP rfl (zP rfl (zZ rfl (by rw [hYs, ← bgM hdig hY0 hcq.1 hcq.2]) qM)))))))))) (Heap.le.refl _)
  ·rintro _ _ ⟨rfl, rfl⟩
   refine .seq (.region (.mv rfl rfl (.p rfl (acX (tm rfl) (zE 4294967296)) (.mv rfl rfl (.p rfl (agO (tm rfl) (tm rfl)) (.mv rfl rfl (.mv rfl rfl (.p rfl (acX (tm rfl) (tm rfl)) ?_))))))))
   refine .p rfl (agM (tm rfl) (tm rfl) (by omega)) (.as rfl rfl (.nil ?_))
   refine Next.go ?_
   refine .seq ?_
   rw [bfH (by omega) rfl (by omega)]
   obtain ⟨u21, hu21e⟩ : ∃ u, u = (u32 * 4294967296 + u1) % Y := ⟨_, rfl⟩
   obtain ⟨q1, hq1e⟩ : ∃ u, u = (u32 * 4294967296 + u1) / Y := ⟨_, rfl⟩
   have hq1l : q1 < 4294967296 := by rw [hq1e]; exact dig_lt hlu1 hu32
   have hu21 : u21 < Y := by rw [hu21e]; exact Nat.mod_lt _ (by omega)
   have hu21b : u21 < 18446744073709551616 := by omega
   rw [← hu21e, ← hq1e]
   have hbeg2 := atC hly1.1 hly1.2 hly0 hlu0 (by rw [← hYs]; exact hu21)
   refine .region (.mv rfl rfl (.mv rfl rfl (.p rfl (adX (tm rfl) (tm rfl) (by assumption) (by omega)) (.as rfl rfl (.nil ?_)))))
   refine Next.go ?_
   refine .seq (.region (.mv rfl rfl (.mv rfl rfl (.mv rfl rfl (.p rfl (qX (tm rfl) (tm rfl) (by exact Nat.lt_of_le_of_lt (Nat.div_mul_le_self _ _) hu21b)) (.p rfl (aaQ (tm rfl) (tm rfl) (Nat.div_mul_le_self _ _) (hu21b)) (.as rfl rfl (.nil ?_))))))))
   refine Next.go ?_
   refine AWP.meet (fun env H2 => env = [(2, .int .u64 ((Y : Nat) : Int)), (6, .int .u64 ((0 : Nat) : Int)), (7, .int .u64 ((0 : Nat) : Int)), (8, .int .u64 ((s : Nat) : Int)), (14, .int .u64 ((u0 : Nat) : Int)), (15, .int .u64 ((q1 : Nat) : Int)), (17, .int .u64 ((u21 : Nat) : Int)), (18, .int .u64 (((u21 * 4294967296 + u0) / Y : Nat) : Int))] ∧ H = H2) ?_ ?_
   ·refine .block ?_
    refine AWP.loopW (div_K Y s y1 y0 u32 u1 u0 u21 q1 H) (u21 / y1) ⟨u21 / y1, u21 - u21 / y1 * y1, hbeg2, rfl, rfl, rfl⟩ sX (Heap.le.refl _) ?_
    rintro _ _ _ ⟨q, r, hdig, rfl, rfl, hk⟩
    have hdd := hdig
    obtain ⟨he1, he2, he3, he4⟩ := hdd
    refine .seq ?_
    refine AWP.seqTo 113 (.bool (decide (((4294967296 : Nat) : Int) ≤ (q : Int)) || decide (((4294967296 * r + u0 : Nat) : Int) < ((q * y0 : Nat) : Int)))) [2, 6, 7, 8, 9, 10, 14, 15, 16, 17, 18] ?_ ?_
    ·-- region 24
     refine .region (.mv rfl rfl (.p rfl (abC (tm rfl) (zE 4294967296)) (.mv rfl rfl ?_)))
     refine zH (t := 104) rfl (fun hg104 => ?_) (fun hg104 => ?_)
     ·have hh104 := hg104; try simp only [decide_eq_true_eq, decide_eq_false_iff_not, Bool.not_eq_true', Bool.not_eq_false', Int.not_lt, Int.not_le, ne_eq, Decidable.not_not] at hh104
      refine .gn rfl rfl rfl (by assumption) (.gn rfl rfl rfl (by assumption) (.gn rfl rfl rfl (by assumption) (.gn rfl rfl rfl (by assumption) (.gn rfl rfl rfl (by assumption) (.gn rfl rfl rfl (by assumption) (.gn rfl rfl rfl (by assumption) (.gn rfl rfl rfl (by assumption) (.p rfl (adY (tm rfl) (by assumption) yF) ?_))))))))
      refine .nil ?_
      exact ⟨rfl, zS rfl (by (rw [hg104]; rfl)) sX, rfl⟩
     ·have hh104 := hg104; try simp only [decide_eq_true_eq, decide_eq_false_iff_not, Bool.not_eq_true', Bool.not_eq_false', Int.not_lt, Int.not_le, ne_eq, Decidable.not_not] at hh104
      refine .gp rfl rfl rfl (by assumption) (zT (tm rfl)) (.gp rfl rfl rfl (by assumption) (zT (tm rfl)) (.gp rfl rfl rfl (by assumption) (qX (tm rfl) (tm rfl) (by exact qy_lt (by omega) hly0)) (.gp rfl rfl rfl (by assumption) (zT (tm rfl)) (.gp rfl rfl rfl (by assumption) (qX (zE 4294967296) (tm rfl) (by omega)) (.gp rfl rfl rfl (by assumption) (zT (tm rfl)) (.gp rfl rfl rfl (by assumption) (qB (tm rfl) (tm rfl) (by omega)) (.gp rfl rfl rfl (by assumption) (yQ (tm rfl) (tm rfl)) (.p rfl (aiE (tm rfl) (by assumption) (tm rfl)) ?_))))))))
      refine .nil ?_
      exact ⟨rfl, zS rfl (by (rw [hg104]; rfl)) sX, rfl⟩
    ·refine AWP.sub [(113, _), (2, _), (6, _), (7, _), (8, _), (9, _), (10, _), (14, _), (15, _), (16, _), (17, _), (18, _)] sX ?_
     refine AWP.cond (tm rfl) (fun hc113 => ?_) (fun hc113 => ?_)
     ·try simp only [decide_eq_true_eq, decide_eq_false_iff_not, Bool.not_eq_true', Bool.not_eq_false', Int.not_lt, Int.not_le, ne_eq, Decidable.not_not] at hc113
      have hcq : 4294967296 ≤ q ∨ 4294967296 * r + u0 < q * y0 := by simp only [Bool.or_eq_true, decide_eq_true_eq] at hc113; rcases hc113 with h | h; exact .inl (by exact_mod_cast h); exact .inr (by exact_mod_cast h)
      obtain ⟨hq1, hqn, hqb⟩ := ayE hdig (by rw [← hYs]; exact hu21) hlu0 hcq
      obtain ⟨hd1, hd2, hd3, hd4⟩ := hdig
      refine .skip ?_
      refine Next.go ?_
      refine .block (.seq (.region (.mv rfl rfl (.p rfl (aaQ (tm rfl) (zE 1) (by omega) (by omega)) (.as rfl rfl (.nil ?_))))))
      refine Next.go ?_
      refine .seq (.region (.mv rfl rfl (.mv rfl rfl (.p rfl (qB (tm rfl) (tm rfl) (by omega)) (.as rfl rfl (.nil ?_))))))
      refine Next.go ?_
      refine .seq (.region (.mv rfl rfl (.p rfl (abC (tm rfl) (zE 4294967296)) (.nil ?_))))
      refine Next.go ?_
      refine AWP.cond (tm rfl) (fun hc120 => ?_) (fun hc120 => ?_)
      ·try simp only [decide_eq_true_eq, decide_eq_false_iff_not, Bool.not_eq_true', Bool.not_eq_false', Int.not_lt, Int.not_le, ne_eq, Decidable.not_not] at hc120
       refine .exit ?_
       refine Block.miss rfl ?_
       refine Next.ex ?_
       refine Block.hit ?_
       refine Next.go ?_
       refine Meets.mk (M := fun env H2 => env = [(2, .int .u64 ((Y : Nat) : Int)), (6, .int .u64 ((0 : Nat) : Int)), (7, .int .u64 ((0 : Nat) : Int)), (8, .int .u64 ((s : Nat) : Int)), (14, .int .u64 ((u0 : Nat) : Int)), (15, .int .u64 ((q1 : Nat) : Int)), (17, .int .u64 ((u21 : Nat) : Int)), (18, .int .u64 (((u21 * 4294967296 + u0) / Y : Nat) : Int))] ∧ H = H2) ⟨rfl, rfl⟩ (zP rfl (zP rfl (zP rfl (zP rfl (zP rfl (zP rfl (zP rfl (zZ rfl (by rw [hYs, ← bgK hd2 hq1 hqn hqb hly0 (by omega) hY0]) qM)))))))) (Heap.le.refl _)
      ·try simp only [decide_eq_true_eq, decide_eq_false_iff_not, Bool.not_eq_true', Bool.not_eq_false', Int.not_lt, Int.not_le, ne_eq, Decidable.not_not] at hc120
       refine .skip ?_
       refine Block.go ?_
       refine Next.go ?_
       refine Round.mk (J := div_K Y s y1 y0 u32 u1 u0 u21 q1 H) ⟨q - 1, r + y1, ⟨hqn, by omega, hqb, by omega⟩, rfl, rfl, rfl⟩ sX (Heap.le.refl _) (by omega)
     ·try simp only [decide_eq_true_eq, decide_eq_false_iff_not, Bool.not_eq_true', Bool.not_eq_false', Int.not_lt, Int.not_le, ne_eq, Decidable.not_not] at hc113
      have hcq : ¬ 4294967296 ≤ q ∧ ¬ 4294967296 * r + u0 < q * y0 := by simp only [Bool.or_eq_false_iff, decide_eq_false_iff_not] at hc113; exact ⟨fun h => hc113.1 (by exact_mod_cast h), fun h => hc113.2 (by exact_mod_cast h)⟩
      refine .exit ?_
      refine Next.ex ?_
      refine Next.ex ?_
      refine Block.hit ?_
      refine Next.go ?_
      refine Meets.mk (M := fun env H2 => env = [(2, .int .u64 ((Y : Nat) : Int)), (6, .int .u64 ((0 : Nat) : Int)), (7, .int .u64 ((0 : Nat) : Int)), (8, .int .u64 ((s : Nat) : Int)), (14, .int .u64 ((u0 : Nat) : Int)), (15, .int .u64 ((q1 : Nat) : Int)), (17, .int .u64 ((u21 : Nat) : Int)), (18, .int .u64 (((u21 * 4294967296 + u0) / Y : Nat) : Int))] ∧ H = H2) ⟨rfl, rfl⟩ (zP rfl (zP rfl (zP rfl (zP rfl (zP rfl (zP rfl (zP rfl (zZ rfl (by rw [hYs, ← bgM hdig hY0 hcq.1 hcq.2]) qM)))))))) (Heap.le.refl _)
   ·rintro _ _ ⟨rfl, rfl⟩
    refine .seq ?_
    have hq0l : (u21 * 4294967296 + u0) / Y < 4294967296 := dig_lt hlu0 hu21
    refine .region (.mv rfl rfl (.p rfl (qX (tm rfl) (zE 4294967296) (by omega)) (.mv rfl rfl (.p rfl (qB (tm rfl) (tm rfl) (by omega)) (.mv rfl rfl (.p rfl (acX (tm rfl) (zE 4294967296)) (.mv rfl rfl (.p rfl (agO (tm rfl) (tm rfl)) ?_))))))))
    refine .mv rfl rfl (.mv rfl rfl (.p rfl (acX (tm rfl) (tm rfl)) (.p rfl (agM (tm rfl) (tm rfl) (by omega)) (.mv rfl rfl (.p rfl (zW (tm rfl) (tm rfl) (by exact Nat.mod_lt _ (by decide))) (.as rfl rfl (.as rfl rfl (.nil ?_))))))))
    refine Next.go ?_
    refine .ret ?_
    refine Ret.go (.cons (.tmp _ _ rfl) (.cons (.tmp _ _ rfl) .nil)) _ (Heap.le.refl _) ?_
    refine ⟨?_, rfl⟩
    rw [bfH (by omega) rfl (by omega)]
    obtain ⟨e1, e2⟩ := bgG (B := 4294967296) hyp hY hdv
    rw [hq1e, hu21e, e1, e2]; rfl
end Go.Proofs.YtmmgbnolccpjoaaGreatDoor
