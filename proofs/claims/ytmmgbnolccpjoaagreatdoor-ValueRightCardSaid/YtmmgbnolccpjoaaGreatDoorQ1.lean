import Derived.Test.YtmmgbnolccpjoaaGreatDoorYd
import Derived.Test.YtmmgbnolccpjoaaGreatDoorSsk
import Derived.Test.YtmmgbnolccpjoaaGreatDoorP2
import Derived.Test.YtmmgbnolccpjoaaGreatDoorN2
import Derived.Test.YtmmgbnolccpjoaaGreatDoorP1
import Derived.Test.YtmmgbnolccpjoaaGreatDoorN3
namespace Go.Proofs.YtmmgbnolccpjoaaGreatDoor
open Go Go.RowKit

def anG (v i : Nat) : Nat := v / 4294967296 ^ ((zF v).length - i) % M2
theorem akG (v : Nat) : anG v 0 = 0 := by
 have h := ahN (zK v) (Nat.le_refl (zF v).length)
 rw [List.drop_length, zR] at h
 unfold anG
 rw [Nat.sub_zero, ← h]; rfl
theorem awT (v : Nat) : anG v (zF v).length = v % M2 := by
 unfold anG
 rw [Nat.sub_self, Nat.pow_zero, Nat.div_one]
theorem bcT {v i : Nat} (h : i < (zF v).length) : anG v (i + 1) = (anG v i * 4294967296 + (zF v).getD ((zF v).length - 1 - i) 0) % M2 := by
 have h1 := ahN (zK v) (show (zF v).length - 1 - i ≤ (zF v).length by omega)
 have h2 := ahN (zK v) (show (zF v).length - i ≤ (zF v).length by omega)
 rw [zR] at h1 h2
 have h3 : (zF v).drop ((zF v).length - 1 - i) = (zF v).getD ((zF v).length - 1 - i) 0 :: (zF v).drop ((zF v).length - i) := by
  rw [List.drop_eq_getElem_cons (show (zF v).length - 1 - i < (zF v).length by omega), List.getD_eq_getElem?_getD, List.getElem?_eq_getElem (show (zF v).length - 1 - i < (zF v).length by omega), show (zF v).length - 1 - i + 1 = (zF v).length - i by omega]
  rfl
 rw [h3, val, h2] at h1
 unfold anG
 rw [show (zF v).length - (i + 1) = (zF v).length - 1 - i by omega, ← h1]
 generalize v / 4294967296 ^ ((zF v).length - i) = q
 generalize (zF v).getD ((zF v).length - 1 - i) 0 = x
 unfold M2; omega
theorem aqX {v i : Nat} (h : i < (zF v).length) : putRow (u2 (anG v i * 2 ^ 32 % M2)).cells 1 [.int .u64 (((anG v i * 2 ^ 32 % M2 % M1 ||| (zF v).getD ((zF v).length - 1 - i) 0 : Nat)) : Int)] = (u2 (anG v (i + 1))).cells := by
 obtain ⟨e1, e2⟩ := take_in (v := anG v i) (Limbs.getD (zK v) ((zF v).length - 1 - i))
 rw [bcT h, e2]
 show putRow [.int .u64 (((anG v i * 2 ^ 32 % M2 / M1 : Nat)) : Int), _] 1 _ = _
 rw [e1]; rfl
theorem avN : ∀ (c v : Nat), (zF v).drop c = zF (v / 4294967296 ^ c)
 | 0, v => by rw [List.drop_zero, Nat.pow_zero, Nat.div_one]
 | c + 1, v => by
  rcases Nat.eq_zero_or_pos v with h | h
  ·subst h; rw [Nat.zero_div, qV, List.drop_nil]
  ·rw [qE h, List.drop_succ_cons, avN c, Nat.div_div_eq_div_mul, Nat.pow_succ, Nat.mul_comm]
theorem low_mod {v c : Nat} (h : c ≤ (zF v).length) : val ((zF v).take c) = v % 4294967296 ^ c := by
 have h1 := adL h
 have h2 := aiB (zK v) h
 rw [zR] at h1
 conv => rhs; rw [h1]
 rw [Nat.add_mul_mod_self_left, Nat.mod_eq_of_lt h2]
theorem apO (c : Nat) : 4294967296 ^ c = 2 ^ (32 * c) := by rw [show (4294967296 : Nat) = 2 ^ 32 by decide, ← Nat.pow_mul]
theorem limbs4 {v : Nat} (h : (zF v).length ≤ 4) : v < M2 := by
 have := akA (zK v)
 rw [zR] at this
 refine Nat.lt_of_lt_of_le this ?_
 rw [apO, show M2 = 2 ^ 128 by decide +kernel]
 exact Nat.pow_le_pow_right (by decide) (by omega)
theorem asM {v c : Nat} (h : (zF v).length = c + 4) : 55 ≤ yE (v / 2 ^ (32 * c)) ∧ v / 2 ^ (32 * c) < M2 ∧ (zF (v / 2 ^ (32 * c))).length = 4 := by
 have e := avN c v
 rw [apO] at e
 have el : (zF (v / 2 ^ (32 * c))).length = 4 := by rw [← e, List.length_drop]; omega
 refine ⟨?_, limbs4 (by omega), el⟩
 have hp : 0 < v / 2 ^ (32 * c) := by
  rcases Nat.eq_zero_or_pos (v / 2 ^ (32 * c)) with h0 | h0
  ·rw [h0] at el; simp [qV] at el
  ·exact h0
 have := aiP hp
 omega

def bcO (v b2 b3 : Nat) (H : Heap) : Nat → Env → Heap → Prop := fun k env H1 => ∃ i : Nat, i ≤ (zF v).length ∧ env = [(0, aaP v), (2, .ptr (some ⟨b2, 0, none⟩)), (3, .ptr (some ⟨b3, 0, none⟩)), (6, .int .i64 ((zF v).length : Int)), (7, .int .i64 (i : Int))] ∧ H1 = (H.set b2 (.box 149 [.int .u64 0, .int .u64 0])).set b3 (.box 149 (u2 (anG v i)).cells) ∧ k = (zF v).length - i

set_option maxRecDepth 100000 in
theorem atY (v : Nat) (hv : (zF v).length ≤ 1000000) (H : Heap) : ACall Tryz.prog 338 [aaP v] H (fun y H' => y = u2 (v % M2) ∧ H' = H) := by
 refine ACall.of_body Tryz.func338 rfl Tryz.ntmps338 Tryz.results338 rfl ?_
 iterate 2 refine AX ?_
 refine .s rfl (zG Tryz.zeroValue149 (zr149)) ?_
 rintro _ _ ⟨b2, hb2, rfl, hH⟩
 obtain rfl := hH.symm
 iterate 4 refine AX ?_
 refine .s rfl (zG Tryz.zeroValue149 (zr149)) ?_
 rintro _ _ ⟨b3, hb3, rfl, hH⟩
 obtain rfl := hH.symm
 have hn2_3 := Heap.ne_of (Heap.objs_set_same _ _ _) hb3
 iterate 11 refine AX ?_
 rw [show ([.int .u64 0, .int .u64 0] : List AV) = (u2 (anG v 0)).cells by rw [akG]; rfl]
 refine AWP.loopW (bcO v b2 b3 H) ((zF v).length) ⟨0, Nat.zero_le _, rfl, by rw [akG]; rfl, rfl⟩ sX (Heap.le.refl _) ?_
 rintro _ _ _ ⟨i, hi, rfl, rfl, rfl⟩
 iterate 6 refine AX ?_
 refine AWP.cx rfl (fun hc8 => ?_) (fun hc8 => ?_)
 ·have hlv : i < (zF v).length := by omega
  have hgx := Limbs.getD (zK v) ((zF v).length - 1 - i)
  have hlo : anG v i * 2 ^ 32 % M2 % M1 < 18446744073709551616 := adA _
  iterate 12 refine AX ?_
  refine .e rfl (zV Tryz.isAgg149 Tryz.sizeOf149 (tm rfl) (Heap.objs_set_same _ _ _) (Nat.le_of_ble_eq_true rfl)) (.cl rfl Tryz.call187 (.cons (tm rfl) (.cons zI .nil)) (adT (anG v i) 32 (by decide) 32 rfl _) (.e0 (zB Tryz.sizeOf149 (tm rfl) (tm rfl) rfl rfl (.inr ⟨_, rfl⟩) (Heap.objs_set_same _ _ _) (Nat.le_of_ble_eq_true rfl)) ?_))
  try first | rw [Heap.set_set] | rw [Heap.set_under (by assumption)]
  iterate 2 refine AX ?_
  refine AWP.draw [(0, true), (2, true), (3, true), (4, true), (5, true), (6, true), (7, true), (8, true), (9, true), (10, true), (1, false), (11, true), (12, true), (13, false)] rfl (by decide +kernel) ?_
  refine .p rfl rfl (zJ Tryz.underlying149 rfl Tryz.sizeOf22 (tm rfl)) ?_
  iterate 6 refine AX ?_
  refine .p rfl rfl (zX ((zF v).length - 1 - i) Tryz.underlying239 Tryz.sizeOf166 (tm rfl) (tm rfl) (by omega) (by omega)) ?_
  iterate 2 refine AX ?_
  refine .s rfl rfl (zQ Tryz.isAgg22 (tm rfl) (Heap.objs_set_same _ _ _) rfl) ?_
  rintro _ _ ⟨rfl, hH⟩
  obtain rfl := hH.symm
  refine AX ?_
  refine .p rfl rfl (zJ Tryz.underlying149 rfl Tryz.sizeOf22 (tm rfl)) (.s0 rfl (zB Tryz.sizeOf22 (tm rfl) (tm rfl) rfl rfl (.inl rfl) (Heap.objs_set_same _ _ _) (Nat.le_of_ble_eq_true rfl)) ?_)
  rintro _ _ ⟨rfl, hH⟩
  obtain rfl := hH.symm
  try first | rw [Heap.set_set] | rw [Heap.set_under (by assumption)]
  iterate 8 refine AX ?_
  refine Round.mk (J := bcO v b2 b3 H) ⟨i + 1, by omega, rfl, rfl, rfl⟩ (zP rfl (zP rfl (zP rfl (zP rfl (zZ rfl (by congr 1) qM))))) (by rw [← aqX hlv]; exact Heap.le.refl _) (by omega)
 ·obtain rfl : i = (zF v).length := by omega
  rw [awT]
  iterate 7 refine AX ?_
  refine .e rfl (zV Tryz.isAgg149 Tryz.sizeOf149 (tm rfl) (Heap.objs_set_same _ _ _) (Nat.le_of_ble_eq_true rfl)) (.e0 (zB Tryz.sizeOf149 (tm rfl) (tm rfl) rfl rfl (.inr ⟨_, rfl⟩) ((Heap.objs_set_ne _ _ (by assumption)).trans (Heap.objs_set_same _ _ _)) (Nat.le_of_ble_eq_true rfl)) ?_)
  try first | rw [Heap.set_set] | rw [Heap.set_under (by assumption)]
  iterate 2 refine AX ?_
  refine AWP.dropb (Heap.fresh_set hb3 _) ?_
  refine AWP.frz (t := 2) rfl (hb2) ?_
  refine AX ?_
  refine Ret.go (.cons (.cellI _ _ _ _ rfl Tryz.isAgg149 Tryz.sizeOf149 rfl) .nil) _ (Heap.le.refl _) ?_
  exact ⟨rfl, rfl⟩

def aeY (v : Nat) : Nat := (zF v).length - 4
def lowB (v : Nat) (more : Bool) : Bool := more || decide (v % 2 ^ (32 * aeY v) ≠ 0)
theorem bdQ {neg : Bool} {v : Nat} {e : Int} {more : Bool} (he : -10000 ≤ e ∧ e ≤ 2000) : yG neg v e more = yG neg (v / 2 ^ (32 * aeY v)) (e + 32 * (aeY v : Int)) (lowB v more) := by
 rcases Nat.eq_zero_or_pos (aeY v) with h | h
 ·unfold lowB
  rw [h]
  simp [Nat.mod_one]
 ·have hl : (zF v).length = aeY v + 4 := by unfold aeY at *; omega
  have := bdR (neg := neg) (n := v) (j := 32 * aeY v) (more := more) (asM hl).1 he.1 he.2
  rw [this]
  unfold lowB
  congr 1 <;> omega
theorem cut_lt (v : Nat) : v / 2 ^ (32 * aeY v) < M2 ∧ (zF (v / 2 ^ (32 * aeY v))).length ≤ 4 := by
 rcases Nat.eq_zero_or_pos (aeY v) with h | h
 ·rw [h, Nat.mul_zero, Nat.pow_zero, Nat.div_one]
  have : (zF v).length ≤ 4 := by unfold aeY at h; omega
  exact ⟨limbs4 this, this⟩
 ·have hl : (zF v).length = aeY v + 4 := by unfold aeY at *; omega
  have := asM hl
  exact ⟨this.2.1, by omega⟩
theorem asI {more : Bool} {v c i x : Nat} (hx : x = (zF v).getD i 0) : (more || decide (val ((zF v).take i) ≠ 0) || decide (((0 : Nat) : Int) < (x : Int))) = (more || decide (val ((zF v).take (i + 1)) ≠ 0)) := by
 rw [qG, ← hx, Bool.or_assoc]
 congr 1
 rw [← Bool.decide_or]
 refine decide_eq_decide.2 ?_
 have hp : 0 < 4294967296 ^ i := Nat.pow_pos (by decide)
 generalize 4294967296 ^ i = q at *
 generalize val ((zF v).take i) = y
 rcases Nat.eq_zero_or_pos x with h | h
 ·subst h; simp
 ·have h2 : 0 < q * x := Nat.mul_pos hp h
  constructor
  ·intro _; omega
  ·intro _; exact .inr (by omega)
theorem baT {l : List Nat} {c i : Nat} (h : i < c) : (l.take c).getD i 0 = l.getD i 0 := by
 rw [List.getD_eq_getElem?_getD, List.getElem?_take, if_pos h, List.getD_eq_getElem?_getD]
theorem low_all {v : Nat} {more : Bool} : (more || decide (val ((zF v).take (aeY v)) ≠ 0)) = lowB v more := by
 unfold lowB
 rw [low_mod (show aeY v ≤ (zF v).length by unfold aeY; omega), apO]

def auT (neg more : Bool) (e : Int) (v : Nat) (H : Heap) : Nat → Env → Heap → Prop := fun k env H1 => ∃ i : Nat, i ≤ aeY v ∧ env = [(0, .bool neg), (1, aaP v), (2, .int .i64 e), (3, .bool (more || decide (val ((zF v).take i) ≠ 0))), (8, .int .u64 ((0 : Nat) : Int)), (9, .int .i64 (((zF v).length : Int) - 4)), (23, .slice 1 (U .u32 ((zF v).take (aeY v))) .shared), (24, .int .i64 (((zF v).take (aeY v)).length : Int)), (25, .int .i64 (i : Int))] ∧ H = H1 ∧ k = aeY v - i

def bdS (neg more : Bool) (e : Int) (v b : Nat) (H : Heap) : Nat → Env → Heap → Prop := fun k env H1 => ∃ i : Nat, i ≤ (zF v).length ∧ env = [(0, .bool neg), (1, aaP v), (2, .int .i64 e), (3, .bool more), (12, .ptr (some ⟨b, 0, none⟩)), (45, .int .i64 ((zF v).length : Int)), (46, .int .i64 (i : Int))] ∧ H1 = H.set b (.box 149 (u2 (anG v i)).cells) ∧ k = (zF v).length - i

set_option maxRecDepth 100000 in
theorem amK (neg : Bool) (xs : List Nat) (tl : Tail) (hx : Limbs xs) (hl : xs.length ≤ 1000) (e : Int) (he : -10000 ≤ e ∧ e ≤ 2000) (more : Bool) (H : Heap) : ACall Tryz.prog 270 [.bool neg, .slice 1 (U .u32 xs) tl, .int .i64 e, .bool more] H (fun y H' => y = .int .u64 ((yG neg (val xs) e more : Nat) : Int) ∧ H' = H) := by
 have hr := bdQ (neg := neg) (v := val xs) (e := e) (more := more) he
 have hcl := cut_lt (val xs)
 have hvl : (zF (val xs)).length ≤ xs.length := by rw [← aaY hx]; exact aaF xs
 have hcd : aeY (val xs) = (zF (val xs)).length - 4 := rfl
 have hdr := avN (aeY (val xs)) (val xs)
 rw [apO] at hdr
 have hla := low_all (v := val xs) (more := more)
 have hT := aiS xs tl hx (by omega)
 generalize val xs = v0 at *
 refine ACall.of_body Tryz.func270 rfl Tryz.ntmps270 Tryz.results270 rfl ?_
 iterate 2 refine AX ?_
 refine .p rfl (zD (zE 0)) ?_
 iterate 5 refine AX ?_
 refine .cl rfl Tryz.call278 (evs1 rfl) (hT _) ?_
 iterate 3 refine AX ?_
 refine AWP.seqToL [(1, aaP (v0 / 2 ^ (32 * aeY v0))), (2, .int .i64 (e + 32 * (aeY v0 : Int))), (3, .bool (lowB v0 more))] [0, 8] ?_ ?_
 ·iterate 14 refine AX ?_
  refine AWP.cx rfl (fun hc20 => ?_) (fun hc20 => ?_)
  ·iterate 5 refine AX ?_
   refine .p rfl (aeL (aeY v0) Tryz.underlying239 Tryz.sizeOf166 (tm rfl) (tm rfl) (by omega) (by omega)) ?_
   iterate 5 refine AX ?_
   refine AWP.loopW (auT neg more e v0 H) (aeY v0) ⟨0, Nat.zero_le _, rfl, rfl, rfl⟩ (zP rfl (zP rfl (zP rfl (zZ rfl (by simp [val]) sX)))) (Heap.le.refl _) ?_
   rintro _ _ _ ⟨i, hi, rfl, rfl, rfl⟩
   have htl : ((zF v0).take (aeY v0)).length = aeY v0 := by rw [List.length_take]; omega
   have hgq : ((zF v0).take (aeY v0)).getD i 0 < 18446744073709551616 := Nat.lt_trans (Limbs.getD ((zK v0).take _) i) (by decide)
   iterate 6 refine AX ?_
   refine AWP.cx rfl (fun hc26 => ?_) (fun hc26 => ?_)
   ·have hgt := baT (l := zF v0) (c := aeY v0) (i := i) (by omega)
    iterate 6 refine AX ?_
    refine .p rfl (zX (i) Tryz.underlying239 Tryz.sizeOf166 (tm rfl) (tm rfl) (by omega) (by omega)) ?_
    iterate 7 refine AX ?_
    refine zH (t := 30) rfl (fun hg30 => ?_) (fun hg30 => ?_)
    ·have hh30 := hg30; try simp only [ne_eq] at hh30
     iterate 12 refine AX ?_
     refine Round.mk (J := auT neg more e v0 H) ⟨i + 1, by omega, rfl, rfl, rfl⟩ (zP rfl (zP rfl (zP rfl (zZ rfl (by rw [← asI (c := 0) hgt, hg30]; rfl) sX)))) (Heap.le.refl _) (by omega)
    ·have hh30 := hg30; try simp only [ne_eq] at hh30
     refine AX ?_
     refine .gp rfl rfl rfl (by assumption) (yQ (tm rfl) (zE 0)) ?_
     iterate 10 refine AX ?_
     refine Round.mk (J := auT neg more e v0 H) ⟨i + 1, by omega, rfl, rfl, rfl⟩ (zP rfl (zP rfl (zP rfl (zZ rfl (by rw [← asI (c := 0) hgt, hg30]; rfl) sX)))) (Heap.le.refl _) (by omega)
   ·obtain rfl : i = aeY v0 := by omega
    iterate 12 refine AX ?_
    refine AWP.cond_true (tm rfl) (by exact decide_eq_true (by omega)) ?_
    iterate 3 refine AX ?_
    refine .p rfl (axG zI (tm rfl) (by omega)) ?_
    iterate 7 refine AX ?_
    refine .p rfl (ahD (aeY v0) Tryz.underlying239 Tryz.sizeOf166 (tm rfl) (tm rfl) (by omega) (by omega)) ?_
    iterate 2 refine AX ?_
    exact ⟨rfl, (zZ rfl (by (rw [hdr]; rfl)) (zZ rfl (by (congr 1; omega)) (zZ rfl (by (rw [← hla]; done)) sX))), rfl⟩
  ·have hc0 : aeY v0 = 0 := by omega
   refine AX ?_
   exact ⟨rfl, (zZ rfl (by (rw [hc0, Nat.mul_zero, Nat.pow_zero, Nat.div_one]; done)) (zZ rfl (by (congr 1; omega)) (zZ rfl (by (rw [← hla, hc0]; simp [val])) sX))), rfl⟩
 ·refine AWP.sub [(1, _), (2, _), (3, _), (0, _), (8, _)] sX ?_
  have he2 : -10000 ≤ e + 32 * (aeY v0 : Int) ∧ e + 32 * (aeY v0 : Int) ≤ 100000 := by omega
  rw [hr]
  generalize e + 32 * (aeY v0 : Int) = e2 at he2 ⊢
  generalize lowB v0 more = more2
  obtain ⟨hv, hv4⟩ := hcl
  clear hla hdr hr
  generalize v0 / 2 ^ (32 * aeY v0) = v at hv hv4 ⊢
  iterate 2 refine AX ?_
  refine .s rfl (zG Tryz.zeroValue149 (zr149)) ?_
  rintro _ _ ⟨b12, hb12, rfl, hH⟩
  obtain rfl := hH.symm
  iterate 11 refine AX ?_
  rw [show ([.int .u64 0, .int .u64 0] : List AV) = (u2 (anG v 0)).cells by rw [akG]; rfl]
  refine AWP.loopW (bdS neg more2 e2 v b12 H) ((zF v).length) ⟨0, Nat.zero_le _, rfl, rfl, rfl⟩ sX (Heap.le.refl _) ?_
  rintro _ _ _ ⟨i, hi, rfl, rfl, rfl⟩
  iterate 6 refine AX ?_
  refine AWP.cx rfl (fun hc47 => ?_) (fun hc47 => ?_)
  ·have hlv : i < (zF v).length := by omega
   have hgx := Limbs.getD (zK v) ((zF v).length - 1 - i)
   have hlo : anG v i * 2 ^ 32 % M2 % M1 < 18446744073709551616 := adA _
   iterate 12 refine AX ?_
   refine .e rfl (zV Tryz.isAgg149 Tryz.sizeOf149 (tm rfl) (Heap.objs_set_same _ _ _) (Nat.le_of_ble_eq_true rfl)) (.cl rfl Tryz.call187 (.cons (tm rfl) (.cons zI .nil)) (adT (anG v i) 32 (by decide) 32 rfl _) (.e0 (zB Tryz.sizeOf149 (tm rfl) (tm rfl) rfl rfl (.inr ⟨_, rfl⟩) (Heap.objs_set_same _ _ _) (Nat.le_of_ble_eq_true rfl)) ?_))
   try first | rw [Heap.set_set] | rw [Heap.set_under (by assumption)]
   iterate 2 refine AX ?_
   refine AWP.draw [(0, true), (2, true), (3, true), (4, true), (5, true), (6, true), (7, true), (8, true), (9, true), (10, true), (1, false), (11, true), (12, true), (13, false)] rfl (by decide +kernel) ?_
   refine .p rfl rfl (zJ Tryz.underlying149 rfl Tryz.sizeOf22 (tm rfl)) ?_
   iterate 6 refine AX ?_
   refine .p rfl rfl (zX ((zF v).length - 1 - i) Tryz.underlying239 Tryz.sizeOf166 (tm rfl) (tm rfl) (by omega) (by omega)) ?_
   iterate 2 refine AX ?_
   refine .s rfl rfl (zQ Tryz.isAgg22 (tm rfl) (Heap.objs_set_same _ _ _) rfl) ?_
   rintro _ _ ⟨rfl, hH⟩
   obtain rfl := hH.symm
   refine AX ?_
   refine .p rfl rfl (zJ Tryz.underlying149 rfl Tryz.sizeOf22 (tm rfl)) (.s0 rfl (zB Tryz.sizeOf22 (tm rfl) (tm rfl) rfl rfl (.inl rfl) (Heap.objs_set_same _ _ _) (Nat.le_of_ble_eq_true rfl)) ?_)
   rintro _ _ ⟨rfl, hH⟩
   obtain rfl := hH.symm
   try first | rw [Heap.set_set] | rw [Heap.set_under (by assumption)]
   iterate 8 refine AX ?_
   refine Round.mk (J := bdS neg more2 e2 v b12 H) ⟨i + 1, by omega, rfl, rfl, rfl⟩ sX (by rw [← aqX hlv]; exact Heap.le.refl _) (by omega)
  ·obtain rfl : i = (zF v).length := by omega
   rw [awT, Nat.mod_eq_of_lt hv]
   iterate 8 refine AX ?_
   refine .e rfl (zV Tryz.isAgg149 Tryz.sizeOf149 (tm rfl) (Heap.objs_set_same _ _ _) (Nat.le_of_ble_eq_true rfl)) ?_
   iterate 2 refine AX ?_
   refine .cl rfl Tryz.call122 (.cons (tm rfl) (evs3 rfl rfl rfl)) (abM neg v hv e2 (by constructor <;> omega) more2 _) ?_
   iterate 3 refine AX ?_
   refine AWP.dropb (hb12) ?_
   refine AX ?_
   refine Ret.go (.cons (.tmp _ _ rfl) .nil) _ (Heap.le.refl _) ?_
   refine ⟨?_, rfl⟩
   rfl
theorem zr184 : ∀ g, RelCells g [.int .u64 0, .int .u64 0, .int .i64 0, .bool false] (Value.cells (Go.Value.agg #[Go.Value.int Go.IntKind.u64 0, Go.Value.int Go.IntKind.u64 0, Go.Value.int Go.IntKind.i64 0, Go.Value.bool false])) := fun g => RelL.cells (.cons (.int _ _) (.cons (.int _ _) (.cons (.int _ _) (.cons (.bool _) .nil))))
theorem pl184 (fs : Array Field) (hfs : Tryz.prog.underlying 184 = some (.struct fs)) : ∀ (i : Nat) f p, fs[i]? = some f → [(0, 2), (2, 1), (3, 1)][i]? = some p → ∀ w, (sizeOf f.type).run Tryz.prog w = .ok p.2 w := by
 have e := (Option.some.inj (hfs.symm.trans Tryz.underlying184))
 cases e
 intro i f p hf hp w
 match i with
 | 0 => cases hf; cases hp; exact Tryz.sizeOf149 w
 | 1 => cases hf; cases hp; exact Tryz.sizeOf3 w
 | 2 => cases hf; cases hp; exact Tryz.sizeOf4 w
 | i + 3 => simp at hp

def six (w : Nat) : List Nat := [w % M1 % 2 ^ IntKind.u32.bits, w % M1 / 2 ^ 32 % 2 ^ IntKind.u32.bits, w / M1 % M1 % 2 ^ IntKind.u32.bits, w / M1 % M1 / 2 ^ 32 % 2 ^ IntKind.u32.bits, w / M2 % 2 ^ IntKind.u32.bits, w / M2 / 2 ^ 32 % 2 ^ IntKind.u32.bits]
theorem six_val {w : Nat} (h : w < M3) : val (six w) = w := by
 have h3 := axW h
 unfold six val
 simp only [val, IntKind.bits]
 have e1 := Nat.div_add_mod w M1
 have e2 := Nat.div_add_mod (w / M1) M1
 rw [ayD] at e2
 have ha := adA w
 generalize w % M1 = a at *
 generalize hb : w / M1 = b at *
 generalize w / M2 = c at *
 have hbm : b % M1 < M1 := adA b
 generalize b % M1 = d at *
 unfold M1 at *
 omega
theorem bdJ (w : Nat) : Limbs (six w) := by
 have k : ∀ x : Nat, x % 2 ^ IntKind.u32.bits < 4294967296 := fun x => Nat.mod_lt _ (by decide)
 exact Limbs.mk (k _) (Limbs.mk (k _) (Limbs.mk (k _) (Limbs.mk (k _) (Limbs.mk (k _) (Limbs.mk (k _) Limbs.nil)))))
theorem round6 (w : Nat) (h : w < M3) (e : Int) (he : -10000 ≤ e ∧ e ≤ 2000) (H : Heap) : ACall Tryz.prog 270 [.bool false, .slice 1 (U .u32 (six w)) .full, .int .i64 e, .bool false] H (fun y H' => y = .int .u64 ((yG false w e false : Nat) : Int) ∧ H' = H) := by
 have q := amK false (six w) .full (bdJ w) (by show 6 ≤ 1000; decide) e he false H
 rw [six_val h] at q; exact q
theorem roundB (n : Nat) (h : n < BIG) (e : Int) (he : -10000 ≤ e ∧ e ≤ 2000) (more : Bool) (H : Heap) : ACall Tryz.prog 270 [.bool false, aaP n, .int .i64 e, .bool more] H (fun y H' => y = .int .u64 ((yG false n e more : Nat) : Int) ∧ H' = H) := by
 have q := amK false (zF n) .shared (zK n) (by have := aaC h; omega) e he more H
 rw [zR] at q; exact q

set_option maxRecDepth 100000 in
theorem aoB (w : Nat) (hw : w < M3) (e : Int) (he : -10000 ≤ e ∧ e ≤ 2000) (H : Heap) : ACall Tryz.prog 266 [u3 w, .int .i64 e] H (fun y H' => y = .int .u64 ((yG false w e false : Nat) : Int) ∧ H' = H) := by
 have hh := axW hw
 have hm := adA (w / M1)
 have hl := adA w
 have q1 : w % M1 < 18446744073709551616 := hl
 have q2 : w / M1 % M1 < 18446744073709551616 := hm
 have q3 : w / M2 < 18446744073709551616 := hh
 refine ACall.of_body Tryz.func266 rfl Tryz.ntmps266 Tryz.results266 rfl ?_
 iterate 2 refine AX ?_
 refine .e rfl (zO (tm rfl) (.inr ⟨_, rfl⟩)) (.p rfl (zD (zE 0)) ?_)
 iterate 4 refine AX ?_
 refine .p rfl (zA Tryz.underlying247 rfl Tryz.sizeOf22 (tm rfl)) ?_
 iterate 2 refine AX ?_
 refine .p rfl (zA Tryz.underlying247 rfl Tryz.sizeOf22 (tm rfl)) ?_
 refine AX ?_
 refine .p rfl (zW (tm rfl) (zE 32) (by assumption)) ?_
 refine AX ?_
 refine .p rfl (zA Tryz.underlying247 rfl Tryz.sizeOf22 (tm rfl)) ?_
 iterate 2 refine AX ?_
 refine .p rfl (zA Tryz.underlying247 rfl Tryz.sizeOf22 (tm rfl)) ?_
 refine AX ?_
 refine .p rfl (zW (tm rfl) (zE 32) (by assumption)) ?_
 refine AX ?_
 refine .p rfl (zA Tryz.underlying247 rfl Tryz.sizeOf22 (tm rfl)) ?_
 iterate 2 refine AX ?_
 refine .p rfl (zA Tryz.underlying247 rfl Tryz.sizeOf22 (tm rfl)) ?_
 refine AX ?_
 refine .p rfl (zW (tm rfl) (zE 32) (by assumption)) ?_
 refine AX ?_
 refine .e rfl (aoV Tryz.underlying239 Tryz.sizeOf166 Tryz.zeroValue166 rfl rfl rfl (.cons (tm rfl) (.inl rfl) (.cons (tm rfl) (.inl rfl) (.cons (tm rfl) (.inl rfl) (.cons (tm rfl) (.inl rfl) (.cons (tm rfl) (.inl rfl) (.cons (tm rfl) (.inl rfl) .nil)))))) (aaH ⟨rfl, rfl⟩ (aaH ⟨rfl, rfl⟩ (aaH ⟨rfl, rfl⟩ (aaH ⟨rfl, rfl⟩ (aaH ⟨rfl, rfl⟩ (aaH ⟨rfl, rfl⟩ bdP))))))) ?_
 iterate 7 refine AX ?_
 refine .cl rfl Tryz.call270 (.cons yF (.cons (tm rfl) (.cons (tm rfl) (.cons yF .nil)))) (round6 w hw e he _) ?_
 iterate 4 refine AX ?_
 refine Ret.go (.cons (.tmp _ _ rfl) .nil) _ (Heap.le.refl _) ?_
 exact ⟨rfl, rfl⟩

theorem acM {j n : Nat} (hj : j ≤ 1500) (hn : n ≤ 3000) : 10 ^ j * 2 ^ n < BIG ∧ 10 ^ j < BIG ∧ 2 ^ n < BIG := by
 obtain ⟨K, hK, hB⟩ : ∃ K, K = 8192 ∧ BIG = 2 ^ K := ⟨32 * 256, rfl, amP _ rfl⟩
 have h10 : 10 ^ j ≤ 2 ^ (10 * j / 3 + 1) := by
  have h3 : ∀ q r : Nat, r < 3 → 10 ^ (3 * q + r) ≤ 2 ^ (10 * q + (10 * r / 3 + 1)) := by
   intro q r hr
   rw [Nat.pow_add, Nat.pow_add 2, Nat.pow_mul, Nat.pow_mul 2]
   refine Nat.mul_le_mul (Nat.pow_le_pow_left (by decide) q) ?_
   rcases (by omega : r = 0 ∨ r = 1 ∨ r = 2) with rfl | rfl | rfl <;> decide
  have := h3 (j / 3) (j % 3) (Nat.mod_lt _ (by decide))
  rw [show 3 * (j / 3) + j % 3 = j by omega] at this
  refine Nat.le_trans this (Nat.pow_le_pow_right (by decide) (by omega))
 have h4 : 10 ^ j * 2 ^ n ≤ 2 ^ (10 * j / 3 + 1 + n) := by rw [Nat.pow_add]; exact Nat.mul_le_mul_right _ h10
 rw [hB]
 refine ⟨Nat.lt_of_le_of_lt h4 (Nat.pow_lt_pow_right (by decide) ?_), Nat.lt_of_le_of_lt h10 (Nat.pow_lt_pow_right (by decide) ?_), Nat.pow_lt_pow_right (by decide) ?_⟩ <;> (clear h4 h10 hB; omega)
theorem arA (j : Nat) : yE (10 ^ j) ≤ 10 * j / 3 + 2 := by
 rw [yW]
 have h3 : ∀ q r : Nat, r < 3 → 10 ^ (3 * q + r) < 2 ^ (10 * q + (10 * r / 3 + 2)) := by
  intro q r hr
  rw [Nat.pow_add, Nat.pow_add 2, Nat.pow_mul, Nat.pow_mul 2]
  refine Nat.mul_lt_mul_of_le_of_lt (Nat.pow_le_pow_left (by decide) q) ?_ (Nat.pow_pos (by decide))
  rcases (by omega : r = 0 ∨ r = 1 ∨ r = 2) with rfl | rfl | rfl <;> decide
 have := h3 (j / 3) (j % 3) (Nat.mod_lt _ (by decide))
 rw [show 3 * (j / 3) + j % 3 = j by omega] at this
 exact Nat.lt_of_lt_of_le this (Nat.pow_le_pow_right (by decide) (by omega))
theorem axN : ∀ m : Nat, ¬ 5 ∣ 2 ^ m
 | 0 => by decide
 | m + 1 => fun h => by
  rw [Nat.pow_succ] at h
  have := axN m
  omega
def aiF (k : Int) : AV := .agg [.int .u64 ((agP k / M1 : Nat) : Int), .int .u64 ((agP k % M1 : Nat) : Int), .int .i64 (arX k), .bool (bcG k)]

theorem pow10Z (j : Nat) (q : Int) (hq : q = (j : Int)) (hj : j ≤ 1500) (H : Heap) : ACall Tryz.prog 268 [.int .i64 10, .int .i64 q] H (fun y H' => y = .tuple [aaP (10 ^ j), .int .i64 0] ∧ H' = H) := by
 subst hq
 exact amL 10 j (by decide) (by decide) (by omega) (acM (n := 0) hj (by decide)).2.1 H
theorem oneB (s : Nat) (q : Int) (hq : q = (s : Int)) (hs : s ≤ 3000) (H : Heap) : ACall Tryz.prog 272 [.slice 1 [.int .u32 1] .full, .int .i64 q] H (fun y H' => y = .tuple [aaP (2 ^ s), .int .i64 0] ∧ H' = H) := by
 subst hq
 have h := atM [1] .full (Limbs.mk (by decide) Limbs.nil) (by decide) s (by rw [show val [1] = 1 from rfl, Nat.one_mul]; exact (acM (j := 0) (by decide) hs).2.2) (by omega) H
 rw [show val [1] = 1 from rfl, Nat.one_mul] at h
 exact h
theorem axI {k : Int} (h : k < 0) : agP k = 2 ^ (yE (10 ^ (-k).toNat) + 127) / 10 ^ (-k).toNat ∧ arX k = -((yE (10 ^ (-k).toNat) : Int) + 127) ∧ bcG k = false := by
 refine ⟨?_, ?_, ?_⟩
 ·unfold agP; rw [if_pos h]
 ·unfold arX; rw [if_pos h]; omega
 ·unfold bcG; rw [if_pos h]
theorem anV {k : Int} (h : ¬ k < 0) (hb : yE (10 ^ k.toNat) ≤ 128) : agP k = 10 ^ k.toNat * 2 ^ (128 - yE (10 ^ k.toNat)) ∧ arX k = (yE (10 ^ k.toNat) : Int) - 128 ∧ bcG k = true := by
 refine ⟨?_, ?_, ?_⟩
 ·unfold agP; rw [if_neg h, if_pos hb]
 ·unfold arX; rw [if_neg h]
 ·unfold bcG; rw [if_neg h]; exact decide_eq_true (.inl hb)
theorem axJ {k : Int} (h : ¬ k < 0) (hb : ¬ yE (10 ^ k.toNat) ≤ 128) : agP k = 10 ^ k.toNat / 2 ^ (yE (10 ^ k.toNat) - 128) ∧ arX k = (yE (10 ^ k.toNat) : Int) - 128 ∧ bcG k = decide (10 ^ k.toNat % 2 ^ (yE (10 ^ k.toNat) - 128) = 0) := by
 refine ⟨?_, ?_, ?_⟩
 ·unfold agP; rw [if_neg h, if_neg hb]
 ·unfold arX; rw [if_neg h]
 ·unfold bcG; rw [if_neg h]; exact decide_eq_decide.2 ⟨fun q => q.resolve_left hb, .inr⟩
theorem apP (k : Int) : agP k < M2 := by
 have e128 : M2 = 2 ^ 128 := by decide +kernel
 rw [e128]
 rcases Int.lt_or_le k 0 with h | h
 ·rw [(axI h).1]
  have ht := auE (-k).toNat
  have hlo := blen_lo ht
  have hb := atJ ht
  rw [Nat.div_lt_iff_lt_mul ht]
  rcases Nat.lt_or_eq_of_le hlo with hl | hl
  ·have e : 2 ^ (yE (10 ^ (-k).toNat) + 127) = 2 ^ 128 * 2 ^ (yE (10 ^ (-k).toNat) - 1) := by rw [← Nat.pow_add]; congr 1; omega
   rw [e]
   exact Nat.mul_lt_mul_of_pos_left hl (Nat.pow_pos (by decide))
  ·-- a power of ten that is a power of two
   exfalso
   have hj : 0 < (-k).toNat := by omega
   have h5 : 10 ^ (-k).toNat = 2 ^ (-k).toNat * 5 ^ (-k).toNat := by rw [← Nat.mul_pow]
   have hodd : 5 ∣ 2 ^ (yE (10 ^ (-k).toNat) - 1) := by
    rw [hl, h5]
    exact Nat.dvd_trans (Nat.dvd_trans ⟨5 ^ ((-k).toNat - 1), by rw [← Nat.pow_succ', show ((-k).toNat - 1).succ = (-k).toNat by omega]⟩ (Nat.dvd_mul_left _ _)) (Nat.dvd_refl _)
   exact axN _ hodd
 ·rcases Nat.lt_or_ge 128 (yE (10 ^ k.toNat)) with hl | hl
  ·rw [(axJ (by omega) (by omega)).1, Nat.div_lt_iff_lt_mul (Nat.pow_pos (by decide)), ← Nat.pow_add]
   refine Nat.lt_of_lt_of_le (aqK _) (Nat.pow_le_pow_right (by decide) (by omega))
  ·rw [(anV (by omega) hl).1]
   refine Nat.lt_of_lt_of_le (Nat.mul_lt_mul_of_pos_right (aqK _) (Nat.pow_pos (by decide))) ?_
   rw [← Nat.pow_add]
   exact Nat.pow_le_pow_right (by decide) (by omega)

theorem shrZ (a s : Nat) (q : Int) (hq : q = (s : Int)) (h : a < BIG) (hs : s < 1000000000) (H : Heap) : ACall Tryz.prog 276 [aaP a, .int .i64 q] H (fun y H' => y = .tuple [aaP (a / 2 ^ s), .bool (decide (a % 2 ^ s ≠ 0)), .int .i64 0] ∧ H' = H) := by
 subst hq; exact shrB a s h hs H
theorem shlQ (a s : Nat) (q : Int) (hq : q = (s : Int)) (h : a * 2 ^ s < BIG) (hs : s < 1000000000) (H : Heap) : ACall Tryz.prog 272 [aaP a, .int .i64 q] H (fun y H' => y = .tuple [aaP (a * 2 ^ s), .int .i64 0] ∧ H' = H) := by
 subst hq; exact shlB a s h hs H
theorem powP_BIG (k : Int) : agP k < BIG := Nat.lt_trans (apP k) (by
  obtain ⟨K, hK, hB⟩ : ∃ K, K = 8192 ∧ BIG = 2 ^ K := ⟨32 * 256, rfl, amP _ rfl⟩
  rw [hB, show M2 = 2 ^ 128 by decide +kernel]
  exact Nat.pow_lt_pow_right (by decide) (by omega))
theorem valueP (k : Int) (H : Heap) : ACall Tryz.prog 338 [aaP (agP k)] H (fun y H' => y = u2 (agP k) ∧ H' = H) := by
 have h := atY (agP k) (by have := aaC (powP_BIG k); omega) H
 rw [Nat.mod_eq_of_lt (apP k)] at h; exact h

set_option maxRecDepth 100000 in
theorem baK (k : Int) (hk : -400 ≤ k ∧ k ≤ 400) (H : Heap) : ACall Tryz.prog 308 [.int .i64 k] H (fun y H' => y = aiF k ∧ H' = H) := by
 have hbl := arA k.natAbs
 have hp0 := auE k.natAbs
 have htB := (acM (j := k.natAbs) (n := 0) (by omega) (by decide)).2.1
 refine ACall.of_body Tryz.func308 rfl Tryz.ntmps308 Tryz.results308 rfl ?_
 iterate 2 refine AX ?_
 refine .s rfl (zG Tryz.zeroValue184 (zr184)) ?_
 rintro _ _ ⟨b2, hb2, rfl, hH⟩
 obtain rfl := hH.symm
 iterate 8 refine AX ?_
 refine .cl rfl Tryz.call268 (.cons zI (evs1 rfl)) (pow10Z k.natAbs _ (by simp only [asQ]; split <;> omega) (by omega) _) ?_
 iterate 14 refine AX ?_
 refine AWP.cx rfl (fun hc23 => ?_) (fun hc23 => ?_)
 ·have hP := axI (k := k) (by omega)
  rw [show (-k).toNat = k.natAbs by omega] at hP
  iterate 3 refine AX ?_
  refine .cl rfl Tryz.call271 (evs1 rfl) (lenB _ htB _) ?_
  iterate 6 refine AX ?_
  refine .e rfl (agZ Tryz.underlying239 Tryz.sizeOf166 Tryz.zeroValue166 rfl (zE 1) (.inl rfl) ⟨rfl, rfl⟩) ?_
  refine AX ?_
  refine .cl rfl Tryz.call272 (evs2 rfl rfl) (oneB (yE (10 ^ k.natAbs) + 127) _ (by omega) (by omega) _) ?_
  iterate 11 refine AX ?_
  refine .cl rfl Tryz.call273 (evs2 rfl rfl) (ajI _ _ (acM (j := 0) (by decide) (by omega)).2.2 hp0 htB _) ?_
  iterate 10 refine AX ?_
  rw [← hP.1]
  iterate 2 refine AX ?_
  refine .cl rfl Tryz.call338 (evs1 rfl) (valueP k _) ?_
  iterate 2 refine AX ?_
  refine .p rfl (zL [(0, 2), (2, 1), (3, 1)] Tryz.underlying184 Tryz.zeroValue184 (zr184) rfl (pl184 _ Tryz.underlying184) (.cons (tm rfl) (.inr ⟨_, rfl⟩) (.cons (tm rfl) (.inl rfl) (.cons yF (.inl rfl) .nil))) rfl) ?_
  refine .e0 (zB Tryz.sizeOf184 (tm rfl) (tm rfl) rfl rfl (.inr ⟨_, rfl⟩) (Heap.objs_set_same _ _ _) (Nat.le_of_ble_eq_true rfl)) ?_
  try first | rw [Heap.set_set] | rw [Heap.set_under (by assumption)]
  iterate 2 refine AX ?_
  refine AWP.frz (t := 2) rfl (hb2) ?_
  iterate 2 refine AX ?_
  refine Ret.go (.cons (.cellI _ _ _ _ rfl Tryz.isAgg184 Tryz.sizeOf184 rfl) .nil) _ (Heap.le.refl _) ?_
  refine ⟨?_, rfl⟩
  unfold aiF
  rw [hP.2.1, hP.2.2]
  rfl
 ·have hkt : k.toNat = k.natAbs := by omega
  iterate 5 refine AX ?_
  refine .cl rfl Tryz.call271 (evs1 rfl) (lenB _ htB _) ?_
  iterate 11 refine AX ?_
  refine AWP.cx rfl (fun hc49 => ?_) (fun hc49 => ?_)
  ·have hP := anV (k := k) (by omega) (by rw [hkt]; omega)
   rw [hkt] at hP
   iterate 5 refine AX ?_
   refine .cl rfl Tryz.call272 (evs2 rfl rfl) (shlQ _ (128 - yE (10 ^ k.natAbs)) _ (by omega) (acM (by omega) (by omega)).1 (by omega) _) ?_
   iterate 7 refine AX ?_
   rw [← hP.1]
   iterate 2 refine AX ?_
   refine .cl rfl Tryz.call338 (evs1 rfl) (valueP k _) ?_
   refine AX ?_
   refine .p rfl (zL [(0, 2), (2, 1), (3, 1)] Tryz.underlying184 Tryz.zeroValue184 (zr184) rfl (pl184 _ Tryz.underlying184) (.cons (tm rfl) (.inr ⟨_, rfl⟩) (.cons (tm rfl) (.inl rfl) (.cons yF (.inl rfl) .nil))) rfl) ?_
   refine .e0 (zB Tryz.sizeOf184 (tm rfl) (tm rfl) rfl rfl (.inr ⟨_, rfl⟩) (Heap.objs_set_same _ _ _) (Nat.le_of_ble_eq_true rfl)) ?_
   try first | rw [Heap.set_set] | rw [Heap.set_under (by assumption)]
   iterate 2 refine AX ?_
   refine AWP.frz (t := 2) rfl (hb2) ?_
   iterate 2 refine AX ?_
   refine Ret.go (.cons (.cellI _ _ _ _ rfl Tryz.isAgg184 Tryz.sizeOf184 rfl) .nil) _ (Heap.le.refl _) ?_
   refine ⟨?_, rfl⟩
   unfold aiF
   rw [hP.2.1, hP.2.2]
   rfl
  ·have hP := axJ (k := k) (by omega) (by rw [hkt]; omega)
   rw [hkt] at hP
   iterate 6 refine AX ?_
   refine .cl rfl Tryz.call276 (evs2 rfl rfl) (shrZ _ (yE (10 ^ k.natAbs) - 128) _ (by omega) htB (by omega) _) ?_
   iterate 10 refine AX ?_
   rw [← hP.1]
   iterate 2 refine AX ?_
   refine .cl rfl Tryz.call338 (evs1 rfl) (valueP k _) ?_
   iterate 3 refine AX ?_
   refine .p rfl (zL [(0, 2), (2, 1), (3, 1)] Tryz.underlying184 Tryz.zeroValue184 (zr184) rfl (pl184 _ Tryz.underlying184) (.cons (tm rfl) (.inr ⟨_, rfl⟩) (.cons (tm rfl) (.inl rfl) (.cons (tm rfl) (.inl rfl) .nil))) rfl) ?_
   refine .e0 (zB Tryz.sizeOf184 (tm rfl) (tm rfl) rfl rfl (.inr ⟨_, rfl⟩) (Heap.objs_set_same _ _ _) (Nat.le_of_ble_eq_true rfl)) ?_
   try first | rw [Heap.set_set] | rw [Heap.set_under (by assumption)]
   iterate 2 refine AX ?_
   refine AWP.frz (t := 2) rfl (hb2) ?_
   refine AX ?_
   refine Ret.go (.cons (.cellI _ _ _ _ rfl Tryz.isAgg184 Tryz.sizeOf184 rfl) .nil) _ (Heap.le.refl _) ?_
   refine ⟨?_, rfl⟩
   unfold aiF
   rw [hP.2.1, hP.2.2]
   have e : (!decide (10 ^ k.natAbs % 2 ^ (yE (10 ^ k.natAbs) - 128) ≠ 0)) = decide (10 ^ k.natAbs % 2 ^ (yE (10 ^ k.natAbs) - 128) = 0) := by simp
   rw [← e]
   rfl
end Go.Proofs.YtmmgbnolccpjoaaGreatDoor
