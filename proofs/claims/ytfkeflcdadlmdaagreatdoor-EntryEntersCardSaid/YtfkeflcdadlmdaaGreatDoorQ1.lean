import Derived.Test.YtfkeflcdadlmdaaGreatDoorYd
import Derived.Test.YtfkeflcdadlmdaaGreatDoorSsk
import Derived.Test.YtfkeflcdadlmdaaGreatDoorP2
import Derived.Test.YtfkeflcdadlmdaaGreatDoorN2
import Derived.Test.YtfkeflcdadlmdaaGreatDoorP1
import Derived.Test.YtfkeflcdadlmdaaGreatDoorN3
namespace Go.Proofs.YtfkeflcdadlmdaaGreatDoor
open Go Go.RowKit

def aoS (v i : Nat) : Nat := v / 4294967296 ^ ((zE v).length - i) % M2
theorem alO (v : Nat) : aoS v 0 = 0 := by
 have h := aiX (zJ v) (Nat.le_refl (zE v).length)
 rw [List.drop_length, zM] at h
 unfold aoS
 rw [Nat.sub_zero, ← h]; rfl
theorem azB (v : Nat) : aoS v (zE v).length = v % M2 := by
 unfold aoS
 rw [Nat.sub_self, Nat.pow_zero, Nat.div_one]
theorem bfJ {v i : Nat} (h : i < (zE v).length) : aoS v (i + 1) = (aoS v i * 4294967296 + (zE v).getD ((zE v).length - 1 - i) 0) % M2 := by
 have h1 := aiX (zJ v) (show (zE v).length - 1 - i ≤ (zE v).length by omega)
 have h2 := aiX (zJ v) (show (zE v).length - i ≤ (zE v).length by omega)
 rw [zM] at h1 h2
 have h3 : (zE v).drop ((zE v).length - 1 - i) = (zE v).getD ((zE v).length - 1 - i) 0 :: (zE v).drop ((zE v).length - i) := by
  rw [List.drop_eq_getElem_cons (show (zE v).length - 1 - i < (zE v).length by omega), List.getD_eq_getElem?_getD, List.getElem?_eq_getElem (show (zE v).length - 1 - i < (zE v).length by omega), show (zE v).length - 1 - i + 1 = (zE v).length - i by omega]
  rfl
 rw [h3, val, h2] at h1
 unfold aoS
 rw [show (zE v).length - (i + 1) = (zE v).length - 1 - i by omega, ← h1]
 generalize v / 4294967296 ^ ((zE v).length - i) = q
 generalize (zE v).getD ((zE v).length - 1 - i) 0 = x
 unfold M2; omega
theorem asR {v i : Nat} (h : i < (zE v).length) : putRow (u2 (aoS v i * 2 ^ 32 % M2)).cells 1 [.int .u64 (((aoS v i * 2 ^ 32 % M2 % M1 ||| (zE v).getD ((zE v).length - 1 - i) 0 : Nat)) : Int)] = (u2 (aoS v (i + 1))).cells := by
 obtain ⟨e1, e2⟩ := take_in (v := aoS v i) (Limbs.getD (zJ v) ((zE v).length - 1 - i))
 rw [bfJ h, e2]
 show putRow [.int .u64 (((aoS v i * 2 ^ 32 % M2 / M1 : Nat)) : Int), _] 1 _ = _
 rw [e1]; rfl
theorem axT : ∀ (c v : Nat), (zE v).drop c = zE (v / 4294967296 ^ c)
 | 0, v => by rw [List.drop_zero, Nat.pow_zero, Nat.div_one]
 | c + 1, v => by
  rcases Nat.eq_zero_or_pos v with h | h
  ·subst h; rw [Nat.zero_div, qX, List.drop_nil]
  ·rw [qA h, List.drop_succ_cons, axT c, Nat.div_div_eq_div_mul, Nat.pow_succ, Nat.mul_comm]
theorem low_mod {v c : Nat} (h : c ≤ (zE v).length) : val ((zE v).take c) = v % 4294967296 ^ c := by
 have h1 := aeD h
 have h2 := ajG (zJ v) h
 rw [zM] at h1
 conv => rhs; rw [h1]
 rw [Nat.add_mul_mod_self_left, Nat.mod_eq_of_lt h2]
theorem arG (c : Nat) : 4294967296 ^ c = 2 ^ (32 * c) := by rw [show (4294967296 : Nat) = 2 ^ 32 by decide, ← Nat.pow_mul]
theorem limbs4 {v : Nat} (h : (zE v).length ≤ 4) : v < M2 := by
 have := aeC (zJ v)
 rw [zM] at this
 refine Nat.lt_of_lt_of_le this ?_
 rw [arG, show M2 = 2 ^ 128 by decide +kernel]
 exact Nat.pow_le_pow_right (by decide) (by omega)
theorem auJ {v c : Nat} (h : (zE v).length = c + 4) : 55 ≤ yI (v / 2 ^ (32 * c)) ∧ v / 2 ^ (32 * c) < M2 ∧ (zE (v / 2 ^ (32 * c))).length = 4 := by
 have e := axT c v
 rw [arG] at e
 have el : (zE (v / 2 ^ (32 * c))).length = 4 := by rw [← e, List.length_drop]; omega
 refine ⟨?_, limbs4 (by omega), el⟩
 have hp : 0 < v / 2 ^ (32 * c) := by
  rcases Nat.eq_zero_or_pos (v / 2 ^ (32 * c)) with h0 | h0
  ·rw [h0] at el; simp [qX] at el
  ·exact h0
 have := agX hp
 omega

def bfD (v b2 b3 : Nat) (H : Heap) : Nat → Env → Heap → Prop := fun k env H1 => ∃ i : Nat, i ≤ (zE v).length ∧ env = [(0, aaA v), (2, .ptr (some ⟨b2, 0, none⟩)), (3, .ptr (some ⟨b3, 0, none⟩)), (6, .int .i64 ((zE v).length : Int)), (7, .int .i64 (i : Int))] ∧ H1 = (H.set b2 (.box 122 [.int .u64 0, .int .u64 0])).set b3 (.box 122 (u2 (aoS v i)).cells) ∧ k = (zE v).length - i

set_option maxRecDepth 100000 in
theorem awA (v : Nat) (hv : (zE v).length ≤ 1000000) (H : Heap) : ACall Tryz.prog 235 [aaA v] H (fun y H' => y = u2 (v % M2) ∧ H' = H) := by
 refine ACall.of_body Tryz.func235 rfl Tryz.ntmps235 Tryz.results235 rfl ?_
 iterate 2 refine AX ?_
 refine .s rfl (zL Tryz.zeroValue122 (zr122)) ?_
 rintro _ _ ⟨b2, hb2, rfl, hH⟩
 obtain rfl := hH.symm
 iterate 4 refine AX ?_
 refine .s rfl (zL Tryz.zeroValue122 (zr122)) ?_
 rintro _ _ ⟨b3, hb3, rfl, hH⟩
 obtain rfl := hH.symm
 have hn2_3 := Heap.ne_of (Heap.objs_set_same _ _ _) hb3
 iterate 11 refine AX ?_
 rw [show ([.int .u64 0, .int .u64 0] : List AV) = (u2 (aoS v 0)).cells by rw [alO]; rfl]
 refine AWP.loopW (bfD v b2 b3 H) ((zE v).length) ⟨0, Nat.zero_le _, rfl, by rw [alO]; rfl, rfl⟩ sX (Heap.le.refl _) ?_
 rintro _ _ _ ⟨i, hi, rfl, rfl, rfl⟩
 iterate 6 refine AX ?_
 refine AWP.cx rfl (fun hc8 => ?_) (fun hc8 => ?_)
 ·have hlv : i < (zE v).length := by omega
  have hgx := Limbs.getD (zJ v) ((zE v).length - 1 - i)
  have hlo : aoS v i * 2 ^ 32 % M2 % M1 < 18446744073709551616 := aeN _
  iterate 12 refine AX ?_
  refine .e rfl (yJ Tryz.isAgg122 Tryz.sizeOf122 (tm rfl) (Heap.objs_set_same _ _ _) (Nat.le_of_ble_eq_true rfl)) (.cl rfl Tryz.call194 (.cons (tm rfl) (.cons zF .nil)) (agD (aoS v i) 32 (by decide) 32 rfl _) (.e0 (zB Tryz.sizeOf122 (tm rfl) (tm rfl) rfl rfl (.inr ⟨_, rfl⟩) (Heap.objs_set_same _ _ _) (Nat.le_of_ble_eq_true rfl)) ?_))
  try first | rw [Heap.set_set] | rw [Heap.set_under (by assumption)]
  iterate 2 refine AX ?_
  refine AWP.draw [(0, true), (2, true), (3, true), (4, true), (5, true), (6, true), (7, true), (8, true), (9, true), (10, true), (1, false), (11, true), (12, true), (13, false)] rfl (by decide +kernel) ?_
  refine .p rfl rfl (zD Tryz.underlying122 rfl Tryz.sizeOf30 (tm rfl)) ?_
  iterate 3 refine AX ?_
  refine .p rfl rfl (zO (tm rfl) zF (by omega)) ?_
  refine AX ?_
  refine .p rfl rfl (zO (tm rfl) (tm rfl) (by omega)) (.p rfl rfl (zV ((zE v).length - 1 - i) Tryz.underlying170 Tryz.sizeOf112 (tm rfl) (tm rfl) (by omega) (by omega)) ?_)
  refine AX ?_
  refine .p rfl rfl (zT Tryz.underlying112 Tryz.underlying30 (tm rfl) (wrapN64 (by omega))) (.s rfl rfl (zN Tryz.isAgg30 (tm rfl) (Heap.objs_set_same _ _ _) rfl) ?_)
  rintro _ _ ⟨rfl, hH⟩
  obtain rfl := hH.symm
  refine .p rfl rfl (qT (tm rfl) (tm rfl) (by assumption) (by omega)) (.p rfl rfl (zD Tryz.underlying122 rfl Tryz.sizeOf30 (tm rfl)) (.s0 rfl (zB Tryz.sizeOf30 (tm rfl) (tm rfl) rfl rfl (.inl rfl) (Heap.objs_set_same _ _ _) (Nat.le_of_ble_eq_true rfl)) ?_))
  rintro _ _ ⟨rfl, hH⟩
  obtain rfl := hH.symm
  try first | rw [Heap.set_set] | rw [Heap.set_under (by assumption)]
  iterate 4 refine AX ?_
  refine .p rfl (zK (tm rfl) zF (by omega)) ?_
  iterate 3 refine AX ?_
  refine Round.mk (J := bfD v b2 b3 H) ⟨i + 1, by omega, rfl, rfl, rfl⟩ (yC rfl (yC rfl (yC rfl (yC rfl (zW rfl (by congr 1) yX))))) (by rw [← asR hlv]; exact Heap.le.refl _) (by omega)
 ·obtain rfl : i = (zE v).length := by omega
  rw [azB]
  iterate 7 refine AX ?_
  refine .e rfl (yJ Tryz.isAgg122 Tryz.sizeOf122 (tm rfl) (Heap.objs_set_same _ _ _) (Nat.le_of_ble_eq_true rfl)) (.e0 (zB Tryz.sizeOf122 (tm rfl) (tm rfl) rfl rfl (.inr ⟨_, rfl⟩) ((Heap.objs_set_ne _ _ (by assumption)).trans (Heap.objs_set_same _ _ _)) (Nat.le_of_ble_eq_true rfl)) ?_)
  try first | rw [Heap.set_set] | rw [Heap.set_under (by assumption)]
  iterate 2 refine AX ?_
  refine AWP.dropb (Heap.fresh_set hb3 _) ?_
  refine AWP.frz (t := 2) rfl (hb2) ?_
  refine AX ?_
  refine Ret.go (.cons (.cellI _ _ _ _ rfl Tryz.isAgg122 Tryz.sizeOf122 rfl) .nil) _ (Heap.le.refl _) ?_
  exact ⟨rfl, rfl⟩

def afR (v : Nat) : Nat := (zE v).length - 4
def lowB (v : Nat) (more : Bool) : Bool := more || decide (v % 2 ^ (32 * afR v) ≠ 0)
theorem bgK {neg : Bool} {v : Nat} {e : Int} {more : Bool} (he : -10000 ≤ e ∧ e ≤ 2000) : yB neg v e more = yB neg (v / 2 ^ (32 * afR v)) (e + 32 * (afR v : Int)) (lowB v more) := by
 rcases Nat.eq_zero_or_pos (afR v) with h | h
 ·unfold lowB
  rw [h]
  simp [Nat.mod_one]
 ·have hl : (zE v).length = afR v + 4 := by unfold afR at *; omega
  have := amC (neg := neg) (n := v) (j := 32 * afR v) (more := more) (auJ hl).1 he.1 he.2
  rw [this]
  unfold lowB
  congr 1 <;> omega
theorem cut_lt (v : Nat) : v / 2 ^ (32 * afR v) < M2 ∧ (zE (v / 2 ^ (32 * afR v))).length ≤ 4 := by
 rcases Nat.eq_zero_or_pos (afR v) with h | h
 ·rw [h, Nat.mul_zero, Nat.pow_zero, Nat.div_one]
  have : (zE v).length ≤ 4 := by unfold afR at h; omega
  exact ⟨limbs4 this, this⟩
 ·have hl : (zE v).length = afR v + 4 := by unfold afR at *; omega
  have := auJ hl
  exact ⟨this.2.1, by omega⟩
theorem auF {more : Bool} {v c i x : Nat} (hx : x = (zE v).getD i 0) : (more || decide (val ((zE v).take i) ≠ 0) || decide (((0 : Nat) : Int) < (x : Int))) = (more || decide (val ((zE v).take (i + 1)) ≠ 0)) := by
 rw [yT, ← hx, Bool.or_assoc]
 congr 1
 rw [← Bool.decide_or]
 refine decide_eq_decide.2 ?_
 have hp : 0 < 4294967296 ^ i := Nat.pow_pos (by decide)
 generalize 4294967296 ^ i = q at *
 generalize val ((zE v).take i) = y
 rcases Nat.eq_zero_or_pos x with h | h
 ·subst h; simp
 ·have h2 : 0 < q * x := Nat.mul_pos hp h
  constructor
  ·intro _; omega
  ·intro _; exact .inr (by omega)
theorem bdX {l : List Nat} {c i : Nat} (h : i < c) : (l.take c).getD i 0 = l.getD i 0 := by
 rw [List.getD_eq_getElem?_getD, List.getElem?_take, if_pos h, List.getD_eq_getElem?_getD]
theorem low_all {v : Nat} {more : Bool} : (more || decide (val ((zE v).take (afR v)) ≠ 0)) = lowB v more := by
 unfold lowB
 rw [low_mod (show afR v ≤ (zE v).length by unfold afR; omega), arG]

def awS (neg more : Bool) (e : Int) (v : Nat) (H : Heap) : Nat → Env → Heap → Prop := fun k env H1 => ∃ i : Nat, i ≤ afR v ∧ env = [(0, .bool neg), (1, aaA v), (2, .int .i64 e), (3, .bool (more || decide (val ((zE v).take i) ≠ 0))), (8, .int .u64 ((0 : Nat) : Int)), (9, .int .i64 (((zE v).length : Int) - 4)), (23, .slice 1 (U .u32 ((zE v).take (afR v))) .shared), (24, .int .i64 (((zE v).take (afR v)).length : Int)), (25, .int .i64 (i : Int))] ∧ H = H1 ∧ k = afR v - i

def bgL (neg more : Bool) (e : Int) (v b : Nat) (H : Heap) : Nat → Env → Heap → Prop := fun k env H1 => ∃ i : Nat, i ≤ (zE v).length ∧ env = [(0, .bool neg), (1, aaA v), (2, .int .i64 e), (3, .bool more), (12, .ptr (some ⟨b, 0, none⟩)), (45, .int .i64 ((zE v).length : Int)), (46, .int .i64 (i : Int))] ∧ H1 = H.set b (.box 122 (u2 (aoS v i)).cells) ∧ k = (zE v).length - i

set_option maxRecDepth 100000 in
theorem anX (neg : Bool) (xs : List Nat) (tl : Tail) (hx : Limbs xs) (hl : xs.length ≤ 1000) (e : Int) (he : -10000 ≤ e ∧ e ≤ 2000) (more : Bool) (H : Heap) : ACall Tryz.prog 159 [.bool neg, .slice 1 (U .u32 xs) tl, .int .i64 e, .bool more] H (fun y H' => y = .int .u64 ((yB neg (val xs) e more : Nat) : Int) ∧ H' = H) := by
 have hr := bgK (neg := neg) (v := val xs) (e := e) (more := more) he
 have hcl := cut_lt (val xs)
 have hvl : (zE (val xs)).length ≤ xs.length := by rw [← aaG hx]; exact qV xs
 have hcd : afR (val xs) = (zE (val xs)).length - 4 := rfl
 have hdr := axT (afR (val xs)) (val xs)
 rw [arG] at hdr
 have hla := low_all (v := val xs) (more := more)
 have hT := ajY xs tl hx (by omega)
 generalize val xs = v0 at *
 refine ACall.of_body Tryz.func159 rfl Tryz.ntmps159 Tryz.results159 rfl ?_
 iterate 2 refine AX ?_
 refine .p rfl (zC (zG 0)) ?_
 iterate 5 refine AX ?_
 refine .cl rfl Tryz.call167 (evs1 rfl) (hT _) ?_
 iterate 3 refine AX ?_
 refine AWP.seqToL [(1, aaA (v0 / 2 ^ (32 * afR v0))), (2, .int .i64 (e + 32 * (afR v0 : Int))), (3, .bool (lowB v0 more))] [0, 8] ?_ ?_
 ·iterate 4 refine AX ?_
  refine .p rfl (zO (tm rfl) zF (by omega)) ?_
  iterate 9 refine AX ?_
  refine AWP.cx rfl (fun hc20 => ?_) (fun hc20 => ?_)
  ·iterate 5 refine AX ?_
   refine .p rfl (adE (afR v0) Tryz.underlying170 Tryz.sizeOf112 (tm rfl) (tm rfl) (by omega) (by omega)) ?_
   iterate 5 refine AX ?_
   refine AWP.loopW (awS neg more e v0 H) (afR v0) ⟨0, Nat.zero_le _, rfl, rfl, rfl⟩ (yC rfl (yC rfl (yC rfl (zW rfl (by simp [val]) sX)))) (Heap.le.refl _) ?_
   rintro _ _ _ ⟨i, hi, rfl, rfl, rfl⟩
   have htl : ((zE v0).take (afR v0)).length = afR v0 := by rw [List.length_take]; omega
   have hgq : ((zE v0).take (afR v0)).getD i 0 < 18446744073709551616 := Nat.lt_trans (Limbs.getD ((zJ v0).take _) i) (by decide)
   iterate 6 refine AX ?_
   refine AWP.cx rfl (fun hc26 => ?_) (fun hc26 => ?_)
   ·have hgt := bdX (l := zE v0) (c := afR v0) (i := i) (by omega)
    iterate 6 refine AX ?_
    refine .p rfl (zV (i) Tryz.underlying170 Tryz.sizeOf112 (tm rfl) (tm rfl) (by omega) (by omega)) ?_
    iterate 7 refine AX ?_
    refine zI (t := 30) rfl (fun hg30 => ?_) (fun hg30 => ?_)
    ·have hh30 := hg30; try simp only [ne_eq] at hh30
     iterate 8 refine AX ?_
     refine .p rfl (zK (tm rfl) zF (by omega)) ?_
     iterate 3 refine AX ?_
     refine Round.mk (J := awS neg more e v0 H) ⟨i + 1, by omega, rfl, rfl, rfl⟩ (yC rfl (yC rfl (yC rfl (zW rfl (by rw [← auF (c := 0) hgt, hg30]; rfl) sX)))) (Heap.le.refl _) (by omega)
    ·have hh30 := hg30; try simp only [ne_eq] at hh30
     refine AX ?_
     refine .gp rfl rfl rfl (by assumption) (qK (tm rfl) (zG 0)) ?_
     iterate 6 refine AX ?_
     refine .p rfl (zK (tm rfl) zF (by omega)) ?_
     iterate 3 refine AX ?_
     refine Round.mk (J := awS neg more e v0 H) ⟨i + 1, by omega, rfl, rfl, rfl⟩ (yC rfl (yC rfl (yC rfl (zW rfl (by rw [← auF (c := 0) hgt, hg30]; rfl) sX)))) (Heap.le.refl _) (by omega)
   ·obtain rfl : i = afR v0 := by omega
    iterate 12 refine AX ?_
    refine AWP.cond_true (tm rfl) (by exact decide_eq_true (by omega)) ?_
    iterate 3 refine AX ?_
    refine .p rfl (agP zF (tm rfl) (by omega)) (.p rfl (zK (tm rfl) (tm rfl) (by omega)) ?_)
    iterate 6 refine AX ?_
    refine .p rfl (aiK (afR v0) Tryz.underlying170 Tryz.sizeOf112 (tm rfl) (tm rfl) (by omega) (by omega)) ?_
    iterate 2 refine AX ?_
    exact ⟨rfl, (zW rfl (by (rw [hdr]; rfl)) (zW rfl (by (congr 1; omega)) (zW rfl (by (rw [← hla]; done)) sX))), rfl⟩
  ·have hc0 : afR v0 = 0 := by omega
   refine AX ?_
   exact ⟨rfl, (zW rfl (by (rw [hc0, Nat.mul_zero, Nat.pow_zero, Nat.div_one]; done)) (zW rfl (by (congr 1; omega)) (zW rfl (by (rw [← hla, hc0]; simp [val])) sX))), rfl⟩
 ·refine AWP.sub [(1, _), (2, _), (3, _), (0, _), (8, _)] sX ?_
  have he2 : -10000 ≤ e + 32 * (afR v0 : Int) ∧ e + 32 * (afR v0 : Int) ≤ 100000 := by omega
  rw [hr]
  generalize e + 32 * (afR v0 : Int) = e2 at he2 ⊢
  generalize lowB v0 more = more2
  obtain ⟨hv, hv4⟩ := hcl
  clear hla hdr hr
  generalize v0 / 2 ^ (32 * afR v0) = v at hv hv4 ⊢
  iterate 2 refine AX ?_
  refine .s rfl (zL Tryz.zeroValue122 (zr122)) ?_
  rintro _ _ ⟨b12, hb12, rfl, hH⟩
  obtain rfl := hH.symm
  iterate 11 refine AX ?_
  rw [show ([.int .u64 0, .int .u64 0] : List AV) = (u2 (aoS v 0)).cells by rw [alO]; rfl]
  refine AWP.loopW (bgL neg more2 e2 v b12 H) ((zE v).length) ⟨0, Nat.zero_le _, rfl, rfl, rfl⟩ sX (Heap.le.refl _) ?_
  rintro _ _ _ ⟨i, hi, rfl, rfl, rfl⟩
  iterate 6 refine AX ?_
  refine AWP.cx rfl (fun hc47 => ?_) (fun hc47 => ?_)
  ·have hlv : i < (zE v).length := by omega
   have hgx := Limbs.getD (zJ v) ((zE v).length - 1 - i)
   have hlo : aoS v i * 2 ^ 32 % M2 % M1 < 18446744073709551616 := aeN _
   iterate 12 refine AX ?_
   refine .e rfl (yJ Tryz.isAgg122 Tryz.sizeOf122 (tm rfl) (Heap.objs_set_same _ _ _) (Nat.le_of_ble_eq_true rfl)) (.cl rfl Tryz.call194 (.cons (tm rfl) (.cons zF .nil)) (agD (aoS v i) 32 (by decide) 32 rfl _) (.e0 (zB Tryz.sizeOf122 (tm rfl) (tm rfl) rfl rfl (.inr ⟨_, rfl⟩) (Heap.objs_set_same _ _ _) (Nat.le_of_ble_eq_true rfl)) ?_))
   try first | rw [Heap.set_set] | rw [Heap.set_under (by assumption)]
   iterate 2 refine AX ?_
   refine AWP.draw [(0, true), (2, true), (3, true), (4, true), (5, true), (6, true), (7, true), (8, true), (9, true), (10, true), (1, false), (11, true), (12, true), (13, false)] rfl (by decide +kernel) ?_
   refine .p rfl rfl (zD Tryz.underlying122 rfl Tryz.sizeOf30 (tm rfl)) ?_
   iterate 3 refine AX ?_
   refine .p rfl rfl (zO (tm rfl) zF (by omega)) ?_
   refine AX ?_
   refine .p rfl rfl (zO (tm rfl) (tm rfl) (by omega)) (.p rfl rfl (zV ((zE v).length - 1 - i) Tryz.underlying170 Tryz.sizeOf112 (tm rfl) (tm rfl) (by omega) (by omega)) ?_)
   refine AX ?_
   refine .p rfl rfl (zT Tryz.underlying112 Tryz.underlying30 (tm rfl) (wrapN64 (by omega))) (.s rfl rfl (zN Tryz.isAgg30 (tm rfl) (Heap.objs_set_same _ _ _) rfl) ?_)
   rintro _ _ ⟨rfl, hH⟩
   obtain rfl := hH.symm
   refine .p rfl rfl (qT (tm rfl) (tm rfl) (by assumption) (by omega)) (.p rfl rfl (zD Tryz.underlying122 rfl Tryz.sizeOf30 (tm rfl)) (.s0 rfl (zB Tryz.sizeOf30 (tm rfl) (tm rfl) rfl rfl (.inl rfl) (Heap.objs_set_same _ _ _) (Nat.le_of_ble_eq_true rfl)) ?_))
   rintro _ _ ⟨rfl, hH⟩
   obtain rfl := hH.symm
   try first | rw [Heap.set_set] | rw [Heap.set_under (by assumption)]
   iterate 4 refine AX ?_
   refine .p rfl (zK (tm rfl) zF (by omega)) ?_
   iterate 3 refine AX ?_
   refine Round.mk (J := bgL neg more2 e2 v b12 H) ⟨i + 1, by omega, rfl, rfl, rfl⟩ sX (by rw [← asR hlv]; exact Heap.le.refl _) (by omega)
  ·obtain rfl : i = (zE v).length := by omega
   rw [azB, Nat.mod_eq_of_lt hv]
   iterate 8 refine AX ?_
   refine .e rfl (yJ Tryz.isAgg122 Tryz.sizeOf122 (tm rfl) (Heap.objs_set_same _ _ _) (Nat.le_of_ble_eq_true rfl)) ?_
   iterate 2 refine AX ?_
   refine .cl rfl Tryz.call147 (.cons (tm rfl) (evs3 rfl rfl rfl)) (akA neg v hv e2 (by constructor <;> omega) more2 _) ?_
   iterate 3 refine AX ?_
   refine AWP.dropb (hb12) ?_
   refine AX ?_
   refine Ret.go (.cons (.tmp _ _ rfl) .nil) _ (Heap.le.refl _) ?_
   refine ⟨?_, rfl⟩
   rfl
theorem zr124 : ∀ g, RelCells g [.int .u64 0, .int .u64 0, .int .i64 0, .bool false] (Value.cells (Go.Value.agg #[Go.Value.int Go.IntKind.u64 0, Go.Value.int Go.IntKind.u64 0, Go.Value.int Go.IntKind.i64 0, Go.Value.bool false])) := fun g => RelL.cells (.cons (.int _ _) (.cons (.int _ _) (.cons (.int _ _) (.cons (.bool _) .nil))))
theorem pl124 (fs : Array Field) (hfs : Tryz.prog.underlying 124 = some (.struct fs)) : ∀ (i : Nat) f p, fs[i]? = some f → [(0, 2), (2, 1), (3, 1)][i]? = some p → ∀ w, (sizeOf f.type).run Tryz.prog w = .ok p.2 w := by
 have e := (Option.some.inj (hfs.symm.trans Tryz.underlying124))
 cases e
 intro i f p hf hp w
 match i with
 | 0 => cases hf; cases hp; exact Tryz.sizeOf122 w
 | 1 => cases hf; cases hp; exact Tryz.sizeOf3 w
 | 2 => cases hf; cases hp; exact Tryz.sizeOf4 w
 | i + 3 => simp at hp

def six (w : Nat) : List Nat := [w % M1 % 2 ^ IntKind.u32.bits, w % M1 / 2 ^ 32 % 2 ^ IntKind.u32.bits, w / M1 % M1 % 2 ^ IntKind.u32.bits, w / M1 % M1 / 2 ^ 32 % 2 ^ IntKind.u32.bits, w / M2 % 2 ^ IntKind.u32.bits, w / M2 / 2 ^ 32 % 2 ^ IntKind.u32.bits]
theorem six_val {w : Nat} (h : w < M3) : val (six w) = w := by
 have h3 := baS h
 unfold six val
 simp only [val, IntKind.bits]
 have e1 := Nat.div_add_mod w M1
 have e2 := Nat.div_add_mod (w / M1) M1
 rw [baZ] at e2
 have ha := aeN w
 generalize w % M1 = a at *
 generalize hb : w / M1 = b at *
 generalize w / M2 = c at *
 have hbm : b % M1 < M1 := aeN b
 generalize b % M1 = d at *
 unfold M1 at *
 omega
theorem bfX (w : Nat) : Limbs (six w) := by
 have k : ∀ x : Nat, x % 2 ^ IntKind.u32.bits < 4294967296 := fun x => Nat.mod_lt _ (by decide)
 exact Limbs.mk (k _) (Limbs.mk (k _) (Limbs.mk (k _) (Limbs.mk (k _) (Limbs.mk (k _) (Limbs.mk (k _) Limbs.nil)))))
theorem round6 (w : Nat) (h : w < M3) (e : Int) (he : -10000 ≤ e ∧ e ≤ 2000) (H : Heap) : ACall Tryz.prog 159 [.bool false, .slice 1 (U .u32 (six w)) .full, .int .i64 e, .bool false] H (fun y H' => y = .int .u64 ((yB false w e false : Nat) : Int) ∧ H' = H) := by
 have q := anX false (six w) .full (bfX w) (by show 6 ≤ 1000; decide) e he false H
 rw [six_val h] at q; exact q
theorem roundB (n : Nat) (h : n < BIG) (e : Int) (he : -10000 ≤ e ∧ e ≤ 2000) (more : Bool) (H : Heap) : ACall Tryz.prog 159 [.bool false, aaA n, .int .i64 e, .bool more] H (fun y H' => y = .int .u64 ((yB false n e more : Nat) : Int) ∧ H' = H) := by
 have q := anX false (zE n) .shared (zJ n) (by have := yU h; omega) e he more H
 rw [zM] at q; exact q

set_option maxRecDepth 100000 in
theorem apT (w : Nat) (hw : w < M3) (e : Int) (he : -10000 ≤ e ∧ e ≤ 2000) (H : Heap) : ACall Tryz.prog 153 [u3 w, .int .i64 e] H (fun y H' => y = .int .u64 ((yB false w e false : Nat) : Int) ∧ H' = H) := by
 have hh := baS hw
 have hm := aeN (w / M1)
 have hl := aeN w
 have q1 : w % M1 < 18446744073709551616 := hl
 have q2 : w / M1 % M1 < 18446744073709551616 := hm
 have q3 : w / M2 < 18446744073709551616 := hh
 refine ACall.of_body Tryz.func153 rfl Tryz.ntmps153 Tryz.results153 rfl ?_
 iterate 2 refine AX ?_
 refine .e rfl (yF (tm rfl) (.inr ⟨_, rfl⟩)) (.p rfl (zC (zG 0)) ?_)
 iterate 4 refine AX ?_
 refine .p rfl (zA Tryz.underlying192 rfl Tryz.sizeOf30 (tm rfl)) ?_
 refine AX ?_
 refine .p rfl (yL Tryz.underlying30 Tryz.underlying112 rfl (tm rfl)) (.p rfl (zA Tryz.underlying192 rfl Tryz.sizeOf30 (tm rfl)) ?_)
 refine AX ?_
 refine .p rfl (yG (tm rfl) (zG 32) (by assumption)) (.p rfl (yL Tryz.underlying30 Tryz.underlying112 rfl (tm rfl)) (.p rfl (zA Tryz.underlying192 rfl Tryz.sizeOf30 (tm rfl)) ?_))
 refine AX ?_
 refine .p rfl (yL Tryz.underlying30 Tryz.underlying112 rfl (tm rfl)) (.p rfl (zA Tryz.underlying192 rfl Tryz.sizeOf30 (tm rfl)) ?_)
 refine AX ?_
 refine .p rfl (yG (tm rfl) (zG 32) (by assumption)) (.p rfl (yL Tryz.underlying30 Tryz.underlying112 rfl (tm rfl)) (.p rfl (zA Tryz.underlying192 rfl Tryz.sizeOf30 (tm rfl)) ?_))
 refine AX ?_
 refine .p rfl (yL Tryz.underlying30 Tryz.underlying112 rfl (tm rfl)) (.p rfl (zA Tryz.underlying192 rfl Tryz.sizeOf30 (tm rfl)) ?_)
 refine AX ?_
 refine .p rfl (yG (tm rfl) (zG 32) (by assumption)) (.p rfl (yL Tryz.underlying30 Tryz.underlying112 rfl (tm rfl)) ?_)
 refine .e rfl (afA Tryz.underlying170 Tryz.sizeOf112 Tryz.zeroValue112 rfl rfl rfl (.cons (tm rfl) (.inl rfl) (.cons (tm rfl) (.inl rfl) (.cons (tm rfl) (.inl rfl) (.cons (tm rfl) (.inl rfl) (.cons (tm rfl) (.inl rfl) (.cons (tm rfl) (.inl rfl) .nil)))))) (yS ⟨rfl, rfl⟩ (yS ⟨rfl, rfl⟩ (yS ⟨rfl, rfl⟩ (yS ⟨rfl, rfl⟩ (yS ⟨rfl, rfl⟩ (yS ⟨rfl, rfl⟩ amA))))))) ?_
 iterate 7 refine AX ?_
 refine .cl rfl Tryz.call159 (.cons yN (.cons (tm rfl) (.cons (tm rfl) (.cons yN .nil)))) (round6 w hw e he _) ?_
 iterate 4 refine AX ?_
 refine Ret.go (.cons (.tmp _ _ rfl) .nil) _ (Heap.le.refl _) ?_
 exact ⟨rfl, rfl⟩

theorem adF {j n : Nat} (hj : j ≤ 1500) (hn : n ≤ 3000) : 10 ^ j * 2 ^ n < BIG ∧ 10 ^ j < BIG ∧ 2 ^ n < BIG := by
 obtain ⟨K, hK, hB⟩ : ∃ K, K = 8192 ∧ BIG = 2 ^ K := ⟨32 * 256, rfl, aoA _ rfl⟩
 have h10 : 10 ^ j ≤ 2 ^ (10 * j / 3 + 1) := by
  have h3 : ∀ q r : Nat, r < 3 → 10 ^ (3 * q + r) ≤ 2 ^ (10 * q + (10 * r / 3 + 1)) := by
   intro q r hr
   rw [Nat.pow_add, Nat.pow_add 2, Nat.pow_mul, Nat.pow_mul 2]
   refine Nat.mul_le_mul (Nat.pow_le_pow_left (by decide) q) ?_
   rcases (by omega : r = 0 ∨ r = 1 ∨ r = 2) with rfl | rfl | rfl <;> decide
  have := h3 (j / 3) (j % 3) (Nat.mod_lt _ (by decide))
  rw [show 3 * (j / 3) + j % 3 = j by omega] at this
  refine Nat.le_trans this (Nat.pow_le_pow_right (by decide) (by omega))
 have h4 : 10 ^ j * 2 ^ n ≤ 2 ^ (10 * j / 3 + 1 + n) := by rw [Nat.pow_add]; exact Nat.mul_le_mul_right _ h10
 rw [hB]
 refine ⟨Nat.lt_of_le_of_lt h4 (Nat.pow_lt_pow_right (by decide) ?_), Nat.lt_of_le_of_lt h10 (Nat.pow_lt_pow_right (by decide) ?_), Nat.pow_lt_pow_right (by decide) ?_⟩ <;> (clear h4 h10 hB; omega)
theorem ahD (j : Nat) : yI (10 ^ j) ≤ 10 * j / 3 + 2 := by
 rw [yW]
 have h3 : ∀ q r : Nat, r < 3 → 10 ^ (3 * q + r) < 2 ^ (10 * q + (10 * r / 3 + 2)) := by
  intro q r hr
  rw [Nat.pow_add, Nat.pow_add 2, Nat.pow_mul, Nat.pow_mul 2]
  refine Nat.mul_lt_mul_of_le_of_lt (Nat.pow_le_pow_left (by decide) q) ?_ (Nat.pow_pos (by decide))
  rcases (by omega : r = 0 ∨ r = 1 ∨ r = 2) with rfl | rfl | rfl <;> decide
 have := h3 (j / 3) (j % 3) (Nat.mod_lt _ (by decide))
 rw [show 3 * (j / 3) + j % 3 = j by omega] at this
 exact Nat.lt_of_lt_of_le this (Nat.pow_le_pow_right (by decide) (by omega))
theorem baF : ∀ m : Nat, ¬ 5 ∣ 2 ^ m
 | 0 => by decide
 | m + 1 => fun h => by
  rw [Nat.pow_succ] at h
  have := baF m
  omega
def ajL (k : Int) : AV := .agg [.int .u64 ((afQ k / M1 : Nat) : Int), .int .u64 ((afQ k % M1 : Nat) : Int), .int .i64 (aoH k), .bool (avT k)]

theorem pow10Z (j : Nat) (q : Int) (hq : q = (j : Int)) (hj : j ≤ 1500) (H : Heap) : ACall Tryz.prog 157 [.int .i64 10, .int .i64 q] H (fun y H' => y = .tuple [aaA (10 ^ j), .int .i64 0] ∧ H' = H) := by
 subst hq
 exact anY 10 j (by decide) (by decide) (by omega) (adF (n := 0) hj (by decide)).2.1 H
theorem oneB (s : Nat) (q : Int) (hq : q = (s : Int)) (hs : s ≤ 3000) (H : Heap) : ACall Tryz.prog 161 [.slice 1 [.int .u32 1] .full, .int .i64 q] H (fun y H' => y = .tuple [aaA (2 ^ s), .int .i64 0] ∧ H' = H) := by
 subst hq
 have h := avJ [1] .full (Limbs.mk (by decide) Limbs.nil) (by decide) s (by rw [show val [1] = 1 from rfl, Nat.one_mul]; exact (adF (j := 0) (by decide) hs).2.2) (by omega) H
 rw [show val [1] = 1 from rfl, Nat.one_mul] at h
 exact h
theorem azV {k : Int} (h : k < 0) : afQ k = 2 ^ (yI (10 ^ (-k).toNat) + 127) / 10 ^ (-k).toNat ∧ aoH k = -((yI (10 ^ (-k).toNat) : Int) + 127) ∧ avT k = false := by
 refine ⟨?_, ?_, ?_⟩
 ·unfold afQ; rw [if_pos h]
 ·unfold aoH; rw [if_pos h]; omega
 ·unfold avT; rw [if_pos h]
theorem apM {k : Int} (h : ¬ k < 0) (hb : yI (10 ^ k.toNat) ≤ 128) : afQ k = 10 ^ k.toNat * 2 ^ (128 - yI (10 ^ k.toNat)) ∧ aoH k = (yI (10 ^ k.toNat) : Int) - 128 ∧ avT k = true := by
 refine ⟨?_, ?_, ?_⟩
 ·unfold afQ; rw [if_neg h, if_pos hb]
 ·unfold aoH; rw [if_neg h]
 ·unfold avT; rw [if_neg h]; exact decide_eq_true (.inl hb)
theorem azW {k : Int} (h : ¬ k < 0) (hb : ¬ yI (10 ^ k.toNat) ≤ 128) : afQ k = 10 ^ k.toNat / 2 ^ (yI (10 ^ k.toNat) - 128) ∧ aoH k = (yI (10 ^ k.toNat) : Int) - 128 ∧ avT k = decide (10 ^ k.toNat % 2 ^ (yI (10 ^ k.toNat) - 128) = 0) := by
 refine ⟨?_, ?_, ?_⟩
 ·unfold afQ; rw [if_neg h, if_neg hb]
 ·unfold aoH; rw [if_neg h]
 ·unfold avT; rw [if_neg h]; exact decide_eq_decide.2 ⟨fun q => q.resolve_left hb, .inr⟩
theorem arH (k : Int) : afQ k < M2 := by
 have e128 : M2 = 2 ^ 128 := by decide +kernel
 rw [e128]
 rcases Int.lt_or_le k 0 with h | h
 ·rw [(azV h).1]
  have ht := abJ (-k).toNat
  have hlo := anU ht
  have hb := acY ht
  rw [Nat.div_lt_iff_lt_mul ht]
  rcases Nat.lt_or_eq_of_le hlo with hl | hl
  ·have e : 2 ^ (yI (10 ^ (-k).toNat) + 127) = 2 ^ 128 * 2 ^ (yI (10 ^ (-k).toNat) - 1) := by rw [← Nat.pow_add]; congr 1; omega
   rw [e]
   exact Nat.mul_lt_mul_of_pos_left hl (Nat.pow_pos (by decide))
  ·-- a power of ten that is a power of two
   exfalso
   have hj : 0 < (-k).toNat := by omega
   have h5 : 10 ^ (-k).toNat = 2 ^ (-k).toNat * 5 ^ (-k).toNat := by rw [← Nat.mul_pow]
   have hodd : 5 ∣ 2 ^ (yI (10 ^ (-k).toNat) - 1) := by
    rw [hl, h5]
    exact Nat.dvd_trans (Nat.dvd_trans ⟨5 ^ ((-k).toNat - 1), by rw [← Nat.pow_succ', show ((-k).toNat - 1).succ = (-k).toNat by omega]⟩ (Nat.dvd_mul_left _ _)) (Nat.dvd_refl _)
   exact baF _ hodd
 ·rcases Nat.lt_or_ge 128 (yI (10 ^ k.toNat)) with hl | hl
  ·rw [(azW (by omega) (by omega)).1, Nat.div_lt_iff_lt_mul (Nat.pow_pos (by decide)), ← Nat.pow_add]
   refine Nat.lt_of_lt_of_le (aeK _) (Nat.pow_le_pow_right (by decide) (by omega))
  ·rw [(apM (by omega) hl).1]
   refine Nat.lt_of_lt_of_le (Nat.mul_lt_mul_of_pos_right (aeK _) (Nat.pow_pos (by decide))) ?_
   rw [← Nat.pow_add]
   exact Nat.pow_le_pow_right (by decide) (by omega)

theorem shrZ (a s : Nat) (q : Int) (hq : q = (s : Int)) (h : a < BIG) (hs : s < 1000000000) (H : Heap) : ACall Tryz.prog 165 [aaA a, .int .i64 q] H (fun y H' => y = .tuple [aaA (a / 2 ^ s), .bool (decide (a % 2 ^ s ≠ 0)), .int .i64 0] ∧ H' = H) := by
 subst hq; exact shrB a s h hs H
theorem shlQ (a s : Nat) (q : Int) (hq : q = (s : Int)) (h : a * 2 ^ s < BIG) (hs : s < 1000000000) (H : Heap) : ACall Tryz.prog 161 [aaA a, .int .i64 q] H (fun y H' => y = .tuple [aaA (a * 2 ^ s), .int .i64 0] ∧ H' = H) := by
 subst hq; exact shlB a s h hs H
theorem powP_BIG (k : Int) : afQ k < BIG := Nat.lt_trans (arH k) (by
  obtain ⟨K, hK, hB⟩ : ∃ K, K = 8192 ∧ BIG = 2 ^ K := ⟨32 * 256, rfl, aoA _ rfl⟩
  rw [hB, show M2 = 2 ^ 128 by decide +kernel]
  exact Nat.pow_lt_pow_right (by decide) (by omega))
theorem valueP (k : Int) (H : Heap) : ACall Tryz.prog 235 [aaA (afQ k)] H (fun y H' => y = u2 (afQ k) ∧ H' = H) := by
 have h := awA (afQ k) (by have := yU (powP_BIG k); omega) H
 rw [Nat.mod_eq_of_lt (arH k)] at h; exact h

set_option maxRecDepth 100000 in
theorem bdL (k : Int) (hk : -400 ≤ k ∧ k ≤ 400) (H : Heap) : ACall Tryz.prog 199 [.int .i64 k] H (fun y H' => y = ajL k ∧ H' = H) := by
 have hbl := ahD k.natAbs
 have hp0 := abJ k.natAbs
 have htB := (adF (j := k.natAbs) (n := 0) (by omega) (by decide)).2.1
 refine ACall.of_body Tryz.func199 rfl Tryz.ntmps199 Tryz.results199 rfl ?_
 iterate 2 refine AX ?_
 refine .s rfl (zL Tryz.zeroValue124 (zr124)) ?_
 rintro _ _ ⟨b2, hb2, rfl, hH⟩
 obtain rfl := hH.symm
 iterate 6 refine AX ?_
 refine .p rfl (aaE (tm rfl) (by omega)) (.p rfl (acC (tm rfl) (tm rfl)) (.cl rfl Tryz.call157 (.cons zF (evs1 rfl)) (pow10Z k.natAbs _ (by simp only [ayB]; split <;> omega) (by omega) _) ?_))
 iterate 14 refine AX ?_
 refine AWP.cx rfl (fun hc23 => ?_) (fun hc23 => ?_)
 ·have hP := azV (k := k) (by omega)
  rw [show (-k).toNat = k.natAbs by omega] at hP
  iterate 3 refine AX ?_
  refine .cl rfl Tryz.call160 (evs1 rfl) (lenB _ htB _) (.p rfl (zK (tm rfl) zF (by omega)) ?_)
  iterate 5 refine AX ?_
  refine .e rfl (aaL Tryz.underlying170 Tryz.sizeOf112 Tryz.zeroValue112 rfl (zG 1) (.inl rfl) ⟨rfl, rfl⟩) ?_
  refine AX ?_
  refine .cl rfl Tryz.call161 (evs2 rfl rfl) (oneB (yI (10 ^ k.natAbs) + 127) _ (by omega) (by omega) _) ?_
  iterate 11 refine AX ?_
  refine .cl rfl Tryz.call162 (evs2 rfl rfl) (akQ _ _ (adF (j := 0) (by decide) (by omega)).2.2 hp0 htB _) ?_
  iterate 10 refine AX ?_
  rw [← hP.1]
  iterate 2 refine AX ?_
  refine .cl rfl Tryz.call235 (evs1 rfl) (valueP k _) ?_
  refine AX ?_
  refine .p rfl (aaE (tm rfl) (by omega)) ?_
  refine .p rfl (zU [(0, 2), (2, 1), (3, 1)] Tryz.underlying124 Tryz.zeroValue124 (zr124) rfl (pl124 _ Tryz.underlying124) (.cons (tm rfl) (.inr ⟨_, rfl⟩) (.cons (tm rfl) (.inl rfl) (.cons yN (.inl rfl) .nil))) rfl) ?_
  refine .e0 (zB Tryz.sizeOf124 (tm rfl) (tm rfl) rfl rfl (.inr ⟨_, rfl⟩) (Heap.objs_set_same _ _ _) (Nat.le_of_ble_eq_true rfl)) ?_
  try first | rw [Heap.set_set] | rw [Heap.set_under (by assumption)]
  iterate 2 refine AX ?_
  refine AWP.frz (t := 2) rfl (hb2) ?_
  iterate 2 refine AX ?_
  refine Ret.go (.cons (.cellI _ _ _ _ rfl Tryz.isAgg124 Tryz.sizeOf124 rfl) .nil) _ (Heap.le.refl _) ?_
  refine ⟨?_, rfl⟩
  unfold ajL
  rw [hP.2.1, hP.2.2]
  rfl
 ·have hkt : k.toNat = k.natAbs := by omega
  iterate 5 refine AX ?_
  refine .cl rfl Tryz.call160 (evs1 rfl) (lenB _ htB _) (.p rfl (zO (tm rfl) zF (by omega)) ?_)
  iterate 10 refine AX ?_
  refine AWP.cx rfl (fun hc49 => ?_) (fun hc49 => ?_)
  ·have hP := apM (k := k) (by omega) (by rw [hkt]; omega)
   rw [hkt] at hP
   iterate 4 refine AX ?_
   refine .p rfl (aaE (tm rfl) (by omega)) (.cl rfl Tryz.call161 (evs2 rfl rfl) (shlQ _ (128 - yI (10 ^ k.natAbs)) _ (by omega) (adF (by omega) (by omega)).1 (by omega) _) ?_)
   iterate 7 refine AX ?_
   rw [← hP.1]
   iterate 2 refine AX ?_
   refine .cl rfl Tryz.call235 (evs1 rfl) (valueP k _) ?_
   refine AX ?_
   refine .p rfl (zU [(0, 2), (2, 1), (3, 1)] Tryz.underlying124 Tryz.zeroValue124 (zr124) rfl (pl124 _ Tryz.underlying124) (.cons (tm rfl) (.inr ⟨_, rfl⟩) (.cons (tm rfl) (.inl rfl) (.cons yN (.inl rfl) .nil))) rfl) ?_
   refine .e0 (zB Tryz.sizeOf124 (tm rfl) (tm rfl) rfl rfl (.inr ⟨_, rfl⟩) (Heap.objs_set_same _ _ _) (Nat.le_of_ble_eq_true rfl)) ?_
   try first | rw [Heap.set_set] | rw [Heap.set_under (by assumption)]
   iterate 2 refine AX ?_
   refine AWP.frz (t := 2) rfl (hb2) ?_
   iterate 2 refine AX ?_
   refine Ret.go (.cons (.cellI _ _ _ _ rfl Tryz.isAgg124 Tryz.sizeOf124 rfl) .nil) _ (Heap.le.refl _) ?_
   refine ⟨?_, rfl⟩
   unfold ajL
   rw [hP.2.1, hP.2.2]
   rfl
  ·have hP := azW (k := k) (by omega) (by rw [hkt]; omega)
   rw [hkt] at hP
   iterate 6 refine AX ?_
   refine .cl rfl Tryz.call165 (evs2 rfl rfl) (shrZ _ (yI (10 ^ k.natAbs) - 128) _ (by omega) htB (by omega) _) ?_
   iterate 10 refine AX ?_
   rw [← hP.1]
   iterate 2 refine AX ?_
   refine .cl rfl Tryz.call235 (evs1 rfl) (valueP k _) ?_
   iterate 3 refine AX ?_
   refine .p rfl (zU [(0, 2), (2, 1), (3, 1)] Tryz.underlying124 Tryz.zeroValue124 (zr124) rfl (pl124 _ Tryz.underlying124) (.cons (tm rfl) (.inr ⟨_, rfl⟩) (.cons (tm rfl) (.inl rfl) (.cons (tm rfl) (.inl rfl) .nil))) rfl) ?_
   refine .e0 (zB Tryz.sizeOf124 (tm rfl) (tm rfl) rfl rfl (.inr ⟨_, rfl⟩) (Heap.objs_set_same _ _ _) (Nat.le_of_ble_eq_true rfl)) ?_
   try first | rw [Heap.set_set] | rw [Heap.set_under (by assumption)]
   iterate 2 refine AX ?_
   refine AWP.frz (t := 2) rfl (hb2) ?_
   refine AX ?_
   refine Ret.go (.cons (.cellI _ _ _ _ rfl Tryz.isAgg124 Tryz.sizeOf124 rfl) .nil) _ (Heap.le.refl _) ?_
   refine ⟨?_, rfl⟩
   unfold ajL
   rw [hP.2.1, hP.2.2]
   have e : (!decide (10 ^ k.natAbs % 2 ^ (yI (10 ^ k.natAbs) - 128) ≠ 0)) = decide (10 ^ k.natAbs % 2 ^ (yI (10 ^ k.natAbs) - 128) = 0) := by simp
   rw [← e]
   rfl
end Go.Proofs.YtfkeflcdadlmdaaGreatDoor
