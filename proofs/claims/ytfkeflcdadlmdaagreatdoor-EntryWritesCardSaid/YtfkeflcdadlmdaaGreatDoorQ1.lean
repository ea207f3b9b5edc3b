import Derived.Test.YtfkeflcdadlmdaaGreatDoorSsk
import Derived.Test.YtfkeflcdadlmdaaGreatDoorP2
import Derived.Test.YtfkeflcdadlmdaaGreatDoorN2
import Derived.Test.YtfkeflcdadlmdaaGreatDoorP1
import Derived.Test.YtfkeflcdadlmdaaGreatDoorN3
namespace Go.Proofs.YtfkeflcdadlmdaaGreatDoor
open Go Go.RowKit

def amS (v i : Nat) : Nat := v / 4294967296 ^ ((zI v).length - i) % M2
theorem ajZ (v : Nat) : amS v 0 = 0 := by
 have h := ahR (zO v) (Nat.le_refl (zI v).length)
 rw [List.drop_length, zV] at h
 unfold amS
 rw [Nat.sub_zero, ← h]; rfl
theorem avH (v : Nat) : amS v (zI v).length = v % M2 := by
 unfold amS
 rw [Nat.sub_self, Nat.pow_zero, Nat.div_one]
theorem bbL {v i : Nat} (h : i < (zI v).length) : amS v (i + 1) = (amS v i * 4294967296 + (zI v).getD ((zI v).length - 1 - i) 0) % M2 := by
 have h1 := ahR (zO v) (show (zI v).length - 1 - i ≤ (zI v).length by omega)
 have h2 := ahR (zO v) (show (zI v).length - i ≤ (zI v).length by omega)
 rw [zV] at h1 h2
 have h3 : (zI v).drop ((zI v).length - 1 - i) = (zI v).getD ((zI v).length - 1 - i) 0 :: (zI v).drop ((zI v).length - i) := by
  rw [List.drop_eq_getElem_cons (show (zI v).length - 1 - i < (zI v).length by omega), List.getD_eq_getElem?_getD, List.getElem?_eq_getElem (show (zI v).length - 1 - i < (zI v).length by omega), show (zI v).length - 1 - i + 1 = (zI v).length - i by omega]
  rfl
 rw [h3, val, h2] at h1
 unfold amS
 rw [show (zI v).length - (i + 1) = (zI v).length - 1 - i by omega, ← h1]
 generalize v / 4294967296 ^ ((zI v).length - i) = q
 generalize (zI v).getD ((zI v).length - 1 - i) 0 = x
 unfold M2; omega
theorem apW {v i : Nat} (h : i < (zI v).length) : putRow (u2 (amS v i * 2 ^ 32 % M2)).cells 1 [.int .u64 (((amS v i * 2 ^ 32 % M2 % M1 ||| (zI v).getD ((zI v).length - 1 - i) 0 : Nat)) : Int)] = (u2 (amS v (i + 1))).cells := by
 obtain ⟨e1, e2⟩ := take_in (v := amS v i) (Limbs.getD (zO v) ((zI v).length - 1 - i))
 rw [bbL h, e2]
 show putRow [.int .u64 (((amS v i * 2 ^ 32 % M2 / M1 : Nat)) : Int), _] 1 _ = _
 rw [e1]; rfl
theorem auF : ∀ (c v : Nat), (zI v).drop c = zI (v / 4294967296 ^ c)
 | 0, v => by rw [List.drop_zero, Nat.pow_zero, Nat.div_one]
 | c + 1, v => by
  rcases Nat.eq_zero_or_pos v with h | h
  ·subst h; rw [Nat.zero_div, aaJ, List.drop_nil]
  ·rw [qN h, List.drop_succ_cons, auF c, Nat.div_div_eq_div_mul, Nat.pow_succ, Nat.mul_comm]
theorem low_mod {v c : Nat} (h : c ≤ (zI v).length) : val ((zI v).take c) = v % 4294967296 ^ c := by
 have h1 := adS h
 have h2 := aiA (zO v) h
 rw [zV] at h1
 conv => rhs; rw [h1]
 rw [Nat.add_mul_mod_self_left, Nat.mod_eq_of_lt h2]
theorem aoT (c : Nat) : 4294967296 ^ c = 2 ^ (32 * c) := by rw [show (4294967296 : Nat) = 2 ^ 32 by decide, ← Nat.pow_mul]
theorem limbs4 {v : Nat} (h : (zI v).length ≤ 4) : v < M2 := by
 have := adR (zO v)
 rw [zV] at this
 refine Nat.lt_of_lt_of_le this ?_
 rw [aoT, show M2 = 2 ^ 128 by decide +kernel]
 exact Nat.pow_le_pow_right (by decide) (by omega)
theorem arI {v c : Nat} (h : (zI v).length = c + 4) : 55 ≤ yQ (v / 2 ^ (32 * c)) ∧ v / 2 ^ (32 * c) < M2 ∧ (zI (v / 2 ^ (32 * c))).length = 4 := by
 have e := auF c v
 rw [aoT] at e
 have el : (zI (v / 2 ^ (32 * c))).length = 4 := by rw [← e, List.length_drop]; omega
 refine ⟨?_, limbs4 (by omega), el⟩
 have hp : 0 < v / 2 ^ (32 * c) := by
  rcases Nat.eq_zero_or_pos (v / 2 ^ (32 * c)) with h0 | h0
  ·rw [h0] at el; simp [aaJ] at el
  ·exact h0
 have := afX hp
 omega

def bbE (v b2 b3 : Nat) (H : Heap) : Nat → Env → Heap → Prop := fun k env H1 => ∃ i : Nat, i ≤ (zI v).length ∧ env = [(0, aaM v), (2, .ptr (some ⟨b2, 0, none⟩)), (3, .ptr (some ⟨b3, 0, none⟩)), (6, .int .i64 ((zI v).length : Int)), (7, .int .i64 (i : Int))] ∧ H1 = (H.set b2 (.box 122 [.int .u64 0, .int .u64 0])).set b3 (.box 122 (u2 (amS v i)).cells) ∧ k = (zI v).length - i

set_option maxRecDepth 100000 in
theorem asN (v : Nat) (hv : (zI v).length ≤ 1000000) (H : Heap) : ACall Tryz.prog 235 [aaM v] H (fun y H' => y = u2 (v % M2) ∧ H' = H) := by
 refine ACall.of_body Tryz.func235 rfl Tryz.ntmps235 Tryz.results235 rfl ?_
 refine .sr (.s rfl (zT Tryz.zeroValue122 (zr122)) ?_)
 rintro _ _ ⟨b2, hb2, rfl, hH⟩
 obtain rfl := hH.symm
 refine .nr (.s rfl (zT Tryz.zeroValue122 (zr122)) ?_)
 rintro _ _ ⟨b3, hb3, rfl, hH⟩
 obtain rfl := hH.symm
 have hn2_3 := Heap.ne_of (Heap.objs_set_same _ _ _) hb3
 refine .ng (.seq (.sr (.mv rfl rfl (.p rfl (zW Tryz.underlying170 (tm rfl)) (.p rfl (zC zE) (.ng (.block ?_)))))))
 rw [show ([.int .u64 0, .int .u64 0] : List AV) = (u2 (amS v 0)).cells by rw [ajZ]; rfl]
 refine AWP.loopW (bbE v b2 b3 H) ((zI v).length) ⟨0, Nat.zero_le _, rfl, by rw [ajZ]; rfl, rfl⟩ (zA rfl (zA rfl (zA rfl (zA rfl (zA rfl zL))))) (Heap.le.refl _) ?_
 rintro _ _ _ ⟨i, hi, rfl, rfl, rfl⟩
 refine .sr (.p rfl (zY (tm rfl) (tm rfl)) (.ng (.seq ?_)))
 refine AWP.cond (tm rfl) (fun hc8 => ?_) (fun hc8 => ?_)
 ·try simp only [decide_eq_true_eq] at hc8
  have hlv : i < (zI v).length := by omega
  have hgx := Limbs.getD (zO v) ((zI v).length - 1 - i)
  have hlo : amS v i * 2 ^ 32 % M2 % M1 < 18446744073709551616 := adZ _
  refine .skip ?_
  refine Next.go ?_
  refine .seq (.block (.sr (.mv rfl rfl (.as rfl rfl (.nr (.e rfl (yG Tryz.isAgg122 Tryz.sizeOf122 (tm rfl) (Heap.objs_set_same _ _ _) (Nat.le_of_ble_eq_true rfl)) (.cl rfl Tryz.call194 (.cons (tm rfl) (.cons zE .nil)) (afK (amS v i) 32 (by decide) 32 rfl _) (.e0 (zH Tryz.sizeOf122 (tm rfl) (tm rfl) rfl rfl (.inr ⟨_, rfl⟩) (Heap.objs_set_same _ _ _) (Nat.le_of_ble_eq_true rfl)) ?_))))))))
  try first | rw [Heap.set_set] | rw [Heap.set_under (by assumption)]
  refine .ng ?_
  refine AWP.draw [(0, true), (2, true), (3, true), (4, true), (5, true), (6, true), (7, true), (8, true), (9, true), (10, true), (1, false), (11, true), (12, true), (13, false)] rfl (by decide +kernel) ?_
  refine .p rfl rfl (yB Tryz.underlying122 rfl Tryz.sizeOf30 (tm rfl)) (.p rfl rfl (zC (tm rfl)) (.p rfl rfl (zC (tm rfl)) (.p rfl rfl (zW Tryz.underlying170 (tm rfl)) (.p rfl rfl (zZ (tm rfl) zE (by omega)) (.p rfl rfl (zC (tm rfl)) (.p rfl rfl (zZ (tm rfl) (tm rfl) (by omega)) (.p rfl rfl (yE ((zI v).length - 1 - i) Tryz.underlying170 Tryz.sizeOf112 (tm rfl) (tm rfl) (by omega) (by omega)) (.p rfl rfl (zF Tryz.isAgg112 (tm rfl)) ?_))))))))
  refine .p rfl rfl (yD Tryz.underlying112 Tryz.underlying30 (tm rfl) (wrapN64 (by omega))) (.s rfl rfl (yO Tryz.isAgg30 (tm rfl) (Heap.objs_set_same _ _ _) rfl) ?_)
  rintro _ _ ⟨rfl, hH⟩
  obtain rfl := hH.symm
  refine .p rfl rfl (aaF (tm rfl) (tm rfl) (by assumption) (by omega)) (.p rfl rfl (yB Tryz.underlying122 rfl Tryz.sizeOf30 (tm rfl)) (.s0 rfl (zH Tryz.sizeOf30 (tm rfl) (tm rfl) rfl rfl (.inl rfl) (Heap.objs_set_same _ _ _) (Nat.le_of_ble_eq_true rfl)) ?_))
  rintro _ _ ⟨rfl, hH⟩
  obtain rfl := hH.symm
  try first | rw [Heap.set_set] | rw [Heap.set_under (by assumption)]
  refine .nil ?_
  refine Block.go ?_
  refine Next.go ?_
  refine .region (.p rfl (zR (tm rfl) zE (by omega)) (.mv rfl rfl (.ng ?_)))
  refine Round.mk (J := bbE v b2 b3 H) ⟨i + 1, by omega, rfl, rfl, rfl⟩ (zA rfl (zA rfl (zA rfl (zA rfl (yH rfl (by congr 1) zL))))) (by rw [← apW hlv]; exact Heap.le.refl _) (by omega)
 ·try simp only [decide_eq_false_iff_not, Int.not_lt] at hc8
  obtain rfl : i = (zI v).length := by omega
  rw [avH]
  refine .exit ?_
  refine Next.ex ?_
  refine Next.ex ?_
  refine Block.hit ?_
  refine Next.go ?_
  refine .sr (.e rfl (yG Tryz.isAgg122 Tryz.sizeOf122 (tm rfl) (Heap.objs_set_same _ _ _) (Nat.le_of_ble_eq_true rfl)) (.e0 (zH Tryz.sizeOf122 (tm rfl) (tm rfl) rfl rfl (.inr ⟨_, rfl⟩) ((Heap.objs_set_ne _ _ (by assumption)).trans (Heap.objs_set_same _ _ _)) (Nat.le_of_ble_eq_true rfl)) ?_))
  try first | rw [Heap.set_set] | rw [Heap.set_under (by assumption)]
  refine .ng ?_
  refine AWP.dropb (Heap.fresh_set hb3 _) ?_
  refine AWP.frz (t := 2) rfl (hb2) ?_
  refine .ret ?_
  refine Ret.go (.cons (.cellI _ _ _ _ rfl Tryz.isAgg122 Tryz.sizeOf122 rfl) .nil) _ (Heap.le.refl _) ?_
  exact ⟨rfl, rfl⟩

def aeY (v : Nat) : Nat := (zI v).length - 4
def lowB (v : Nat) (more : Bool) : Bool := more || decide (v % 2 ^ (32 * aeY v) ≠ 0)
theorem bcK {neg : Bool} {v : Nat} {e : Int} {more : Bool} (he : -10000 ≤ e ∧ e ≤ 2000) : yM neg v e more = yM neg (v / 2 ^ (32 * aeY v)) (e + 32 * (aeY v : Int)) (lowB v more) := by
 rcases Nat.eq_zero_or_pos (aeY v) with h | h
 ·unfold lowB
  rw [h]
  simp [Nat.mod_one]
 ·have hl : (zI v).length = aeY v + 4 := by unfold aeY at *; omega
  have := akO (neg := neg) (n := v) (j := 32 * aeY v) (more := more) (arI hl).1 he.1 he.2
  rw [this]
  unfold lowB
  congr 1 <;> omega
theorem cut_lt (v : Nat) : v / 2 ^ (32 * aeY v) < M2 ∧ (zI (v / 2 ^ (32 * aeY v))).length ≤ 4 := by
 rcases Nat.eq_zero_or_pos (aeY v) with h | h
 ·rw [h, Nat.mul_zero, Nat.pow_zero, Nat.div_one]
  have : (zI v).length ≤ 4 := by unfold aeY at h; omega
  exact ⟨limbs4 this, this⟩
 ·have hl : (zI v).length = aeY v + 4 := by unfold aeY at *; omega
  have := arI hl
  exact ⟨this.2.1, by omega⟩
theorem arE {more : Bool} {v c i x : Nat} (hx : x = (zI v).getD i 0) : (more || decide (val ((zI v).take i) ≠ 0) || decide (((0 : Nat) : Int) < (x : Int))) = (more || decide (val ((zI v).take (i + 1)) ≠ 0)) := by
 rw [qD, ← hx, Bool.or_assoc]
 congr 1
 rw [← Bool.decide_or]
 refine decide_eq_decide.2 ?_
 have hp : 0 < 4294967296 ^ i := Nat.pow_pos (by decide)
 generalize 4294967296 ^ i = q at *
 generalize val ((zI v).take i) = y
 rcases Nat.eq_zero_or_pos x with h | h
 ·subst h; simp
 ·have h2 : 0 < q * x := Nat.mul_pos hp h
  constructor
  ·intro _; omega
  ·intro _; exact .inr (by omega)
theorem azV {l : List Nat} {c i : Nat} (h : i < c) : (l.take c).getD i 0 = l.getD i 0 := by
 rw [List.getD_eq_getElem?_getD, List.getElem?_take, if_pos h, List.getD_eq_getElem?_getD]
theorem low_all {v : Nat} {more : Bool} : (more || decide (val ((zI v).take (aeY v)) ≠ 0)) = lowB v more := by
 unfold lowB
 rw [low_mod (show aeY v ≤ (zI v).length by unfold aeY; omega), aoT]

def atE (neg more : Bool) (e : Int) (v : Nat) (H : Heap) : Nat → Env → Heap → Prop := fun k env H1 => ∃ i : Nat, i ≤ aeY v ∧ env = [(0, .bool neg), (1, aaM v), (2, .int .i64 e), (3, .bool (more || decide (val ((zI v).take i) ≠ 0))), (8, .int .u64 ((0 : Nat) : Int)), (9, .int .i64 (((zI v).length : Int) - 4)), (23, .slice 1 (U .u32 ((zI v).take (aeY v))) .shared), (24, .int .i64 (((zI v).take (aeY v)).length : Int)), (25, .int .i64 (i : Int))] ∧ H = H1 ∧ k = aeY v - i

def bcL (neg more : Bool) (e : Int) (v b : Nat) (H : Heap) : Nat → Env → Heap → Prop := fun k env H1 => ∃ i : Nat, i ≤ (zI v).length ∧ env = [(0, .bool neg), (1, aaM v), (2, .int .i64 e), (3, .bool more), (12, .ptr (some ⟨b, 0, none⟩)), (45, .int .i64 ((zI v).length : Int)), (46, .int .i64 (i : Int))] ∧ H1 = H.set b (.box 122 (u2 (amS v i)).cells) ∧ k = (zI v).length - i

set_option maxRecDepth 100000 in
theorem amD (neg : Bool) (xs : List Nat) (tl : Tail) (hx : Limbs xs) (hl : xs.length ≤ 1000) (e : Int) (he : -10000 ≤ e ∧ e ≤ 2000) (more : Bool) (H : Heap) : ACall Tryz.prog 159 [.bool neg, .slice 1 (U .u32 xs) tl, .int .i64 e, .bool more] H (fun y H' => y = .int .u64 ((yM neg (val xs) e more : Nat) : Int) ∧ H' = H) := by
 have hr := bcK (neg := neg) (v := val xs) (e := e) (more := more) he
 have hcl := cut_lt (val xs)
 have hvl : (zI (val xs)).length ≤ xs.length := by rw [← aaP hx]; exact aaI xs
 have hcd : aeY (val xs) = (zI (val xs)).length - 4 := rfl
 have hdr := auF (aeY (val xs)) (val xs)
 rw [aoT] at hdr
 have hla := low_all (v := val xs) (more := more)
 have hT := aiQ xs tl hx (by omega)
 generalize val xs = v0 at *
 refine ACall.of_body Tryz.func159 rfl Tryz.ntmps159 Tryz.results159 rfl ?_
 refine .sr (.p rfl (zB (zJ 0)) (.nr (.mv rfl rfl (.cl rfl Tryz.call167 (evs1 rfl) (hT _) (.as rfl rfl (.ng ?_))))))
 refine AWP.seqToL [(1, aaM (v0 / 2 ^ (32 * aeY v0))), (2, .int .i64 (e + 32 * (aeY v0 : Int))), (3, .bool (lowB v0 more))] [0, 8] ?_ ?_
 ·refine .sr (.mv rfl rfl (.p rfl (zW Tryz.underlying170 (tm rfl)) (.p rfl (zZ (tm rfl) zE (by omega)) (.as rfl rfl (.nr (.mv rfl rfl (.p rfl (yF (tm rfl) zE) (.ng ?_))))))))
  refine AWP.cond (tm rfl) (fun hc20 => ?_) (fun hc20 => ?_)
  ·try simp only [decide_eq_true_eq] at hc20
   refine .seq (.sr (.mv rfl rfl (.mv rfl rfl (.p rfl (acX (aeY v0) Tryz.underlying170 Tryz.sizeOf112 (tm rfl) (tm rfl) (by omega) (by omega)) (.p rfl (zW Tryz.underlying170 (tm rfl)) (.p rfl (zC zE) (.ng (.block ?_))))))))
   refine AWP.loopW (atE neg more e v0 H) (aeY v0) ⟨0, Nat.zero_le _, rfl, rfl, rfl⟩ (zA rfl (zA rfl (zA rfl (yH rfl (by simp [val]) (zA rfl (zA rfl (zA rfl (zA rfl (zA rfl zL))))))))) (Heap.le.refl _) ?_
   rintro _ _ _ ⟨i, hi, rfl, rfl, rfl⟩
   have htl : ((zI v0).take (aeY v0)).length = aeY v0 := by rw [List.length_take]; omega
   have hgq : ((zI v0).take (aeY v0)).getD i 0 < 18446744073709551616 := Nat.lt_trans (Limbs.getD ((zO v0).take _) i) (by decide)
   refine .sr (.p rfl (zY (tm rfl) (tm rfl)) (.ng (.seq ?_)))
   refine AWP.cond (tm rfl) (fun hc26 => ?_) (fun hc26 => ?_)
   ·try simp only [decide_eq_true_eq] at hc26
    have hgt := azV (l := zI v0) (c := aeY v0) (i := i) (by omega)
    refine .skip ?_
    refine Next.go ?_
    refine .seq (.block (.sr (.p rfl (yE (i) Tryz.underlying170 Tryz.sizeOf112 (tm rfl) (tm rfl) (by omega) (by omega)) (.p rfl (zF Tryz.isAgg112 (tm rfl)) (.as rfl rfl (.ng (.region (.mv rfl rfl ?_))))))))
    refine .mv rfl rfl ?_
    refine zQ (t := 30) rfl (fun hg30 => ?_) (fun hg30 => ?_)
    ·have hh30 := hg30; try simp only [ne_eq] at hh30
     refine .gn rfl rfl rfl (by assumption) (.gn rfl rfl rfl (by assumption) (.p rfl (zN (tm rfl) (by assumption) zK) (.as rfl rfl (.nil ?_))))
     refine Block.go ?_
     refine Next.go ?_
     refine .region (.p rfl (zR (tm rfl) zE (by omega)) (.mv rfl rfl (.ng ?_)))
     refine Round.mk (J := atE neg more e v0 H) ⟨i + 1, by omega, rfl, rfl, rfl⟩ (zA rfl (zA rfl (zA rfl (yH rfl (by rw [← arE (c := 0) hgt, hg30]; rfl) (zA rfl (zA rfl (zA rfl (zA rfl (zA rfl zL))))))))) (Heap.le.refl _) (by omega)
    ·have hh30 := hg30; try simp only [ne_eq] at hh30
     refine .gp rfl rfl rfl (by assumption) (zC (tm rfl)) (.gp rfl rfl rfl (by assumption) (yF (tm rfl) (zJ 0)) (.p rfl (zM (tm rfl) (by assumption) (tm rfl)) (.as rfl rfl (.nil ?_))))
     refine Block.go ?_
     refine Next.go ?_
     refine .region (.p rfl (zR (tm rfl) zE (by omega)) (.mv rfl rfl (.ng ?_)))
     refine Round.mk (J := atE neg more e v0 H) ⟨i + 1, by omega, rfl, rfl, rfl⟩ (zA rfl (zA rfl (zA rfl (yH rfl (by rw [← arE (c := 0) hgt, hg30]; rfl) (zA rfl (zA rfl (zA rfl (zA rfl (zA rfl zL))))))))) (Heap.le.refl _) (by omega)
   ·try simp only [decide_eq_false_iff_not, Int.not_lt] at hc26
    obtain rfl : i = aeY v0 := by omega
    refine .exit ?_
    refine Next.ex ?_
    refine Next.ex ?_
    refine Block.hit ?_
    refine Next.go ?_
    refine .seq (.sr (.mv rfl rfl (.p rfl (zY (tm rfl) zE) (.ng ?_))))
    refine AWP.cond_true (tm rfl) (by exact decide_eq_true (by omega)) ?_
    refine .region (.mv rfl rfl (.mv rfl rfl (.p rfl (ahD zE (tm rfl) (by omega)) (.p rfl (zR (tm rfl) (tm rfl) (by omega)) (.as rfl rfl (.ng (.region (.mv rfl rfl ?_))))))))
    refine .mv rfl rfl (.p rfl (ahC (aeY v0) Tryz.underlying170 Tryz.sizeOf112 (tm rfl) (tm rfl) (by omega) (by omega)) (.as rfl rfl (.nil ?_)))
    exact ⟨rfl, (yH rfl (by (rw [hdr]; rfl)) (yH rfl (by (congr 1; omega)) (yH rfl (by (rw [← hla]; done)) (zA rfl (zA rfl zL))))), rfl⟩
  ·try simp only [decide_eq_false_iff_not, Int.not_lt] at hc20
   have hc0 : aeY v0 = 0 := by omega
   refine .skip ?_
   exact ⟨rfl, (yH rfl (by (rw [hc0, Nat.mul_zero, Nat.pow_zero, Nat.div_one]; done)) (yH rfl (by (congr 1; omega)) (yH rfl (by (rw [← hla, hc0]; simp [val])) (zA rfl (zA rfl zL))))), rfl⟩
 ·refine AWP.sub [(1, _), (2, _), (3, _), (0, _), (8, _)] (zA rfl (zA rfl (zA rfl (zA rfl (zA rfl zL))))) ?_
  have he2 : -10000 ≤ e + 32 * (aeY v0 : Int) ∧ e + 32 * (aeY v0 : Int) ≤ 100000 := by omega
  rw [hr]
  generalize e + 32 * (aeY v0 : Int) = e2 at he2 ⊢
  generalize lowB v0 more = more2
  obtain ⟨hv, hv4⟩ := hcl
  clear hla hdr hr
  generalize v0 / 2 ^ (32 * aeY v0) = v at hv hv4 ⊢
  refine .sr (.s rfl (zT Tryz.zeroValue122 (zr122)) ?_)
  rintro _ _ ⟨b12, hb12, rfl, hH⟩
  obtain rfl := hH.symm
  refine .ng (.seq (.sr (.mv rfl rfl (.p rfl (zW Tryz.underlying170 (tm rfl)) (.p rfl (zC zE) (.ng (.block ?_)))))))
  rw [show ([.int .u64 0, .int .u64 0] : List AV) = (u2 (amS v 0)).cells by rw [ajZ]; rfl]
  refine AWP.loopW (bcL neg more2 e2 v b12 H) ((zI v).length) ⟨0, Nat.zero_le _, rfl, rfl, rfl⟩ (zA rfl (zA rfl (zA rfl (zA rfl (zA rfl (zA rfl (zA rfl zL))))))) (Heap.le.refl _) ?_
  rintro _ _ _ ⟨i, hi, rfl, rfl, rfl⟩
  refine .sr (.p rfl (zY (tm rfl) (tm rfl)) (.ng (.seq ?_)))
  refine AWP.cond (tm rfl) (fun hc47 => ?_) (fun hc47 => ?_)
  ·try simp only [decide_eq_true_eq] at hc47
   have hlv : i < (zI v).length := by omega
   have hgx := Limbs.getD (zO v) ((zI v).length - 1 - i)
   have hlo : amS v i * 2 ^ 32 % M2 % M1 < 18446744073709551616 := adZ _
   refine .skip ?_
   refine Next.go ?_
   refine .seq (.block (.sr (.mv rfl rfl (.as rfl rfl (.nr (.e rfl (yG Tryz.isAgg122 Tryz.sizeOf122 (tm rfl) (Heap.objs_set_same _ _ _) (Nat.le_of_ble_eq_true rfl)) (.cl rfl Tryz.call194 (.cons (tm rfl) (.cons zE .nil)) (afK (amS v i) 32 (by decide) 32 rfl _) (.e0 (zH Tryz.sizeOf122 (tm rfl) (tm rfl) rfl rfl (.inr ⟨_, rfl⟩) (Heap.objs_set_same _ _ _) (Nat.le_of_ble_eq_true rfl)) ?_))))))))
   try first | rw [Heap.set_set] | rw [Heap.set_under (by assumption)]
   refine .ng ?_
   refine AWP.draw [(0, true), (2, true), (3, true), (4, true), (5, true), (6, true), (7, true), (8, true), (9, true), (10, true), (1, false), (11, true), (12, true), (13, false)] rfl (by decide +kernel) ?_
   refine .p rfl rfl (yB Tryz.underlying122 rfl Tryz.sizeOf30 (tm rfl)) (.p rfl rfl (zC (tm rfl)) (.p rfl rfl (zC (tm rfl)) (.p rfl rfl (zW Tryz.underlying170 (tm rfl)) (.p rfl rfl (zZ (tm rfl) zE (by omega)) (.p rfl rfl (zC (tm rfl)) (.p rfl rfl (zZ (tm rfl) (tm rfl) (by omega)) (.p rfl rfl (yE ((zI v).length - 1 - i) Tryz.underlying170 Tryz.sizeOf112 (tm rfl) (tm rfl) (by omega) (by omega)) (.p rfl rfl (zF Tryz.isAgg112 (tm rfl)) ?_))))))))
   refine .p rfl rfl (yD Tryz.underlying112 Tryz.underlying30 (tm rfl) (wrapN64 (by omega))) (.s rfl rfl (yO Tryz.isAgg30 (tm rfl) (Heap.objs_set_same _ _ _) rfl) ?_)
   rintro _ _ ⟨rfl, hH⟩
   obtain rfl := hH.symm
   refine .p rfl rfl (aaF (tm rfl) (tm rfl) (by assumption) (by omega)) (.p rfl rfl (yB Tryz.underlying122 rfl Tryz.sizeOf30 (tm rfl)) (.s0 rfl (zH Tryz.sizeOf30 (tm rfl) (tm rfl) rfl rfl (.inl rfl) (Heap.objs_set_same _ _ _) (Nat.le_of_ble_eq_true rfl)) ?_))
   rintro _ _ ⟨rfl, hH⟩
   obtain rfl := hH.symm
   try first | rw [Heap.set_set] | rw [Heap.set_under (by assumption)]
   refine .nil ?_
   refine Block.go ?_
   refine Next.go ?_
   refine .region (.p rfl (zR (tm rfl) zE (by omega)) (.mv rfl rfl (.ng ?_)))
   refine Round.mk (J := bcL neg more2 e2 v b12 H) ⟨i + 1, by omega, rfl, rfl, rfl⟩ (zA rfl (zA rfl (zA rfl (zA rfl (zA rfl (zA rfl (zA rfl zL))))))) (by rw [← apW hlv]; exact Heap.le.refl _) (by omega)
  ·try simp only [decide_eq_false_iff_not, Int.not_lt] at hc47
   obtain rfl : i = (zI v).length := by omega
   rw [avH, Nat.mod_eq_of_lt hv]
   refine .exit ?_
   refine Next.ex ?_
   refine Next.ex ?_
   refine Block.hit ?_
   refine Next.go ?_
   refine .sr (.mv rfl rfl (.e rfl (yG Tryz.isAgg122 Tryz.sizeOf122 (tm rfl) (Heap.objs_set_same _ _ _) (Nat.le_of_ble_eq_true rfl)) (.mv rfl rfl (.mv rfl rfl (.cl rfl Tryz.call147 (.cons (tm rfl) (evs3 rfl rfl rfl)) (aiS neg v hv e2 (by constructor <;> omega) more2 _) (.as rfl rfl (.ng ?_)))))))
   refine AWP.dropb (hb12) ?_
   refine .ret ?_
   refine Ret.go (.cons (.tmp _ _ rfl) .nil) _ (Heap.le.refl _) ?_
   refine ⟨?_, rfl⟩
   rfl
theorem zr124 : ∀ g, RelCells g [.int .u64 0, .int .u64 0, .int .i64 0, .bool false] (Value.cells (Go.Value.agg #[Go.Value.int Go.IntKind.u64 0, Go.Value.int Go.IntKind.u64 0, Go.Value.int Go.IntKind.i64 0, Go.Value.bool false])) := fun g => RelL.cells (.cons (.int _ _) (.cons (.int _ _) (.cons (.int _ _) (.cons (.bool _) .nil))))
theorem pl124 (fs : Array Field) (hfs : Tryz.prog.underlying 124 = some (.struct fs)) : ∀ (i : Nat) f p, fs[i]? = some f → [(0, 2), (2, 1), (3, 1)][i]? = some p → ∀ w, (sizeOf f.type).run Tryz.prog w = .ok p.2 w := by
 have e := (Option.some.inj (hfs.symm.trans Tryz.underlying124))
 cases e
 intro i f p hf hp w
 match i with
 | 0 => cases hf; cases hp; exact Tryz.sizeOf122 w
 | 1 => cases hf; cases hp; exact Tryz.sizeOf3 w
 | 2 => cases hf; cases hp; exact Tryz.sizeOf4 w
 | i + 3 => simp at hp

def six (w : Nat) : List Nat := [w % M1 % 2 ^ IntKind.u32.bits, w % M1 / 2 ^ 32 % 2 ^ IntKind.u32.bits, w / M1 % M1 % 2 ^ IntKind.u32.bits, w / M1 % M1 / 2 ^ 32 % 2 ^ IntKind.u32.bits, w / M2 % 2 ^ IntKind.u32.bits, w / M2 / 2 ^ 32 % 2 ^ IntKind.u32.bits]
theorem six_val {w : Nat} (h : w < M3) : val (six w) = w := by
 have h3 := awQ h
 unfold six val
 simp only [val, IntKind.bits]
 have e1 := Nat.div_add_mod w M1
 have e2 := Nat.div_add_mod (w / M1) M1
 rw [awW] at e2
 have ha := adZ w
 generalize w % M1 = a at *
 generalize hb : w / M1 = b at *
 generalize w / M2 = c at *
 have hbm : b % M1 < M1 := adZ b
 generalize b % M1 = d at *
 unfold M1 at *
 omega
theorem bbY (w : Nat) : Limbs (six w) := by
 have k : ∀ x : Nat, x % 2 ^ IntKind.u32.bits < 4294967296 := fun x => Nat.mod_lt _ (by decide)
 exact Limbs.mk (k _) (Limbs.mk (k _) (Limbs.mk (k _) (Limbs.mk (k _) (Limbs.mk (k _) (Limbs.mk (k _) Limbs.nil)))))
theorem round6 (w : Nat) (h : w < M3) (e : Int) (he : -10000 ≤ e ∧ e ≤ 2000) (H : Heap) : ACall Tryz.prog 159 [.bool false, .slice 1 (U .u32 (six w)) .full, .int .i64 e, .bool false] H (fun y H' => y = .int .u64 ((yM false w e false : Nat) : Int) ∧ H' = H) := by
 have q := amD false (six w) .full (bbY w) (by show 6 ≤ 1000; decide) e he false H
 rw [six_val h] at q; exact q
theorem roundB (n : Nat) (h : n < BIG) (e : Int) (he : -10000 ≤ e ∧ e ≤ 2000) (more : Bool) (H : Heap) : ACall Tryz.prog 159 [.bool false, aaM n, .int .i64 e, .bool more] H (fun y H' => y = .int .u64 ((yM false n e more : Nat) : Int) ∧ H' = H) := by
 have q := amD false (zI n) .shared (zO n) (by have := qE h; omega) e he more H
 rw [zV] at q; exact q

set_option maxRecDepth 100000 in
theorem anO (w : Nat) (hw : w < M3) (e : Int) (he : -10000 ≤ e ∧ e ≤ 2000) (H : Heap) : ACall Tryz.prog 153 [u3 w, .int .i64 e] H (fun y H' => y = .int .u64 ((yM false w e false : Nat) : Int) ∧ H' = H) := by
 have hh := awQ hw
 have hm := adZ (w / M1)
 have hl := adZ w
 have q1 : w % M1 < 18446744073709551616 := hl
 have q2 : w / M1 % M1 < 18446744073709551616 := hm
 have q3 : w / M2 < 18446744073709551616 := hh
 refine ACall.of_body Tryz.func153 rfl Tryz.ntmps153 Tryz.results153 rfl ?_
 refine .sr (.e rfl (yR (tm rfl) (.inr ⟨_, rfl⟩)) (.p rfl (zB (zJ 0)) (.nr (.p rfl (zG Tryz.underlying192 rfl Tryz.sizeOf30 (tm rfl)) (.p rfl (zF Tryz.isAgg30 (tm rfl)) (.p rfl (yS Tryz.underlying30 Tryz.underlying112 rfl (tm rfl)) (.p rfl (zG Tryz.underlying192 rfl Tryz.sizeOf30 (tm rfl)) (.p rfl (zF Tryz.isAgg30 (tm rfl)) ?_))))))))
 refine .p rfl (yP (tm rfl) (zJ 32) (by assumption)) (.p rfl (yS Tryz.underlying30 Tryz.underlying112 rfl (tm rfl)) (.p rfl (zG Tryz.underlying192 rfl Tryz.sizeOf30 (tm rfl)) (.p rfl (zF Tryz.isAgg30 (tm rfl)) (.p rfl (yS Tryz.underlying30 Tryz.underlying112 rfl (tm rfl)) (.p rfl (zG Tryz.underlying192 rfl Tryz.sizeOf30 (tm rfl)) (.p rfl (zF Tryz.isAgg30 (tm rfl)) (.p rfl (yP (tm rfl) (zJ 32) (by assumption)) (.p rfl (yS Tryz.underlying30 Tryz.underlying112 rfl (tm rfl)) ?_))))))))
 refine .p rfl (zG Tryz.underlying192 rfl Tryz.sizeOf30 (tm rfl)) (.p rfl (zF Tryz.isAgg30 (tm rfl)) (.p rfl (yS Tryz.underlying30 Tryz.underlying112 rfl (tm rfl)) (.p rfl (zG Tryz.underlying192 rfl Tryz.sizeOf30 (tm rfl)) (.p rfl (zF Tryz.isAgg30 (tm rfl)) (.p rfl (yP (tm rfl) (zJ 32) (by assumption)) (.p rfl (yS Tryz.underlying30 Tryz.underlying112 rfl (tm rfl)) ?_))))))
 refine .e rfl (aeO Tryz.underlying170 Tryz.sizeOf112 Tryz.zeroValue112 rfl rfl rfl (.cons (tm rfl) (.inl rfl) (.cons (tm rfl) (.inl rfl) (.cons (tm rfl) (.inl rfl) (.cons (tm rfl) (.inl rfl) (.cons (tm rfl) (.inl rfl) (.cons (tm rfl) (.inl rfl) .nil)))))) (qC ⟨rfl, rfl⟩ (qC ⟨rfl, rfl⟩ (qC ⟨rfl, rfl⟩ (qC ⟨rfl, rfl⟩ (qC ⟨rfl, rfl⟩ (qC ⟨rfl, rfl⟩ akM))))))) ?_
 refine .as rfl rfl (.nr (.mv rfl rfl (.mv rfl rfl (.cl rfl Tryz.call159 (.cons zK (.cons (tm rfl) (.cons (tm rfl) (.cons zK .nil)))) (round6 w hw e he _) (.as rfl rfl (.ng (.ret ?_)))))))
 refine Ret.go (.cons (.tmp _ _ rfl) .nil) _ (Heap.le.refl _) ?_
 exact ⟨rfl, rfl⟩

theorem acY {j n : Nat} (hj : j ≤ 1500) (hn : n ≤ 3000) : 10 ^ j * 2 ^ n < BIG ∧ 10 ^ j < BIG ∧ 2 ^ n < BIG := by
 obtain ⟨K, hK, hB⟩ : ∃ K, K = 8192 ∧ BIG = 2 ^ K := ⟨32 * 256, rfl, amG _ rfl⟩
 have h10 : 10 ^ j ≤ 2 ^ (10 * j / 3 + 1) := by
  have h3 : ∀ q r : Nat, r < 3 → 10 ^ (3 * q + r) ≤ 2 ^ (10 * q + (10 * r / 3 + 1)) := by
   intro q r hr
   rw [Nat.pow_add, Nat.pow_add 2, Nat.pow_mul, Nat.pow_mul 2]
   refine Nat.mul_le_mul (Nat.pow_le_pow_left (by decide) q) ?_
   rcases (by omega : r = 0 ∨ r = 1 ∨ r = 2) with rfl | rfl | rfl <;> decide
  have := h3 (j / 3) (j % 3) (Nat.mod_lt _ (by decide))
  rw [show 3 * (j / 3) + j % 3 = j by omega] at this
  refine Nat.le_trans this (Nat.pow_le_pow_right (by decide) (by omega))
 have h4 : 10 ^ j * 2 ^ n ≤ 2 ^ (10 * j / 3 + 1 + n) := by rw [Nat.pow_add]; exact Nat.mul_le_mul_right _ h10
 rw [hB]
 refine ⟨Nat.lt_of_le_of_lt h4 (Nat.pow_lt_pow_right (by decide) ?_), Nat.lt_of_le_of_lt h10 (Nat.pow_lt_pow_right (by decide) ?_), Nat.pow_lt_pow_right (by decide) ?_⟩ <;> (clear h4 h10 hB; omega)
theorem agB (j : Nat) : yQ (10 ^ j) ≤ 10 * j / 3 + 2 := by
 rw [qJ]
 have h3 : ∀ q r : Nat, r < 3 → 10 ^ (3 * q + r) < 2 ^ (10 * q + (10 * r / 3 + 2)) := by
  intro q r hr
  rw [Nat.pow_add, Nat.pow_add 2, Nat.pow_mul, Nat.pow_mul 2]
  refine Nat.mul_lt_mul_of_le_of_lt (Nat.pow_le_pow_left (by decide) q) ?_ (Nat.pow_pos (by decide))
  rcases (by omega : r = 0 ∨ r = 1 ∨ r = 2) with rfl | rfl | rfl <;> decide
 have := h3 (j / 3) (j % 3) (Nat.mod_lt _ (by decide))
 rw [show 3 * (j / 3) + j % 3 = j by omega] at this
 exact Nat.lt_of_lt_of_le this (Nat.pow_le_pow_right (by decide) (by omega))
theorem awD : ∀ m : Nat, ¬ 5 ∣ 2 ^ m
 | 0 => by decide
 | m + 1 => fun h => by
  rw [Nat.pow_succ] at h
  have := awD m
  omega
def aiE (k : Int) : AV := .agg [.int .u64 ((aeX k / M1 : Nat) : Int), .int .u64 ((aeX k % M1 : Nat) : Int), .int .i64 (amK k), .bool (asJ k)]

theorem pow10Z (j : Nat) (q : Int) (hq : q = (j : Int)) (hj : j ≤ 1500) (H : Heap) : ACall Tryz.prog 157 [.int .i64 10, .int .i64 q] H (fun y H' => y = .tuple [aaM (10 ^ j), .int .i64 0] ∧ H' = H) := by
 subst hq
 exact amE 10 j (by decide) (by decide) (by omega) (acY (n := 0) hj (by decide)).2.1 H
theorem oneB (s : Nat) (q : Int) (hq : q = (s : Int)) (hs : s ≤ 3000) (H : Heap) : ACall Tryz.prog 161 [.slice 1 [.int .u32 1] .full, .int .i64 q] H (fun y H' => y = .tuple [aaM (2 ^ s), .int .i64 0] ∧ H' = H) := by
 subst hq
 have h := asF [1] .full (Limbs.mk (by decide) Limbs.nil) (by decide) s (by rw [show val [1] = 1 from rfl, Nat.one_mul]; exact (acY (j := 0) (by decide) hs).2.2) (by omega) H
 rw [show val [1] = 1 from rfl, Nat.one_mul] at h
 exact h
theorem avW {k : Int} (h : k < 0) : aeX k = 2 ^ (yQ (10 ^ (-k).toNat) + 127) / 10 ^ (-k).toNat ∧ amK k = -((yQ (10 ^ (-k).toNat) : Int) + 127) ∧ asJ k = false := by
 refine ⟨?_, ?_, ?_⟩
 ·unfold aeX; rw [if_pos h]
 ·unfold amK; rw [if_pos h]; omega
 ·unfold asJ; rw [if_pos h]
theorem anH {k : Int} (h : ¬ k < 0) (hb : yQ (10 ^ k.toNat) ≤ 128) : aeX k = 10 ^ k.toNat * 2 ^ (128 - yQ (10 ^ k.toNat)) ∧ amK k = (yQ (10 ^ k.toNat) : Int) - 128 ∧ asJ k = true := by
 refine ⟨?_, ?_, ?_⟩
 ·unfold aeX; rw [if_neg h, if_pos hb]
 ·unfold amK; rw [if_neg h]
 ·unfold asJ; rw [if_neg h]; exact decide_eq_true (.inl hb)
theorem avX {k : Int} (h : ¬ k < 0) (hb : ¬ yQ (10 ^ k.toNat) ≤ 128) : aeX k = 10 ^ k.toNat / 2 ^ (yQ (10 ^ k.toNat) - 128) ∧ amK k = (yQ (10 ^ k.toNat) : Int) - 128 ∧ asJ k = decide (10 ^ k.toNat % 2 ^ (yQ (10 ^ k.toNat) - 128) = 0) := by
 refine ⟨?_, ?_, ?_⟩
 ·unfold aeX; rw [if_neg h, if_neg hb]
 ·unfold amK; rw [if_neg h]
 ·unfold asJ; rw [if_neg h]; exact decide_eq_decide.2 ⟨fun q => q.resolve_left hb, .inr⟩
theorem aoU (k : Int) : aeX k < M2 := by
 have e128 : M2 = 2 ^ 128 := by decide +kernel
 rw [e128]
 rcases Int.lt_or_le k 0 with h | h
 ·rw [(avW h).1]
  have ht := abH (-k).toNat
  have hlo := alZ ht
  have hb := acS ht
  rw [Nat.div_lt_iff_lt_mul ht]
  rcases Nat.lt_or_eq_of_le hlo with hl | hl
  ·have e : 2 ^ (yQ (10 ^ (-k).toNat) + 127) = 2 ^ 128 * 2 ^ (yQ (10 ^ (-k).toNat) - 1) := by rw [← Nat.pow_add]; congr 1; omega
   rw [e]
   exact Nat.mul_lt_mul_of_pos_left hl (Nat.pow_pos (by decide))
  ·-- a power of ten that is a power of two
   exfalso
   have hj : 0 < (-k).toNat := by omega
   have h5 : 10 ^ (-k).toNat = 2 ^ (-k).toNat * 5 ^ (-k).toNat := by rw [← Nat.mul_pow]
   have hodd : 5 ∣ 2 ^ (yQ (10 ^ (-k).toNat) - 1) := by
    rw [hl, h5]
    exact Nat.dvd_trans (Nat.dvd_trans ⟨5 ^ ((-k).toNat - 1), by rw [← Nat.pow_succ', show ((-k).toNat - 1).succ = (-k).toNat by omega]⟩ (Nat.dvd_mul_left _ _)) (Nat.dvd_refl _)
   exact awD _ hodd
 ·rcases Nat.lt_or_ge 128 (yQ (10 ^ k.toNat)) with hl | hl
  ·rw [(avX (by omega) (by omega)).1, Nat.div_lt_iff_lt_mul (Nat.pow_pos (by decide)), ← Nat.pow_add]
   refine Nat.lt_of_lt_of_le (adX _) (Nat.pow_le_pow_right (by decide) (by omega))
  ·rw [(anH (by omega) hl).1]
   refine Nat.lt_of_lt_of_le (Nat.mul_lt_mul_of_pos_right (adX _) (Nat.pow_pos (by decide))) ?_
   rw [← Nat.pow_add]
   exact Nat.pow_le_pow_right (by decide) (by omega)

theorem shrZ (a s : Nat) (q : Int) (hq : q = (s : Int)) (h : a < BIG) (hs : s < 1000000000) (H : Heap) : ACall Tryz.prog 165 [aaM a, .int .i64 q] H (fun y H' => y = .tuple [aaM (a / 2 ^ s), .bool (decide (a % 2 ^ s ≠ 0)), .int .i64 0] ∧ H' = H) := by
 subst hq; exact shrB a s h hs H
theorem shlQ (a s : Nat) (q : Int) (hq : q = (s : Int)) (h : a * 2 ^ s < BIG) (hs : s < 1000000000) (H : Heap) : ACall Tryz.prog 161 [aaM a, .int .i64 q] H (fun y H' => y = .tuple [aaM (a * 2 ^ s), .int .i64 0] ∧ H' = H) := by
 subst hq; exact shlB a s h hs H
theorem powP_BIG (k : Int) : aeX k < BIG := Nat.lt_trans (aoU k) (by
  obtain ⟨K, hK, hB⟩ : ∃ K, K = 8192 ∧ BIG = 2 ^ K := ⟨32 * 256, rfl, amG _ rfl⟩
  rw [hB, show M2 = 2 ^ 128 by decide +kernel]
  exact Nat.pow_lt_pow_right (by decide) (by omega))
theorem valueP (k : Int) (H : Heap) : ACall Tryz.prog 235 [aaM (aeX k)] H (fun y H' => y = u2 (aeX k) ∧ H' = H) := by
 have h := asN (aeX k) (by have := qE (powP_BIG k); omega) H
 rw [Nat.mod_eq_of_lt (aoU k)] at h; exact h

set_option maxRecDepth 100000 in
theorem azG (k : Int) (hk : -400 ≤ k ∧ k ≤ 400) (H : Heap) : ACall Tryz.prog 199 [.int .i64 k] H (fun y H' => y = aiE k ∧ H' = H) := by
 have hbl := agB k.natAbs
 have hp0 := abH k.natAbs
 have htB := (acY (j := k.natAbs) (n := 0) (by omega) (by decide)).2.1
 refine ACall.of_body Tryz.func199 rfl Tryz.ntmps199 Tryz.results199 rfl ?_
 refine .sr (.s rfl (zT Tryz.zeroValue124 (zr124)) ?_)
 rintro _ _ ⟨b2, hb2, rfl, hH⟩
 obtain rfl := hH.symm
 refine .nr (.mv rfl rfl (.mv rfl rfl (.p rfl (abB (tm rfl) (by omega)) (.p rfl (abX (tm rfl) (tm rfl)) (.cl rfl Tryz.call157 (.cons zE (evs1 rfl)) (pow10Z k.natAbs _ (by simp only [auK]; split <;> omega) (by omega) _) (.mv rfl rfl (.p rfl (zD (tm rfl) rfl) (.p rfl (zD (tm rfl) rfl) ?_))))))))
 refine .as rfl rfl (.as rfl rfl (.ng (.seq (.sr (.mv rfl rfl (.p rfl (zY (tm rfl) zE) (.ng ?_)))))))
 refine AWP.cond (tm rfl) (fun hc23 => ?_) (fun hc23 => ?_)
 ·try simp only [decide_eq_true_eq] at hc23
  have hP := avW (k := k) (by omega)
  rw [show (-k).toNat = k.natAbs by omega] at hP
  refine .sr (.mv rfl rfl (.cl rfl Tryz.call160 (evs1 rfl) (lenB _ htB _) (.p rfl (zR (tm rfl) zE (by omega)) (.as rfl rfl (.nr (.e rfl (aaY Tryz.underlying170 Tryz.sizeOf112 Tryz.zeroValue112 rfl (zJ 1) (.inl rfl) ⟨rfl, rfl⟩) (.mv rfl rfl (.cl rfl Tryz.call161 (evs2 rfl rfl) (oneB (yQ (10 ^ k.natAbs) + 127) _ (by omega) (by omega) _) ?_))))))))
  refine .mv rfl rfl (.p rfl (zD (tm rfl) rfl) (.p rfl (zD (tm rfl) rfl) (.as rfl rfl (.as rfl rfl (.nr (.mv rfl rfl (.mv rfl rfl ?_)))))))
  refine .cl rfl Tryz.call162 (evs2 rfl rfl) (ajG _ _ (acY (j := 0) (by decide) (by omega)).2.2 hp0 htB _) ?_
  refine .mv rfl rfl (.p rfl (zD (tm rfl) rfl) (.p rfl (zD (tm rfl) rfl) (.p rfl (zD (tm rfl) rfl) (.as rfl rfl (.as rfl rfl (.as rfl rfl (.ng (.seq ?_))))))))
  rw [← hP.1]
  refine .region (.mv rfl rfl (.cl rfl Tryz.call235 (evs1 rfl) (valueP k _) (.mv rfl rfl (.p rfl (abB (tm rfl) (by omega)) ?_))))
  refine .p rfl (yN [(0, 2), (2, 1), (3, 1)] Tryz.underlying124 Tryz.zeroValue124 (zr124) rfl (pl124 _ Tryz.underlying124) (.cons (tm rfl) (.inr ⟨_, rfl⟩) (.cons (tm rfl) (.inl rfl) (.cons zK (.inl rfl) .nil))) rfl) ?_
  refine .e0 (zH Tryz.sizeOf124 (tm rfl) (tm rfl) rfl rfl (.inr ⟨_, rfl⟩) (Heap.objs_set_same _ _ _) (Nat.le_of_ble_eq_true rfl)) ?_
  try first | rw [Heap.set_set] | rw [Heap.set_under (by assumption)]
  refine .ng ?_
  refine AWP.frz (t := 2) rfl (hb2) ?_
  refine .ret ?_
  refine Next.rt ?_
  refine Ret.go (.cons (.cellI _ _ _ _ rfl Tryz.isAgg124 Tryz.sizeOf124 rfl) .nil) _ (Heap.le.refl _) ?_
  refine ⟨?_, rfl⟩
  unfold aiE
  rw [hP.2.1, hP.2.2]
  rfl
 ·try simp only [decide_eq_false_iff_not, Int.not_lt] at hc23
  have hkt : k.toNat = k.natAbs := by omega
  refine .skip ?_
  refine Next.go ?_
  refine .sr (.mv rfl rfl (.cl rfl Tryz.call160 (evs1 rfl) (lenB _ htB _) (.p rfl (zZ (tm rfl) zE (by omega)) (.as rfl rfl (.ng (.seq (.sr (.mv rfl rfl ?_))))))))
  refine .p rfl (abM (tm rfl) zE) (.ng ?_)
  refine AWP.cond (tm rfl) (fun hc49 => ?_) (fun hc49 => ?_)
  ·try simp only [decide_eq_true_eq] at hc49
   have hP := anH (k := k) (by omega) (by rw [hkt]; omega)
   rw [hkt] at hP
   refine .sr (.mv rfl rfl (.mv rfl rfl (.p rfl (abB (tm rfl) (by omega)) (.cl rfl Tryz.call161 (evs2 rfl rfl) (shlQ _ (128 - yQ (10 ^ k.natAbs)) _ (by omega) (acY (by omega) (by omega)).1 (by omega) _) (.mv rfl rfl (.p rfl (zD (tm rfl) rfl) (.p rfl (zD (tm rfl) rfl) (.as rfl rfl ?_))))))))
   refine .ng (.seq ?_)
   rw [← hP.1]
   refine .region (.mv rfl rfl (.cl rfl Tryz.call235 (evs1 rfl) (valueP k _) (.mv rfl rfl ?_)))
   refine .p rfl (yN [(0, 2), (2, 1), (3, 1)] Tryz.underlying124 Tryz.zeroValue124 (zr124) rfl (pl124 _ Tryz.underlying124) (.cons (tm rfl) (.inr ⟨_, rfl⟩) (.cons (tm rfl) (.inl rfl) (.cons zK (.inl rfl) .nil))) rfl) ?_
   refine .e0 (zH Tryz.sizeOf124 (tm rfl) (tm rfl) rfl rfl (.inr ⟨_, rfl⟩) (Heap.objs_set_same _ _ _) (Nat.le_of_ble_eq_true rfl)) ?_
   try first | rw [Heap.set_set] | rw [Heap.set_under (by assumption)]
   refine .ng ?_
   refine AWP.frz (t := 2) rfl (hb2) ?_
   refine .ret ?_
   refine Next.rt ?_
   refine Ret.go (.cons (.cellI _ _ _ _ rfl Tryz.isAgg124 Tryz.sizeOf124 rfl) .nil) _ (Heap.le.refl _) ?_
   refine ⟨?_, rfl⟩
   unfold aiE
   rw [hP.2.1, hP.2.2]
   rfl
  ·try simp only [decide_eq_false_iff_not, Int.not_le] at hc49
   have hP := avX (k := k) (by omega) (by rw [hkt]; omega)
   rw [hkt] at hP
   refine .skip ?_
   refine Next.go ?_
   refine .sr (.mv rfl rfl (.mv rfl rfl (.cl rfl Tryz.call165 (evs2 rfl rfl) (shrZ _ (yQ (10 ^ k.natAbs) - 128) _ (by omega) htB (by omega) _) (.mv rfl rfl (.p rfl (zD (tm rfl) rfl) (.p rfl (zD (tm rfl) rfl) (.p rfl (zD (tm rfl) rfl) (.as rfl rfl ?_))))))))
   refine .as rfl rfl (.as rfl rfl (.ng (.seq ?_)))
   rw [← hP.1]
   refine .region (.mv rfl rfl (.cl rfl Tryz.call235 (evs1 rfl) (valueP k _) (.mv rfl rfl (.mv rfl rfl (.p rfl (qY (tm rfl)) ?_)))))
   refine .p rfl (yN [(0, 2), (2, 1), (3, 1)] Tryz.underlying124 Tryz.zeroValue124 (zr124) rfl (pl124 _ Tryz.underlying124) (.cons (tm rfl) (.inr ⟨_, rfl⟩) (.cons (tm rfl) (.inl rfl) (.cons (tm rfl) (.inl rfl) .nil))) rfl) ?_
   refine .e0 (zH Tryz.sizeOf124 (tm rfl) (tm rfl) rfl rfl (.inr ⟨_, rfl⟩) (Heap.objs_set_same _ _ _) (Nat.le_of_ble_eq_true rfl)) ?_
   try first | rw [Heap.set_set] | rw [Heap.set_under (by assumption)]
   refine .ng ?_
   refine AWP.frz (t := 2) rfl (hb2) ?_
   refine .ret ?_
   refine Ret.go (.cons (.cellI _ _ _ _ rfl Tryz.isAgg124 Tryz.sizeOf124 rfl) .nil) _ (Heap.le.refl _) ?_
   refine ⟨?_, rfl⟩
   unfold aiE
   rw [hP.2.1, hP.2.2]
   have e : (!decide (10 ^ k.natAbs % 2 ^ (yQ (10 ^ k.natAbs) - 128) ≠ 0)) = decide (10 ^ k.natAbs % 2 ^ (yQ (10 ^ k.natAbs) - 128) = 0) := by simp
   rw [← e]
   rfl
end Go.Proofs.YtfkeflcdadlmdaaGreatDoor
