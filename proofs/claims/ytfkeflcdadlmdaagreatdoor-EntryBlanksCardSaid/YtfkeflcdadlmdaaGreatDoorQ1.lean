/-
  Naturals of any length, rounded; the lowest 128 bits of a natural.
-/
import Derived.Test.YtfkeflcdadlmdaaGreatDoorSsk
import Derived.Test.YtfkeflcdadlmdaaGreatDoorP2
import Derived.Test.YtfkeflcdadlmdaaGreatDoorN2
import Derived.Test.YtfkeflcdadlmdaaGreatDoorP1
import Derived.Test.YtfkeflcdadlmdaaGreatDoorN3
namespace Go.Proofs.YtfkeflcdadlmdaaGreatDoor
open Go Go.RowKit

def topN (v i : Nat) : Nat := v / 4294967296 ^ ((limbs v).length - i) % M2
theorem afZ (v : Nat) : topN v 0 = 0 := by
 have h := aeJ (zM v) (Nat.le_refl (limbs v).length)
 rw [List.drop_length, zZ] at h
 unfold topN
 rw [Nat.sub_zero, ← h]; rfl
theorem apQ (v : Nat) : topN v (limbs v).length = v % M2 := by
 unfold topN
 rw [Nat.sub_self, Nat.pow_zero, Nat.div_one]
theorem auU {v i : Nat} (h : i < (limbs v).length) : topN v (i + 1) = (topN v i * 4294967296 + (limbs v).getD ((limbs v).length - 1 - i) 0) % M2 := by
 have h1 := aeJ (zM v) (show (limbs v).length - 1 - i ≤ (limbs v).length by omega)
 have h2 := aeJ (zM v) (show (limbs v).length - i ≤ (limbs v).length by omega)
 rw [zZ] at h1 h2
 have h3 : (limbs v).drop ((limbs v).length - 1 - i) = (limbs v).getD ((limbs v).length - 1 - i) 0 :: (limbs v).drop ((limbs v).length - i) := by
  rw [List.drop_eq_getElem_cons (show (limbs v).length - 1 - i < (limbs v).length by omega), List.getD_eq_getElem?_getD, List.getElem?_eq_getElem (show (limbs v).length - 1 - i < (limbs v).length by omega), show (limbs v).length - 1 - i + 1 = (limbs v).length - i by omega]
  rfl
 rw [h3, val, h2] at h1
 unfold topN
 rw [show (limbs v).length - (i + 1) = (limbs v).length - 1 - i by omega, ← h1]
 generalize v / 4294967296 ^ ((limbs v).length - i) = q
 generalize (limbs v).getD ((limbs v).length - 1 - i) 0 = x
 unfold M2; omega
theorem akX {v i : Nat} (h : i < (limbs v).length) : putRow (u2 (topN v i * 2 ^ 32 % M2)).cells 1 [.int .u64 (((topN v i * 2 ^ 32 % M2 % M1 ||| (limbs v).getD ((limbs v).length - 1 - i) 0 : Nat)) : Int)] = (u2 (topN v (i + 1))).cells := by
 obtain ⟨e1, e2⟩ := take_in (v := topN v i) (Limbs.getD (zM v) ((limbs v).length - 1 - i))
 rw [auU h, e2]
 show putRow [.int .u64 (((topN v i * 2 ^ 32 % M2 / M1 : Nat)) : Int), _] 1 _ = _
 rw [e1]; rfl
theorem aoV : ∀ (c v : Nat), (limbs v).drop c = limbs (v / 4294967296 ^ c)
 | 0, v => by rw [List.drop_zero, Nat.pow_zero, Nat.div_one]
 | c + 1, v => by
  rcases Nat.eq_zero_or_pos v with h | h
  ·subst h; rw [Nat.zero_div, qJ, List.drop_nil]
  ·rw [yY h, List.drop_succ_cons, aoV c, Nat.div_div_eq_div_mul, Nat.pow_succ, Nat.mul_comm]
theorem low_mod {v c : Nat} (h : c ≤ (limbs v).length) : val ((limbs v).take c) = v % 4294967296 ^ c := by
 have h1 := abK h
 have h2 := aeM (zM v) h
 rw [zZ] at h1
 conv => rhs; rw [h1]
 rw [Nat.add_mul_mod_self_left, Nat.mod_eq_of_lt h2]
theorem ajW (c : Nat) : 4294967296 ^ c = 2 ^ (32 * c) := by rw [show (4294967296 : Nat) = 2 ^ 32 by decide, ← Nat.pow_mul]
theorem limbs4 {v : Nat} (h : (limbs v).length ≤ 4) : v < M2 := by
 have := afT (zM v)
 rw [zZ] at this
 refine Nat.lt_of_lt_of_le this ?_
 rw [ajW, show M2 = 2 ^ 128 by decide +kernel]
 exact Nat.pow_le_pow_right (by decide) (by omega)
theorem amF {v c : Nat} (h : (limbs v).length = c + 4) : 55 ≤ blen (v / 2 ^ (32 * c)) ∧ v / 2 ^ (32 * c) < M2 ∧ (limbs (v / 2 ^ (32 * c))).length = 4 := by
 have e := aoV c v
 rw [ajW] at e
 have el : (limbs (v / 2 ^ (32 * c))).length = 4 := by rw [← e, List.length_drop]; omega
 refine ⟨?_, limbs4 (by omega), el⟩
 have hp : 0 < v / 2 ^ (32 * c) := by
  rcases Nat.eq_zero_or_pos (v / 2 ^ (32 * c)) with h0 | h0
  ·rw [h0] at el; simp [qJ] at el
  ·exact h0
 have := aeZ hp
 omega

def value_J (v b2 b3 : Nat) (H : Heap) : Nat → Env → Heap → Prop := fun k env H1 => ∃ i : Nat, i ≤ (limbs v).length ∧ env = [(0, bigA v), (2, .ptr (some ⟨b2, 0, none⟩)), (3, .ptr (some ⟨b3, 0, none⟩)), (6, .int .i64 ((limbs v).length : Int)), (7, .int .i64 (i : Int))] ∧ H1 = (H.set b2 (.box 122 [.int .u64 0, .int .u64 0])).set b3 (.box 122 (u2 (topN v i)).cells) ∧ k = (limbs v).length - i

set_option maxRecDepth 100000 in
theorem anM (v : Nat) (hv : (limbs v).length ≤ 1000000) (H : Heap) : ACall Tryz.prog 235 [bigA v] H (fun y H' => y = u2 (v % M2) ∧ H' = H) := by
 refine ACall.of_body Tryz.func235 rfl Tryz.ntmps235 Tryz.results235 rfl ?_
 refine .sr (.s rfl (zO Tryz.zeroValue122 (zr122)) ?_)
 rintro _ _ ⟨b2, hb2, rfl, hH⟩
 obtain rfl := hH.symm
 refine .nr ?_
 refine .s rfl (zO Tryz.zeroValue122 (zr122)) ?_
 rintro _ _ ⟨b3, hb3, rfl, hH⟩
 obtain rfl := hH.symm
 have hn2_3 := Heap.ne_of (Heap.objs_set_same _ _ _) hb3
 refine .ng ?_
 refine .seq ?_
 refine .sr (.mv rfl rfl (.p rfl (zW Tryz.underlying170 (tm rfl)) ?_))
 refine .p rfl (zD zE) ?_
 refine .ng ?_
 refine .block ?_
 rw [show ([.int .u64 0, .int .u64 0] : List AV) = (u2 (topN v 0)).cells by rw [afZ]; rfl]
 refine AWP.loopW (value_J v b2 b3 H) ((limbs v).length) ⟨0, Nat.zero_le _, rfl, by rw [afZ]; rfl, rfl⟩ (zB rfl (zB rfl (zB rfl (zB rfl (zB rfl zK))))) (Heap.le.refl _) ?_
 rintro _ _ _ ⟨i, hi, rfl, rfl, rfl⟩
 refine .sr (.p rfl (yA (tm rfl) (tm rfl)) ?_)
 refine .ng ?_
 refine .seq ?_
 refine AWP.cond (tm rfl) (fun hc8 => ?_) (fun hc8 => ?_)
 ·try simp only [decide_eq_true_eq] at hc8
  have hlv : i < (limbs v).length := by omega
  have hgx := Limbs.getD (zM v) ((limbs v).length - 1 - i)
  have hlo : topN v i * 2 ^ 32 % M2 % M1 < 18446744073709551616 := abM _
  refine .skip ?_
  refine Next.go ?_
  refine .seq ?_
  refine .block ?_
  refine .sr (.mv rfl rfl (.as rfl rfl (.nr ?_)))
  refine .e rfl (yI Tryz.isAgg122 Tryz.sizeOf122 (tm rfl) (Heap.objs_set_same _ _ _) (Nat.le_of_ble_eq_true rfl)) ?_
  refine .cl rfl Tryz.call194 (.cons (tm rfl) (.cons zE .nil)) (acR (topN v i) 32 (by decide) 32 rfl _) ?_
  refine .e0 (zH Tryz.sizeOf122 (tm rfl) (tm rfl) rfl rfl (.inr ⟨_, rfl⟩) (Heap.objs_set_same _ _ _) (Nat.le_of_ble_eq_true rfl)) ?_
  try first | rw [Heap.set_set] | rw [Heap.set_under (by assumption)]
  refine .ng ?_
  refine AWP.draw [(0, true), (2, true), (3, true), (4, true), (5, true), (6, true), (7, true), (8, true), (9, true), (10, true), (1, false), (11, true), (12, true), (13, false)] rfl (by decide +kernel) ?_
  refine .p rfl rfl (zV Tryz.underlying122 rfl Tryz.sizeOf30 (tm rfl)) ?_
  refine .p rfl rfl (zD (tm rfl)) ?_
  refine .p rfl rfl (zD (tm rfl)) ?_
  refine .p rfl rfl (zW Tryz.underlying170 (tm rfl)) ?_
  refine .p rfl rfl (zX (tm rfl) zE (by omega)) ?_
  refine .p rfl rfl (zD (tm rfl)) ?_
  refine .p rfl rfl (zX (tm rfl) (tm rfl) (by omega)) ?_
  refine .p rfl rfl (yF ((limbs v).length - 1 - i) Tryz.underlying170 Tryz.sizeOf112 (tm rfl) (tm rfl) (by omega) (by omega)) ?_
  refine .p rfl rfl (zF Tryz.isAgg112 (tm rfl)) ?_
  refine .p rfl rfl (zY Tryz.underlying112 Tryz.underlying30 (tm rfl) (wrapN64 (by omega))) ?_
  refine .s rfl rfl (yO Tryz.isAgg30 (tm rfl) (Heap.objs_set_same _ _ _) rfl) ?_
  rintro _ _ ⟨rfl, hH⟩
  obtain rfl := hH.symm
  refine .p rfl rfl (qG (tm rfl) (tm rfl) (by assumption) (by omega)) ?_
  refine .p rfl rfl (zV Tryz.underlying122 rfl Tryz.sizeOf30 (tm rfl)) ?_
  refine .s0 rfl (zH Tryz.sizeOf30 (tm rfl) (tm rfl) rfl rfl (.inl rfl) (Heap.objs_set_same _ _ _) (Nat.le_of_ble_eq_true rfl)) ?_
  rintro _ _ ⟨rfl, hH⟩
  obtain rfl := hH.symm
  try first | rw [Heap.set_set] | rw [Heap.set_under (by assumption)]
  refine .nil ?_
  refine Block.go ?_
  refine Next.go ?_
  refine .region ?_
  refine .p rfl (zS (tm rfl) zE (by omega)) ?_
  refine .mv rfl rfl (.ng ?_)
  refine Round.mk (J := value_J v b2 b3 H) ⟨i + 1, by omega, rfl, rfl, rfl⟩ (zB rfl (zB rfl (zB rfl (zB rfl (yH rfl (by congr 1) zK))))) (by rw [← akX hlv]; exact Heap.le.refl _) (by omega)
 ·try simp only [decide_eq_false_iff_not, Int.not_lt] at hc8
  obtain rfl : i = (limbs v).length := by omega
  rw [apQ]
  refine .exit ?_
  refine Next.ex ?_
  refine Next.ex ?_
  refine Block.hit ?_
  refine Next.go ?_
  refine .sr (.e rfl (yI Tryz.isAgg122 Tryz.sizeOf122 (tm rfl) (Heap.objs_set_same _ _ _) (Nat.le_of_ble_eq_true rfl)) ?_)
  refine .e0 (zH Tryz.sizeOf122 (tm rfl) (tm rfl) rfl rfl (.inr ⟨_, rfl⟩) ((Heap.objs_set_ne _ _ (by assumption)).trans (Heap.objs_set_same _ _ _)) (Nat.le_of_ble_eq_true rfl)) ?_
  try first | rw [Heap.set_set] | rw [Heap.set_under (by assumption)]
  refine .ng ?_
  refine AWP.dropb (Heap.fresh_set hb3 _) ?_
  refine AWP.frz (t := 2) rfl (hb2) ?_
  refine .ret ?_
  refine Ret.go (.cons (.cellI _ _ _ _ rfl Tryz.isAgg122 Tryz.sizeOf122 rfl) .nil) _ (Heap.le.refl _) ?_
  exact ⟨rfl, rfl⟩

def cutN (v : Nat) : Nat := (limbs v).length - 4
def lowB (v : Nat) (more : Bool) : Bool := more || decide (v % 2 ^ (32 * cutN v) ≠ 0)
theorem avJ {neg : Bool} {v : Nat} {e : Int} {more : Bool} (he : -10000 ≤ e ∧ e ≤ 2000) : roundN neg v e more = roundN neg (v / 2 ^ (32 * cutN v)) (e + 32 * (cutN v : Int)) (lowB v more) := by
 rcases Nat.eq_zero_or_pos (cutN v) with h | h
 ·unfold lowB
  rw [h]
  simp [Nat.mod_one]
 ·have hl : (limbs v).length = cutN v + 4 := by unfold cutN at *; omega
  have := avK (neg := neg) (n := v) (j := 32 * cutN v) (more := more) (amF hl).1 he.1 he.2
  rw [this]
  unfold lowB
  congr 1 <;> omega
theorem cut_lt (v : Nat) : v / 2 ^ (32 * cutN v) < M2 ∧ (limbs (v / 2 ^ (32 * cutN v))).length ≤ 4 := by
 rcases Nat.eq_zero_or_pos (cutN v) with h | h
 ·rw [h, Nat.mul_zero, Nat.pow_zero, Nat.div_one]
  have : (limbs v).length ≤ 4 := by unfold cutN at h; omega
  exact ⟨limbs4 this, this⟩
 ·have hl : (limbs v).length = cutN v + 4 := by unfold cutN at *; omega
  have := amF hl
  exact ⟨this.2.1, by omega⟩
theorem amC {more : Bool} {v c i x : Nat} (hx : x = (limbs v).getD i 0) : (more || decide (val ((limbs v).take i) ≠ 0) || decide (((0 : Nat) : Int) < (x : Int))) = (more || decide (val ((limbs v).take (i + 1)) ≠ 0)) := by
 rw [qA, ← hx, Bool.or_assoc]
 congr 1
 rw [← Bool.decide_or]
 refine decide_eq_decide.2 ?_
 have hp : 0 < 4294967296 ^ i := Nat.pow_pos (by decide)
 generalize 4294967296 ^ i = q at *
 generalize val ((limbs v).take i) = y
 rcases Nat.eq_zero_or_pos x with h | h
 ·subst h; simp
 ·have h2 : 0 < q * x := Nat.mul_pos hp h
  constructor
  ·intro _; omega
  ·intro _; exact .inr (by omega)
theorem atF {l : List Nat} {c i : Nat} (h : i < c) : (l.take c).getD i 0 = l.getD i 0 := by
 rw [List.getD_eq_getElem?_getD, List.getElem?_take, if_pos h, List.getD_eq_getElem?_getD]
theorem low_all {v : Nat} {more : Bool} : (more || decide (val ((limbs v).take (cutN v)) ≠ 0)) = lowB v more := by
 unfold lowB
 rw [low_mod (show cutN v ≤ (limbs v).length by unfold cutN; omega), ajW]

def round_J (neg more : Bool) (e : Int) (v : Nat) (H : Heap) : Nat → Env → Heap → Prop := fun k env H1 => ∃ i : Nat, i ≤ cutN v ∧ env = [(0, .bool neg), (1, bigA v), (2, .int .i64 e), (3, .bool (more || decide (val ((limbs v).take i) ≠ 0))), (8, .int .u64 ((0 : Nat) : Int)), (9, .int .i64 (((limbs v).length : Int) - 4)), (23, .slice 1 (U .u32 ((limbs v).take (cutN v))) .shared), (24, .int .i64 (((limbs v).take (cutN v)).length : Int)), (25, .int .i64 (i : Int))] ∧ H = H1 ∧ k = cutN v - i

def round_K (neg more : Bool) (e : Int) (v b : Nat) (H : Heap) : Nat → Env → Heap → Prop := fun k env H1 => ∃ i : Nat, i ≤ (limbs v).length ∧ env = [(0, .bool neg), (1, bigA v), (2, .int .i64 e), (3, .bool more), (12, .ptr (some ⟨b, 0, none⟩)), (45, .int .i64 ((limbs v).length : Int)), (46, .int .i64 (i : Int))] ∧ H1 = H.set b (.box 122 (u2 (topN v i)).cells) ∧ k = (limbs v).length - i

set_option maxRecDepth 100000 in
theorem ahM (neg : Bool) (xs : List Nat) (tl : Tail) (hx : Limbs xs) (hl : xs.length ≤ 1000) (e : Int) (he : -10000 ≤ e ∧ e ≤ 2000) (more : Bool) (H : Heap) : ACall Tryz.prog 159 [.bool neg, .slice 1 (U .u32 xs) tl, .int .i64 e, .bool more] H (fun y H' => y = .int .u64 ((roundN neg (val xs) e more : Nat) : Int) ∧ H' = H) := by
 have hr := avJ (neg := neg) (v := val xs) (e := e) (more := more) he
 have hcl := cut_lt (val xs)
 have hvl : (limbs (val xs)).length ≤ xs.length := by rw [← aaA hx]; exact qN xs
 have hcd : cutN (val xs) = (limbs (val xs)).length - 4 := rfl
 have hdr := aoV (cutN (val xs)) (val xs)
 rw [ajW] at hdr
 have hla := low_all (v := val xs) (more := more)
 have hT := acZ xs tl hx (by omega)
 generalize val xs = v0 at *
 refine ACall.of_body Tryz.func159 rfl Tryz.ntmps159 Tryz.results159 rfl ?_
 refine .sr (.p rfl (zA (zJ 0)) ?_)
 refine .nr ?_
 refine .mv rfl rfl (.cl rfl Tryz.call167 (evs1 rfl) (hT _) ?_)
 refine .as rfl rfl (.ng ?_)
 refine AWP.seqToL [(1, bigA (v0 / 2 ^ (32 * cutN v0))), (2, .int .i64 (e + 32 * (cutN v0 : Int))), (3, .bool (lowB v0 more))] [0, 8] ?_ ?_
 ·refine .sr (.mv rfl rfl (.p rfl (zW Tryz.underlying170 (tm rfl)) ?_))
  refine .p rfl (zX (tm rfl) zE (by omega)) ?_
  refine .as rfl rfl (.nr ?_)
  refine .mv rfl rfl (.p rfl (yB (tm rfl) zE) ?_)
  refine .ng ?_
  refine AWP.cond (tm rfl) (fun hc20 => ?_) (fun hc20 => ?_)
  ·try simp only [decide_eq_true_eq] at hc20
   refine .seq ?_
   refine .sr (.mv rfl rfl (.mv rfl rfl (.p rfl (abZ (cutN v0) Tryz.underlying170 Tryz.sizeOf112 (tm rfl) (tm rfl) (by omega) (by omega)) ?_)))
   refine .p rfl (zW Tryz.underlying170 (tm rfl)) ?_
   refine .p rfl (zD zE) ?_
   refine .ng ?_
   refine .block ?_
   refine AWP.loopW (round_J neg more e v0 H) (cutN v0) ⟨0, Nat.zero_le _, rfl, rfl, rfl⟩ (zB rfl (zB rfl (zB rfl (yH rfl (by simp [val]) (zB rfl (zB rfl (zB rfl (zB rfl (zB rfl zK))))))))) (Heap.le.refl _) ?_
   rintro _ _ _ ⟨i, hi, rfl, rfl, rfl⟩
   have htl : ((limbs v0).take (cutN v0)).length = cutN v0 := by rw [List.length_take]; omega
   have hgq : ((limbs v0).take (cutN v0)).getD i 0 < 18446744073709551616 := Nat.lt_trans (Limbs.getD ((zM v0).take _) i) (by decide)
   refine .sr (.p rfl (yA (tm rfl) (tm rfl)) ?_)
   refine .ng ?_
   refine .seq ?_
   refine AWP.cond (tm rfl) (fun hc26 => ?_) (fun hc26 => ?_)
   ·try simp only [decide_eq_true_eq] at hc26
    have hgt := atF (l := limbs v0) (c := cutN v0) (i := i) (by omega)
    refine .skip ?_
    refine Next.go ?_
    refine .seq ?_
    refine .block ?_
    refine .sr (.p rfl (yF (i) Tryz.underlying170 Tryz.sizeOf112 (tm rfl) (tm rfl) (by omega) (by omega)) ?_)
    refine .p rfl (zF Tryz.isAgg112 (tm rfl)) ?_
    refine .as rfl rfl (.ng ?_)
    refine .region ?_
    refine .mv rfl rfl (.mv rfl rfl ?_)
    refine zR (t := 30) rfl (fun hg30 => ?_) (fun hg30 => ?_)
    ·have hh30 := hg30; try simp only [ne_eq] at hh30
     refine .gn rfl rfl rfl (by assumption) ?_
     refine .gn rfl rfl rfl (by assumption) ?_
     refine .p rfl (zN (tm rfl) (by assumption) zI) ?_
     refine .as rfl rfl (.nil ?_)
     refine Block.go ?_
     refine Next.go ?_
     refine .region ?_
     refine .p rfl (zS (tm rfl) zE (by omega)) ?_
     refine .mv rfl rfl (.ng ?_)
     refine Round.mk (J := round_J neg more e v0 H) ⟨i + 1, by omega, rfl, rfl, rfl⟩ (zB rfl (zB rfl (zB rfl (yH rfl (by rw [← amC (c := 0) hgt, hg30]; rfl) (zB rfl (zB rfl (zB rfl (zB rfl (zB rfl zK))))))))) (Heap.le.refl _) (by omega)
    ·have hh30 := hg30; try simp only [ne_eq] at hh30
     refine .gp rfl rfl rfl (by assumption) (zD (tm rfl)) ?_
     refine .gp rfl rfl rfl (by assumption) (yB (tm rfl) (zJ 0)) ?_
     refine .p rfl (zL (tm rfl) (by assumption) (tm rfl)) ?_
     refine .as rfl rfl (.nil ?_)
     refine Block.go ?_
     refine Next.go ?_
     refine .region ?_
     refine .p rfl (zS (tm rfl) zE (by omega)) ?_
     refine .mv rfl rfl (.ng ?_)
     refine Round.mk (J := round_J neg more e v0 H) ⟨i + 1, by omega, rfl, rfl, rfl⟩ (zB rfl (zB rfl (zB rfl (yH rfl (by rw [← amC (c := 0) hgt, hg30]; rfl) (zB rfl (zB rfl (zB rfl (zB rfl (zB rfl zK))))))))) (Heap.le.refl _) (by omega)
   ·try simp only [decide_eq_false_iff_not, Int.not_lt] at hc26
    obtain rfl : i = cutN v0 := by omega
    refine .exit ?_
    refine Next.ex ?_
    refine Next.ex ?_
    refine Block.hit ?_
    refine Next.go ?_
    refine .seq ?_
    refine .sr (.mv rfl rfl (.p rfl (yA (tm rfl) zE) ?_))
    refine .ng ?_
    refine AWP.cond_true (tm rfl) (by exact decide_eq_true (by omega)) ?_
    refine .region ?_
    refine .mv rfl rfl (.mv rfl rfl (.p rfl (aqE zE (tm rfl) (by omega)) ?_))
    refine .p rfl (zS (tm rfl) (tm rfl) (by omega)) ?_
    refine .as rfl rfl (.ng ?_)
    refine .region ?_
    refine .mv rfl rfl (.mv rfl rfl (.p rfl (aeA (cutN v0) Tryz.underlying170 Tryz.sizeOf112 (tm rfl) (tm rfl) (by omega) (by omega)) ?_))
    refine .as rfl rfl (.nil ?_)
    exact ⟨rfl, (yH rfl (by (rw [hdr]; rfl)) (yH rfl (by (congr 1; omega)) (yH rfl (by (rw [← hla]; done)) (zB rfl (zB rfl zK))))), rfl⟩
  ·try simp only [decide_eq_false_iff_not, Int.not_lt] at hc20
   have hc0 : cutN v0 = 0 := by omega
   refine .skip ?_
   exact ⟨rfl, (yH rfl (by (rw [hc0, Nat.mul_zero, Nat.pow_zero, Nat.div_one]; done)) (yH rfl (by (congr 1; omega)) (yH rfl (by (rw [← hla, hc0]; simp [val])) (zB rfl (zB rfl zK))))), rfl⟩
 ·refine AWP.sub [(1, _), (2, _), (3, _), (0, _), (8, _)] (zB rfl (zB rfl (zB rfl (zB rfl (zB rfl zK))))) ?_
  have he2 : -10000 ≤ e + 32 * (cutN v0 : Int) ∧ e + 32 * (cutN v0 : Int) ≤ 100000 := by omega
  rw [hr]
  generalize e + 32 * (cutN v0 : Int) = e2 at he2 ⊢
  generalize lowB v0 more = more2
  obtain ⟨hv, hv4⟩ := hcl
  clear hla hdr hr
  generalize v0 / 2 ^ (32 * cutN v0) = v at hv hv4 ⊢
  refine .sr (.s rfl (zO Tryz.zeroValue122 (zr122)) ?_)
  rintro _ _ ⟨b12, hb12, rfl, hH⟩
  obtain rfl := hH.symm
  refine .ng ?_
  refine .seq ?_
  refine .sr (.mv rfl rfl (.p rfl (zW Tryz.underlying170 (tm rfl)) ?_))
  refine .p rfl (zD zE) ?_
  refine .ng ?_
  refine .block ?_
  rw [show ([.int .u64 0, .int .u64 0] : List AV) = (u2 (topN v 0)).cells by rw [afZ]; rfl]
  refine AWP.loopW (round_K neg more2 e2 v b12 H) ((limbs v).length) ⟨0, Nat.zero_le _, rfl, rfl, rfl⟩ (zB rfl (zB rfl (zB rfl (zB rfl (zB rfl (zB rfl (zB rfl zK))))))) (Heap.le.refl _) ?_
  rintro _ _ _ ⟨i, hi, rfl, rfl, rfl⟩
  refine .sr (.p rfl (yA (tm rfl) (tm rfl)) ?_)
  refine .ng ?_
  refine .seq ?_
  refine AWP.cond (tm rfl) (fun hc47 => ?_) (fun hc47 => ?_)
  ·try simp only [decide_eq_true_eq] at hc47
   have hlv : i < (limbs v).length := by omega
   have hgx := Limbs.getD (zM v) ((limbs v).length - 1 - i)
   have hlo : topN v i * 2 ^ 32 % M2 % M1 < 18446744073709551616 := abM _
   refine .skip ?_
   refine Next.go ?_
   refine .seq ?_
   refine .block ?_
   refine .sr (.mv rfl rfl (.as rfl rfl (.nr ?_)))
   refine .e rfl (yI Tryz.isAgg122 Tryz.sizeOf122 (tm rfl) (Heap.objs_set_same _ _ _) (Nat.le_of_ble_eq_true rfl)) ?_
   refine .cl rfl Tryz.call194 (.cons (tm rfl) (.cons zE .nil)) (acR (topN v i) 32 (by decide) 32 rfl _) ?_
   refine .e0 (zH Tryz.sizeOf122 (tm rfl) (tm rfl) rfl rfl (.inr ⟨_, rfl⟩) (Heap.objs_set_same _ _ _) (Nat.le_of_ble_eq_true rfl)) ?_
   try first | rw [Heap.set_set] | rw [Heap.set_under (by assumption)]
   refine .ng ?_
   refine AWP.draw [(0, true), (2, true), (3, true), (4, true), (5, true), (6, true), (7, true), (8, true), (9, true), (10, true), (1, false), (11, true), (12, true), (13, false)] rfl (by decide +kernel) ?_
   refine .p rfl rfl (zV Tryz.underlying122 rfl Tryz.sizeOf30 (tm rfl)) ?_
   refine .p rfl rfl (zD (tm rfl)) ?_
   refine .p rfl rfl (zD (tm rfl)) ?_
   refine .p rfl rfl (zW Tryz.underlying170 (tm rfl)) ?_
   refine .p rfl rfl (zX (tm rfl) zE (by omega)) ?_
   refine .p rfl rfl (zD (tm rfl)) ?_
   refine .p rfl rfl (zX (tm rfl) (tm rfl) (by omega)) ?_
   refine .p rfl rfl (yF ((limbs v).length - 1 - i) Tryz.underlying170 Tryz.sizeOf112 (tm rfl) (tm rfl) (by omega) (by omega)) ?_
   refine .p rfl rfl (zF Tryz.isAgg112 (tm rfl)) ?_
   refine .p rfl rfl (zY Tryz.underlying112 Tryz.underlying30 (tm rfl) (wrapN64 (by omega))) ?_
   refine .s rfl rfl (yO Tryz.isAgg30 (tm rfl) (Heap.objs_set_same _ _ _) rfl) ?_
   rintro _ _ ⟨rfl, hH⟩
   obtain rfl := hH.symm
   refine .p rfl rfl (qG (tm rfl) (tm rfl) (by assumption) (by omega)) ?_
   refine .p rfl rfl (zV Tryz.underlying122 rfl Tryz.sizeOf30 (tm rfl)) ?_
   refine .s0 rfl (zH Tryz.sizeOf30 (tm rfl) (tm rfl) rfl rfl (.inl rfl) (Heap.objs_set_same _ _ _) (Nat.le_of_ble_eq_true rfl)) ?_
   rintro _ _ ⟨rfl, hH⟩
   obtain rfl := hH.symm
   try first | rw [Heap.set_set] | rw [Heap.set_under (by assumption)]
   refine .nil ?_
   refine Block.go ?_
   refine Next.go ?_
   refine .region ?_
   refine .p rfl (zS (tm rfl) zE (by omega)) ?_
   refine .mv rfl rfl (.ng ?_)
   refine Round.mk (J := round_K neg more2 e2 v b12 H) ⟨i + 1, by omega, rfl, rfl, rfl⟩ (zB rfl (zB rfl (zB rfl (zB rfl (zB rfl (zB rfl (zB rfl zK))))))) (by rw [← akX hlv]; exact Heap.le.refl _) (by omega)
  ·try simp only [decide_eq_false_iff_not, Int.not_lt] at hc47
   obtain rfl : i = (limbs v).length := by omega
   rw [apQ, Nat.mod_eq_of_lt hv]
   refine .exit ?_
   refine Next.ex ?_
   refine Next.ex ?_
   refine Block.hit ?_
   refine Next.go ?_
   refine .sr (.mv rfl rfl (.e rfl (yI Tryz.isAgg122 Tryz.sizeOf122 (tm rfl) (Heap.objs_set_same _ _ _) (Nat.le_of_ble_eq_true rfl)) ?_))
   refine .mv rfl rfl (.mv rfl rfl (.cl rfl Tryz.call147 (.cons (tm rfl) (evs3 rfl rfl rfl)) (afB neg v hv e2 (by constructor <;> omega) more2 _) ?_))
   refine .as rfl rfl (.ng ?_)
   refine AWP.dropb (hb12) ?_
   refine .ret ?_
   refine Ret.go (.cons (.tmp _ _ rfl) .nil) _ (Heap.le.refl _) ?_
   refine ⟨?_, rfl⟩
   rfl
theorem zr124 : ∀ g, RelCells g [.int .u64 0, .int .u64 0, .int .i64 0, .bool false] (Value.cells (Go.Value.agg #[Go.Value.int Go.IntKind.u64 0, Go.Value.int Go.IntKind.u64 0, Go.Value.int Go.IntKind.i64 0, Go.Value.bool false])) := fun g => RelL.cells (.cons (.int _ _) (.cons (.int _ _) (.cons (.int _ _) (.cons (.bool _) .nil))))
theorem pl124 (fs : Array Field) (hfs : Tryz.prog.underlying 124 = some (.struct fs)) : ∀ (i : Nat) f p, fs[i]? = some f → [(0, 2), (2, 1), (3, 1)][i]? = some p → ∀ w, (sizeOf f.type).run Tryz.prog w = .ok p.2 w := by
 have e := (Option.some.inj (hfs.symm.trans Tryz.underlying124))
 cases e
 intro i f p hf hp w
 match i with
 | 0 => cases hf; cases hp; exact Tryz.sizeOf122 w
 | 1 => cases hf; cases hp; exact Tryz.sizeOf3 w
 | 2 => cases hf; cases hp; exact Tryz.sizeOf4 w
 | i + 3 => simp at hp

def six (w : Nat) : List Nat := [w % M1 % 2 ^ IntKind.u32.bits, w % M1 / 2 ^ 32 % 2 ^ IntKind.u32.bits, w / M1 % M1 % 2 ^ IntKind.u32.bits, w / M1 % M1 / 2 ^ 32 % 2 ^ IntKind.u32.bits, w / M2 % 2 ^ IntKind.u32.bits, w / M2 / 2 ^ 32 % 2 ^ IntKind.u32.bits]
theorem six_val {w : Nat} (h : w < M3) : val (six w) = w := by
 have h3 := aqX h
 unfold six val
 simp only [val, IntKind.bits]
 have e1 := Nat.div_add_mod w M1
 have e2 := Nat.div_add_mod (w / M1) M1
 rw [arB] at e2
 have ha := abM w
 generalize w % M1 = a at *
 generalize hb : w / M1 = b at *
 generalize w / M2 = c at *
 have hbm : b % M1 < M1 := abM b
 generalize b % M1 = d at *
 unfold M1 at *
 omega
theorem avG (w : Nat) : Limbs (six w) := by
 have k : ∀ x : Nat, x % 2 ^ IntKind.u32.bits < 4294967296 := fun x => Nat.mod_lt _ (by decide)
 exact Limbs.mk (k _) (Limbs.mk (k _) (Limbs.mk (k _) (Limbs.mk (k _) (Limbs.mk (k _) (Limbs.mk (k _) Limbs.nil)))))
theorem round6 (w : Nat) (h : w < M3) (e : Int) (he : -10000 ≤ e ∧ e ≤ 2000) (H : Heap) : ACall Tryz.prog 159 [.bool false, .slice 1 (U .u32 (six w)) .full, .int .i64 e, .bool false] H (fun y H' => y = .int .u64 ((roundN false w e false : Nat) : Int) ∧ H' = H) := by
 have q := ahM false (six w) .full (avG w) (by show 6 ≤ 1000; decide) e he false H
 rw [six_val h] at q; exact q
theorem roundB (n : Nat) (h : n < BIG) (e : Int) (he : -10000 ≤ e ∧ e ≤ 2000) (more : Bool) (H : Heap) : ACall Tryz.prog 159 [.bool false, bigA n, .int .i64 e, .bool more] H (fun y H' => y = .int .u64 ((roundN false n e more : Nat) : Int) ∧ H' = H) := by
 have q := ahM false (limbs n) .shared (zM n) (by have := qM h; omega) e he more H
 rw [zZ] at q; exact q

set_option maxRecDepth 100000 in
theorem aiQ (w : Nat) (hw : w < M3) (e : Int) (he : -10000 ≤ e ∧ e ≤ 2000) (H : Heap) : ACall Tryz.prog 153 [u3 w, .int .i64 e] H (fun y H' => y = .int .u64 ((roundN false w e false : Nat) : Int) ∧ H' = H) := by
 have hh := aqX hw
 have hm := abM (w / M1)
 have hl := abM w
 have q1 : w % M1 < 18446744073709551616 := hl
 have q2 : w / M1 % M1 < 18446744073709551616 := hm
 have q3 : w / M2 < 18446744073709551616 := hh
 refine ACall.of_body Tryz.func153 rfl Tryz.ntmps153 Tryz.results153 rfl ?_
 refine .sr (.e rfl (yL (tm rfl) (.inr ⟨_, rfl⟩)) ?_)
 refine .p rfl (zA (zJ 0)) ?_
 refine .nr ?_
 refine .p rfl (zG Tryz.underlying192 rfl Tryz.sizeOf30 (tm rfl)) ?_
 refine .p rfl (zF Tryz.isAgg30 (tm rfl)) ?_
 refine .p rfl (yN Tryz.underlying30 Tryz.underlying112 rfl (tm rfl)) ?_
 refine .p rfl (zG Tryz.underlying192 rfl Tryz.sizeOf30 (tm rfl)) ?_
 refine .p rfl (zF Tryz.isAgg30 (tm rfl)) ?_
 refine .p rfl (yJ (tm rfl) (zJ 32) (by assumption)) ?_
 refine .p rfl (yN Tryz.underlying30 Tryz.underlying112 rfl (tm rfl)) ?_
 refine .p rfl (zG Tryz.underlying192 rfl Tryz.sizeOf30 (tm rfl)) ?_
 refine .p rfl (zF Tryz.isAgg30 (tm rfl)) ?_
 refine .p rfl (yN Tryz.underlying30 Tryz.underlying112 rfl (tm rfl)) ?_
 refine .p rfl (zG Tryz.underlying192 rfl Tryz.sizeOf30 (tm rfl)) ?_
 refine .p rfl (zF Tryz.isAgg30 (tm rfl)) ?_
 refine .p rfl (yJ (tm rfl) (zJ 32) (by assumption)) ?_
 refine .p rfl (yN Tryz.underlying30 Tryz.underlying112 rfl (tm rfl)) ?_
 refine .p rfl (zG Tryz.underlying192 rfl Tryz.sizeOf30 (tm rfl)) ?_
 refine .p rfl (zF Tryz.isAgg30 (tm rfl)) ?_
 refine .p rfl (yN Tryz.underlying30 Tryz.underlying112 rfl (tm rfl)) ?_
 refine .p rfl (zG Tryz.underlying192 rfl Tryz.sizeOf30 (tm rfl)) ?_
 refine .p rfl (zF Tryz.isAgg30 (tm rfl)) ?_
 refine .p rfl (yJ (tm rfl) (zJ 32) (by assumption)) ?_
 refine .p rfl (yN Tryz.underlying30 Tryz.underlying112 rfl (tm rfl)) ?_
 refine .e rfl (apT Tryz.underlying170 Tryz.sizeOf112 Tryz.zeroValue112 rfl rfl rfl (.cons (tm rfl) (.inl rfl) (.cons (tm rfl) (.inl rfl) (.cons (tm rfl) (.inl rfl) (.cons (tm rfl) (.inl rfl) (.cons (tm rfl) (.inl rfl) (.cons (tm rfl) (.inl rfl) .nil)))))) (acJ ⟨rfl, rfl⟩ (acJ ⟨rfl, rfl⟩ (acJ ⟨rfl, rfl⟩ (acJ ⟨rfl, rfl⟩ (acJ ⟨rfl, rfl⟩ (acJ ⟨rfl, rfl⟩ rowq_n))))))) ?_
 refine .as rfl rfl (.nr ?_)
 refine .mv rfl rfl (.mv rfl rfl (.cl rfl Tryz.call159 (.cons zI (.cons (tm rfl) (.cons (tm rfl) (.cons zI .nil)))) (round6 w hw e he _) ?_))
 refine .as rfl rfl (.ng ?_)
 refine .ret ?_
 refine Ret.go (.cons (.tmp _ _ rfl) .nil) _ (Heap.le.refl _) ?_
 exact ⟨rfl, rfl⟩

theorem abA {j n : Nat} (hj : j ≤ 1500) (hn : n ≤ 3000) : 10 ^ j * 2 ^ n < BIG ∧ 10 ^ j < BIG ∧ 2 ^ n < BIG := by
 obtain ⟨K, hK, hB⟩ : ∃ K, K = 8192 ∧ BIG = 2 ^ K := ⟨32 * 256, rfl, ahQ _ rfl⟩
 have h10 : 10 ^ j ≤ 2 ^ (10 * j / 3 + 1) := by
  have h3 : ∀ q r : Nat, r < 3 → 10 ^ (3 * q + r) ≤ 2 ^ (10 * q + (10 * r / 3 + 1)) := by
   intro q r hr
   rw [Nat.pow_add, Nat.pow_add 2, Nat.pow_mul, Nat.pow_mul 2]
   refine Nat.mul_le_mul (Nat.pow_le_pow_left (by decide) q) ?_
   rcases (by omega : r = 0 ∨ r = 1 ∨ r = 2) with rfl | rfl | rfl <;> decide
  have := h3 (j / 3) (j % 3) (Nat.mod_lt _ (by decide))
  rw [show 3 * (j / 3) + j % 3 = j by omega] at this
  refine Nat.le_trans this (Nat.pow_le_pow_right (by decide) (by omega))
 have h4 : 10 ^ j * 2 ^ n ≤ 2 ^ (10 * j / 3 + 1 + n) := by rw [Nat.pow_add]; exact Nat.mul_le_mul_right _ h10
 rw [hB]
 refine ⟨Nat.lt_of_le_of_lt h4 (Nat.pow_lt_pow_right (by decide) ?_), Nat.lt_of_le_of_lt h10 (Nat.pow_lt_pow_right (by decide) ?_), Nat.pow_lt_pow_right (by decide) ?_⟩ <;> (clear h4 h10 hB; omega)
theorem akZ (j : Nat) : blen (10 ^ j) ≤ 10 * j / 3 + 2 := by
 rw [qI]
 have h3 : ∀ q r : Nat, r < 3 → 10 ^ (3 * q + r) < 2 ^ (10 * q + (10 * r / 3 + 2)) := by
  intro q r hr
  rw [Nat.pow_add, Nat.pow_add 2, Nat.pow_mul, Nat.pow_mul 2]
  refine Nat.mul_lt_mul_of_le_of_lt (Nat.pow_le_pow_left (by decide) q) ?_ (Nat.pow_pos (by decide))
  rcases (by omega : r = 0 ∨ r = 1 ∨ r = 2) with rfl | rfl | rfl <;> decide
 have := h3 (j / 3) (j % 3) (Nat.mod_lt _ (by decide))
 rw [show 3 * (j / 3) + j % 3 = j by omega] at this
 exact Nat.lt_of_lt_of_le this (Nat.pow_le_pow_right (by decide) (by omega))
theorem aqL : ∀ m : Nat, ¬ 5 ∣ 2 ^ m
 | 0 => by decide
 | m + 1 => fun h => by
  rw [Nat.pow_succ] at h
  have := aqL m
  omega
def powA4 (k : Int) : AV := .agg [.int .u64 ((powP k / M1 : Nat) : Int), .int .u64 ((powP k % M1 : Nat) : Int), .int .i64 (powE k), .bool (powA k)]

theorem pow10Z (j : Nat) (q : Int) (hq : q = (j : Int)) (hj : j ≤ 1500) (H : Heap) : ACall Tryz.prog 157 [.int .i64 10, .int .i64 q] H (fun y H' => y = .tuple [bigA (10 ^ j), .int .i64 0] ∧ H' = H) := by
 subst hq
 exact ahN 10 j (by decide) (by decide) (by omega) (abA (n := 0) hj (by decide)).2.1 H
theorem oneB (s : Nat) (q : Int) (hq : q = (s : Int)) (hs : s ≤ 3000) (H : Heap) : ACall Tryz.prog 161 [.slice 1 [.int .u32 1] .full, .int .i64 q] H (fun y H' => y = .tuple [bigA (2 ^ s), .int .i64 0] ∧ H' = H) := by
 subst hq
 have h := anH [1] .full (Limbs.mk (by decide) Limbs.nil) (by decide) s (by rw [show val [1] = 1 from rfl, Nat.one_mul]; exact (abA (j := 0) (by decide) hs).2.2) (by omega) H
 rw [show val [1] = 1 from rfl, Nat.one_mul] at h
 exact h
theorem aqF {k : Int} (h : k < 0) : powP k = 2 ^ (blen (10 ^ (-k).toNat) + 127) / 10 ^ (-k).toNat ∧ powE k = -((blen (10 ^ (-k).toNat) : Int) + 127) ∧ powA k = false := by
 refine ⟨?_, ?_, ?_⟩
 ·unfold powP; rw [if_pos h]
 ·unfold powE; rw [if_pos h]; omega
 ·unfold powA; rw [if_pos h]
theorem aiM {k : Int} (h : ¬ k < 0) (hb : blen (10 ^ k.toNat) ≤ 128) : powP k = 10 ^ k.toNat * 2 ^ (128 - blen (10 ^ k.toNat)) ∧ powE k = (blen (10 ^ k.toNat) : Int) - 128 ∧ powA k = true := by
 refine ⟨?_, ?_, ?_⟩
 ·unfold powP; rw [if_neg h, if_pos hb]
 ·unfold powE; rw [if_neg h]
 ·unfold powA; rw [if_neg h]; exact decide_eq_true (.inl hb)
theorem aqG {k : Int} (h : ¬ k < 0) (hb : ¬ blen (10 ^ k.toNat) ≤ 128) : powP k = 10 ^ k.toNat / 2 ^ (blen (10 ^ k.toNat) - 128) ∧ powE k = (blen (10 ^ k.toNat) : Int) - 128 ∧ powA k = decide (10 ^ k.toNat % 2 ^ (blen (10 ^ k.toNat) - 128) = 0) := by
 refine ⟨?_, ?_, ?_⟩
 ·unfold powP; rw [if_neg h, if_neg hb]
 ·unfold powE; rw [if_neg h]
 ·unfold powA; rw [if_neg h]; exact decide_eq_decide.2 ⟨fun q => q.resolve_left hb, .inr⟩
theorem ajX (k : Int) : powP k < M2 := by
 have e128 : M2 = 2 ^ 128 := by decide +kernel
 rw [e128]
 rcases Int.lt_or_le k 0 with h | h
 ·rw [(aqF h).1]
  have ht := anQ (-k).toNat
  have hlo := blen_lo ht
  have hb := anD ht
  rw [Nat.div_lt_iff_lt_mul ht]
  rcases Nat.lt_or_eq_of_le hlo with hl | hl
  ·have e : 2 ^ (blen (10 ^ (-k).toNat) + 127) = 2 ^ 128 * 2 ^ (blen (10 ^ (-k).toNat) - 1) := by rw [← Nat.pow_add]; congr 1; omega
   rw [e]
   exact Nat.mul_lt_mul_of_pos_left hl (Nat.pow_pos (by decide))
  ·-- a power of ten that is a power of two
   exfalso
   have hj : 0 < (-k).toNat := by omega
   have h5 : 10 ^ (-k).toNat = 2 ^ (-k).toNat * 5 ^ (-k).toNat := by rw [← Nat.mul_pow]
   have hodd : 5 ∣ 2 ^ (blen (10 ^ (-k).toNat) - 1) := by
    rw [hl, h5]
    exact Nat.dvd_trans (Nat.dvd_trans ⟨5 ^ ((-k).toNat - 1), by rw [← Nat.pow_succ', show ((-k).toNat - 1).succ = (-k).toNat by omega]⟩ (Nat.dvd_mul_left _ _)) (Nat.dvd_refl _)
   exact aqL _ hodd
 ·rcases Nat.lt_or_ge 128 (blen (10 ^ k.toNat)) with hl | hl
  ·rw [(aqG (by omega) (by omega)).1, Nat.div_lt_iff_lt_mul (Nat.pow_pos (by decide)), ← Nat.pow_add]
   refine Nat.lt_of_lt_of_le (akO _) (Nat.pow_le_pow_right (by decide) (by omega))
  ·rw [(aiM (by omega) hl).1]
   refine Nat.lt_of_lt_of_le (Nat.mul_lt_mul_of_pos_right (akO _) (Nat.pow_pos (by decide))) ?_
   rw [← Nat.pow_add]
   exact Nat.pow_le_pow_right (by decide) (by omega)

theorem shrZ (a s : Nat) (q : Int) (hq : q = (s : Int)) (h : a < BIG) (hs : s < 1000000000) (H : Heap) : ACall Tryz.prog 165 [bigA a, .int .i64 q] H (fun y H' => y = .tuple [bigA (a / 2 ^ s), .bool (decide (a % 2 ^ s ≠ 0)), .int .i64 0] ∧ H' = H) := by
 subst hq; exact shrB a s h hs H
theorem shlQ (a s : Nat) (q : Int) (hq : q = (s : Int)) (h : a * 2 ^ s < BIG) (hs : s < 1000000000) (H : Heap) : ACall Tryz.prog 161 [bigA a, .int .i64 q] H (fun y H' => y = .tuple [bigA (a * 2 ^ s), .int .i64 0] ∧ H' = H) := by
 subst hq; exact shlB a s h hs H
theorem powP_BIG (k : Int) : powP k < BIG := Nat.lt_trans (ajX k) (by
  obtain ⟨K, hK, hB⟩ : ∃ K, K = 8192 ∧ BIG = 2 ^ K := ⟨32 * 256, rfl, ahQ _ rfl⟩
  rw [hB, show M2 = 2 ^ 128 by decide +kernel]
  exact Nat.pow_lt_pow_right (by decide) (by omega))
theorem valueP (k : Int) (H : Heap) : ACall Tryz.prog 235 [bigA (powP k)] H (fun y H' => y = u2 (powP k) ∧ H' = H) := by
 have h := anM (powP k) (by have := qM (powP_BIG k); omega) H
 rw [Nat.mod_eq_of_lt (ajX k)] at h; exact h

set_option maxRecDepth 100000 in
theorem asW (k : Int) (hk : -400 ≤ k ∧ k ≤ 400) (H : Heap) : ACall Tryz.prog 199 [.int .i64 k] H (fun y H' => y = powA4 k ∧ H' = H) := by
 have hbl := akZ k.natAbs
 have hp0 := anQ k.natAbs
 have htB := (abA (j := k.natAbs) (n := 0) (by omega) (by decide)).2.1
 refine ACall.of_body Tryz.func199 rfl Tryz.ntmps199 Tryz.results199 rfl ?_
 refine .sr (.s rfl (zO Tryz.zeroValue124 (zr124)) ?_)
 rintro _ _ ⟨b2, hb2, rfl, hH⟩
 obtain rfl := hH.symm
 refine .nr ?_
 refine .mv rfl rfl (.mv rfl rfl (.p rfl (aaE (tm rfl) (by omega)) ?_))
 refine .p rfl (aaJ (tm rfl) (tm rfl)) ?_
 refine .cl rfl Tryz.call157 (.cons zE (evs1 rfl)) (pow10Z k.natAbs _ (by simp only [imax]; split <;> omega) (by omega) _) ?_
 refine .mv rfl rfl (.p rfl (zC (tm rfl) rfl) ?_)
 refine .p rfl (zC (tm rfl) rfl) ?_
 refine .as rfl rfl (.as rfl rfl (.ng ?_))
 refine .seq ?_
 refine .sr (.mv rfl rfl (.p rfl (yA (tm rfl) zE) ?_))
 refine .ng ?_
 refine AWP.cond (tm rfl) (fun hc23 => ?_) (fun hc23 => ?_)
 ·try simp only [decide_eq_true_eq] at hc23
  have hP := aqF (k := k) (by omega)
  rw [show (-k).toNat = k.natAbs by omega] at hP
  refine .sr (.mv rfl rfl (.cl rfl Tryz.call160 (evs1 rfl) (lenB _ htB _) ?_))
  refine .p rfl (zS (tm rfl) zE (by omega)) ?_
  refine .as rfl rfl (.nr ?_)
  refine .e rfl (adV Tryz.underlying170 Tryz.sizeOf112 Tryz.zeroValue112 rfl (zJ 1) (.inl rfl) ⟨rfl, rfl⟩) ?_
  refine .mv rfl rfl (.cl rfl Tryz.call161 (evs2 rfl rfl) (oneB (blen (10 ^ k.natAbs) + 127) _ (by omega) (by omega) _) ?_)
  refine .mv rfl rfl (.p rfl (zC (tm rfl) rfl) ?_)
  refine .p rfl (zC (tm rfl) rfl) ?_
  refine .as rfl rfl (.as rfl rfl (.nr ?_))
  refine .mv rfl rfl (.mv rfl rfl ?_)
  refine .cl rfl Tryz.call162 (evs2 rfl rfl) (afL _ _ (abA (j := 0) (by decide) (by omega)).2.2 hp0 htB _) ?_
  refine .mv rfl rfl (.p rfl (zC (tm rfl) rfl) ?_)
  refine .p rfl (zC (tm rfl) rfl) ?_
  refine .p rfl (zC (tm rfl) rfl) ?_
  refine .as rfl rfl (.as rfl rfl (.as rfl rfl (.ng ?_)))
  refine .seq ?_
  rw [← hP.1]
  refine .region ?_
  refine .mv rfl rfl (.cl rfl Tryz.call235 (evs1 rfl) (valueP k _) ?_)
  refine .mv rfl rfl (.p rfl (aaE (tm rfl) (by omega)) ?_)
  refine .p rfl (yD [(0, 2), (2, 1), (3, 1)] Tryz.underlying124 Tryz.zeroValue124 (zr124) rfl (pl124 _ Tryz.underlying124) (.cons (tm rfl) (.inr ⟨_, rfl⟩) (.cons (tm rfl) (.inl rfl) (.cons zI (.inl rfl) .nil))) rfl) ?_
  refine .e0 (zH Tryz.sizeOf124 (tm rfl) (tm rfl) rfl rfl (.inr ⟨_, rfl⟩) (Heap.objs_set_same _ _ _) (Nat.le_of_ble_eq_true rfl)) ?_
  try first | rw [Heap.set_set] | rw [Heap.set_under (by assumption)]
  refine .ng ?_
  refine AWP.frz (t := 2) rfl (hb2) ?_
  refine .ret ?_
  refine Next.rt ?_
  refine Ret.go (.cons (.cellI _ _ _ _ rfl Tryz.isAgg124 Tryz.sizeOf124 rfl) .nil) _ (Heap.le.refl _) ?_
  refine ⟨?_, rfl⟩
  unfold powA4
  rw [hP.2.1, hP.2.2]
  rfl
 ·try simp only [decide_eq_false_iff_not, Int.not_lt] at hc23
  have hkt : k.toNat = k.natAbs := by omega
  refine .skip ?_
  refine Next.go ?_
  refine .sr (.mv rfl rfl (.cl rfl Tryz.call160 (evs1 rfl) (lenB _ htB _) ?_))
  refine .p rfl (zX (tm rfl) zE (by omega)) ?_
  refine .as rfl rfl (.ng ?_)
  refine .seq ?_
  refine .sr (.mv rfl rfl (.p rfl (aaK (tm rfl) zE) ?_))
  refine .ng ?_
  refine AWP.cond (tm rfl) (fun hc49 => ?_) (fun hc49 => ?_)
  ·try simp only [decide_eq_true_eq] at hc49
   have hP := aiM (k := k) (by omega) (by rw [hkt]; omega)
   rw [hkt] at hP
   refine .sr (.mv rfl rfl (.mv rfl rfl (.p rfl (aaE (tm rfl) (by omega)) ?_)))
   refine .cl rfl Tryz.call161 (evs2 rfl rfl) (shlQ _ (128 - blen (10 ^ k.natAbs)) _ (by omega) (abA (by omega) (by omega)).1 (by omega) _) ?_
   refine .mv rfl rfl (.p rfl (zC (tm rfl) rfl) ?_)
   refine .p rfl (zC (tm rfl) rfl) ?_
   refine .as rfl rfl (.ng ?_)
   refine .seq ?_
   rw [← hP.1]
   refine .region ?_
   refine .mv rfl rfl (.cl rfl Tryz.call235 (evs1 rfl) (valueP k _) ?_)
   refine .mv rfl rfl ?_
   refine .p rfl (yD [(0, 2), (2, 1), (3, 1)] Tryz.underlying124 Tryz.zeroValue124 (zr124) rfl (pl124 _ Tryz.underlying124) (.cons (tm rfl) (.inr ⟨_, rfl⟩) (.cons (tm rfl) (.inl rfl) (.cons zI (.inl rfl) .nil))) rfl) ?_
   refine .e0 (zH Tryz.sizeOf124 (tm rfl) (tm rfl) rfl rfl (.inr ⟨_, rfl⟩) (Heap.objs_set_same _ _ _) (Nat.le_of_ble_eq_true rfl)) ?_
   try first | rw [Heap.set_set] | rw [Heap.set_under (by assumption)]
   refine .ng ?_
   refine AWP.frz (t := 2) rfl (hb2) ?_
   refine .ret ?_
   refine Next.rt ?_
   refine Ret.go (.cons (.cellI _ _ _ _ rfl Tryz.isAgg124 Tryz.sizeOf124 rfl) .nil) _ (Heap.le.refl _) ?_
   refine ⟨?_, rfl⟩
   unfold powA4
   rw [hP.2.1, hP.2.2]
   rfl
  ·try simp only [decide_eq_false_iff_not, Int.not_le] at hc49
   have hP := aqG (k := k) (by omega) (by rw [hkt]; omega)
   rw [hkt] at hP
   refine .skip ?_
   refine Next.go ?_
   refine .sr (.mv rfl rfl (.mv rfl rfl (.cl rfl Tryz.call165 (evs2 rfl rfl) (shrZ _ (blen (10 ^ k.natAbs) - 128) _ (by omega) htB (by omega) _) ?_)))
   refine .mv rfl rfl (.p rfl (zC (tm rfl) rfl) ?_)
   refine .p rfl (zC (tm rfl) rfl) ?_
   refine .p rfl (zC (tm rfl) rfl) ?_
   refine .as rfl rfl (.as rfl rfl (.as rfl rfl (.ng ?_)))
   refine .seq ?_
   rw [← hP.1]
   refine .region ?_
   refine .mv rfl rfl (.cl rfl Tryz.call235 (evs1 rfl) (valueP k _) ?_)
   refine .mv rfl rfl (.mv rfl rfl (.p rfl (qU (tm rfl)) ?_))
   refine .p rfl (yD [(0, 2), (2, 1), (3, 1)] Tryz.underlying124 Tryz.zeroValue124 (zr124) rfl (pl124 _ Tryz.underlying124) (.cons (tm rfl) (.inr ⟨_, rfl⟩) (.cons (tm rfl) (.inl rfl) (.cons (tm rfl) (.inl rfl) .nil))) rfl) ?_
   refine .e0 (zH Tryz.sizeOf124 (tm rfl) (tm rfl) rfl rfl (.inr ⟨_, rfl⟩) (Heap.objs_set_same _ _ _) (Nat.le_of_ble_eq_true rfl)) ?_
   try first | rw [Heap.set_set] | rw [Heap.set_under (by assumption)]
   refine .ng ?_
   refine AWP.frz (t := 2) rfl (hb2) ?_
   refine .ret ?_
   refine Ret.go (.cons (.cellI _ _ _ _ rfl Tryz.isAgg124 Tryz.sizeOf124 rfl) .nil) _ (Heap.le.refl _) ?_
   refine ⟨?_, rfl⟩
   unfold powA4
   rw [hP.2.1, hP.2.2]
   have e : (!decide (10 ^ k.natAbs % 2 ^ (blen (10 ^ k.natAbs) - 128) ≠ 0)) = decide (10 ^ k.natAbs % 2 ^ (blen (10 ^ k.natAbs) - 128) = 0) := by simp
   rw [← e]
   rfl
end Go.Proofs.YtfkeflcdadlmdaaGreatDoor
