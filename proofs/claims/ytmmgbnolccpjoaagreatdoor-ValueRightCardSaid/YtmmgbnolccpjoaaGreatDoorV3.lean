import Derived.Test.YtmmgbnolccpjoaaGreatDoorYd
import Derived.Test.YtmmgbnolccpjoaaGreatDoorQ3
import Derived.Test.YtmmgbnolccpjoaaGreatDoorSsk
import Derived.Test.YtmmgbnolccpjoaaGreatDoorV2
import Derived.Test.YtmmgbnolccpjoaaGreatDoorS5
namespace Go.Proofs.YtmmgbnolccpjoaaGreatDoor
open Go Go.RowKit

/-! ### short decimals -/
section
open Go Go.RowKit

theorem ajV {x : Nat} (h : 1 ≤ zY x ∧ zY x ≤ 2) : 4503599627370496 ≤ aaX x ∧ aaX x < 9007199254740992 ∧ yE (yS x) ≤ 53 := by
 have h0 : 0 < yS x := by
  unfold yS
  split
  ·rename_i q
   unfold zY at h q
   revert h q
   repeat' split
   all_goals omega
  ·rw [if_pos (by omega)]; omega
 have hl := abD x
 have hb : yE (yS x) ≤ 53 := yW.2 (Nat.lt_of_lt_of_eq hl (by decide))
 have h1 : 0 < yE (yS x) := aaT.2 (by rw [Nat.pow_zero]; exact h0)
 have h2 : yS x < 2 ^ yE (yS x) := yW.1 (Nat.le_refl _)
 have h3 : 2 ^ (yE (yS x) - 1) ≤ yS x := aaT.1 (by omega)
 unfold aaX
 refine ⟨?_, ?_, hb⟩
 ·have := Nat.mul_le_mul_right (2 ^ (53 - yE (yS x))) h3
  rw [← Nat.pow_add, show yE (yS x) - 1 + (53 - yE (yS x)) = 52 by omega] at this
  exact Nat.le_trans (by decide) this
 ·have := (Nat.mul_lt_mul_right (a := 2 ^ (53 - yE (yS x))) (Nat.pow_pos (by decide))).2 h2
  rw [← Nat.pow_add, show yE (yS x) + (53 - yE (yS x)) = 53 by omega] at this
  exact Nat.lt_of_lt_of_eq this (by decide)
theorem afF (x : Nat) (h : yE (yS x) ≤ 53) : -1128 ≤ agB x ∧ agB x ≤ 972 := by
 have := qY x
 unfold agB; omega
theorem u2_high {m : Nat} : u2 (m * 2 ^ 64) = .agg [.int .u64 (m : Int), .int .u64 0] := by
 unfold u2 w2
 rw [← adF, Nat.mul_div_cancel _ (by decide), Nat.mul_mod_left]; rfl
theorem high_lt {m : Nat} (h : m < 9007199254740992) : m * 2 ^ 64 < M2 := by
 have h2 : m * 2 ^ 64 ≤ 9007199254740991 * 2 ^ 64 := Nat.mul_le_mul_right _ (by omega)
 exact Nat.lt_of_le_of_lt h2 (by decide +kernel)
theorem with_or {neg : Bool} {x : Nat} : neg = true → x < 9223372036854775808 → (x ||| 9223372036854775808) = abF neg + x := by
 intro h hx; rw [avJ hx, h]; rfl
theorem sqrt_lt {x : Nat} (h : aaX x < 9007199254740992) : agG x < 170141183460469231731687303715884105728 ∧ (agH x = 73 ∨ agH x = 74) := by
 have hk : agH x = 73 ∨ agH x = 74 := by unfold agH; split <;> omega
 refine ⟨?_, hk⟩
 have h1 : 2 ^ agH x ≤ 2 ^ 74 := Nat.pow_le_pow_right (by decide) (by omega)
 have h2 : agG x ≤ 9007199254740991 * 2 ^ 74 := Nat.mul_le_mul (by omega) h1
 exact Nat.lt_of_le_of_lt h2 (by decide)
section
variable {P : Program} {env : Env} {H : Heap} {dst : Option Tmp} {ty : TypeId} {pos : String} {af : Array Edge} {gd : Option (Nat × Bool)}
def iandI (m q : Int) : Int := IntKind.i64.wrap ((BitVec.ofInt 64 m &&& BitVec.ofInt 64 q).toNat : Int)
theorem bfM (m : Int) : iandI m 1 = m % 2 := by
 unfold iandI
 rw [BitVec.toNat_and, BitVec.toNat_ofInt, BitVec.toNat_ofInt]
 have e : ((1 : Int) % ((2 ^ 64 : Nat) : Int)).toNat = 2 ^ 1 - 1 := by decide
 rw [e, Nat.and_two_pow_sub_one_eq_mod]
 rw [aeI (by simp [IntKind.min, IntKind.signed, IntKind.bits]; omega) (by simp [IntKind.max, IntKind.bits, IntKind.signed]; omega)]
 omega
theorem beE {T T' : TypeId} {x y : Operand} {m q : Int} (hx : Ev env x (.int .i64 m)) (hy : Ev env y (.int .i64 q)) : APure P ⟨dst, .binOp .and T x y T', ty, pos, af, gd⟩ env (.int .i64 (iandI m q)) :=
 yY hx hy fun _ => ⟨_, .int _ _, fun w => by simp [binOp, Op.intBits, iandI]; rfl⟩
theorem azU {T T' : TypeId} {x y : Operand} {m : Int} (hx : Ev env x (.int .i64 m)) (hy : Ev env y (.int .i64 1)) : APure P ⟨dst, .binOp .and T x y T', ty, pos, af, gd⟩ env (.int .i64 (m % 2)) := by
 rw [← bfM]; exact beE hx hy
end
theorem axP {n : Int} (h0 : n < 0) (h1 : -1000000 ≤ n) : IntKind.u64.wrap (0 - IntKind.u64.wrap n) = ((n.natAbs : Nat) : Int) := by
 simp only [IntKind.wrap, IntKind.bits, IntKind.signed]
 simp
 omega
theorem powS {a u L i p : Nat} (hp : p = azX a u L i) : azX a u L (i + 1) = if u / 2 ^ (L - 1 - i) % 2 = 1 then adH (adH p p) a else adH p p := by rw [hp]; rfl

set_option maxRecDepth 100000 in
theorem aeK (a : Nat) (ha : a < 18446744073709551616) (H : Heap) : ACall Tryz.prog 116 [.int .u64 (a : Int)] H (fun y H' => y = .bool (decide (zY a = 4)) ∧ H' = H) := by
 refine ACall.of_body Tryz.func116 rfl Tryz.ntmps116 Tryz.results116 rfl ?_
 iterate 8 refine AX ?_
 refine .cl rfl Tryz.call89 (evs1 rfl) (qC _ (by assumption) _) ?_
 iterate 5 refine AX ?_
 refine Ret.go (.cons (.tmp _ _ rfl) .nil) _ (Heap.le.refl _) ?_
 refine ⟨?_, rfl⟩
 exact congrArg AV.bool (decide_eq_decide.2 (by omega))

set_option maxRecDepth 100000 in
theorem aaZ (a : Nat) (ha : a < 18446744073709551616) (H : Heap) : ACall Tryz.prog 117 [.int .u64 (a : Int)] H (fun y H' => y = .bool (decide (zY a = 3)) ∧ H' = H) := by
 refine ACall.of_body Tryz.func117 rfl Tryz.ntmps117 Tryz.results117 rfl ?_
 iterate 8 refine AX ?_
 refine .cl rfl Tryz.call89 (evs1 rfl) (qC _ (by assumption) _) ?_
 iterate 5 refine AX ?_
 refine Ret.go (.cons (.tmp _ _ rfl) .nil) _ (Heap.le.refl _) ?_
 refine ⟨?_, rfl⟩
 exact congrArg AV.bool (decide_eq_decide.2 (by omega))

set_option maxRecDepth 100000 in
theorem abH (a : Nat) (ha : a < 18446744073709551616) (H : Heap) : ACall Tryz.prog 118 [.int .u64 (a : Int)] H (fun y H' => y = .bool (decide (zY a = 0)) ∧ H' = H) := by
 refine ACall.of_body Tryz.func118 rfl Tryz.ntmps118 Tryz.results118 rfl ?_
 iterate 8 refine AX ?_
 refine .cl rfl Tryz.call89 (evs1 rfl) (qC _ (by assumption) _) ?_
 iterate 5 refine AX ?_
 refine Ret.go (.cons (.tmp _ _ rfl) .nil) _ (Heap.le.refl _) ?_
 refine ⟨?_, rfl⟩
 exact congrArg AV.bool (decide_eq_decide.2 (by omega))

set_option maxRecDepth 100000 in
theorem akW (neg : Bool) (x : Nat) (hx : x < 9223372036854775808) (H : Heap) : ACall Tryz.prog 119 [.bool neg, .int .u64 (x : Int)] H (fun y H' => y = .int .u64 ((abF neg + x : Nat) : Int) ∧ H' = H) := by
 refine ACall.of_body Tryz.func119 rfl Tryz.ntmps119 Tryz.results119 rfl ?_
 iterate 2 refine AX ?_
 refine .p rfl (zD (zE 0)) ?_
 iterate 8 refine AX ?_
 refine AWP.cx rfl (fun hc5 => ?_) (fun hc5 => ?_)
 ·iterate 3 refine AX ?_
  refine .p rfl (qW (tm rfl) (zE 9223372036854775808) (by omega) (by omega)) ?_
  iterate 5 refine AX ?_
  refine Ret.go (.cons (.tmp _ _ rfl) .nil) _ (Heap.le.refl _) ?_
  refine ⟨?_, rfl⟩
  rw [← with_or hc5 hx]; rfl
 ·iterate 9 refine AX ?_
  refine Ret.go (.cons (.tmp _ _ rfl) .nil) _ (Heap.le.refl _) ?_
  refine ⟨?_, rfl⟩
  rw [show neg = false by simpa using hc5, show abF false + x = x from Nat.zero_add x]; rfl

set_option maxRecDepth 100000 in
theorem agR (a : Nat) (ha : a < 18446744073709551616) (hk : 1 ≤ zY a ∧ zY a ≤ 2) (H : Heap) : ACall Tryz.prog 120 [.int .u64 (a : Int)] H (fun y H' => y = .tuple [.int .u64 ((aaX a : Nat) : Int), .int .i64 (agB a)] ∧ H' = H) := by
 have hpa := qY a
 have hpm := abD a
 obtain ⟨hl1, hl2, hl3⟩ := ajV hk
 refine ACall.of_body Tryz.func120 rfl Tryz.ntmps120 Tryz.results120 rfl ?_
 iterate 2 refine AX ?_
 refine .p rfl (zD (zE 0)) ?_
 iterate 6 refine AX ?_
 refine .cl rfl Tryz.call181 (evs1 rfl) (aaV _ (by assumption) _) ?_
 iterate 12 refine AX ?_
 refine .cl rfl Tryz.call182 (evs1 rfl) (len64A _ (by omega) _) ?_
 refine .p rfl (.as (b := .int .i64 ((53 - yE (yS a) : Nat) : Int)) (by congr 1; omega) (adM zI (tm rfl) (by omega))) ?_
 iterate 7 refine AX ?_
 refine .p rfl (yV (tm rfl) (tm rfl) (by omega) (by show aaX a < 18446744073709551616; omega)) ?_
 iterate 8 refine AX ?_
 refine Ret.go (.cons (.tmp _ _ rfl) (.cons (.tmp _ _ rfl) .nil)) _ (Heap.le.refl _) ?_
 exact ⟨rfl, rfl⟩

set_option maxRecDepth 100000 in
theorem aeE (a b : Nat) (ha : a < 18446744073709551616) (hb : b < 18446744073709551616) (H : Heap) : ACall Tryz.prog 54 [.int .u64 (a : Int), .int .u64 (b : Int)] H (fun y H' => y = .int .u64 ((amA a b : Nat) : Int) ∧ H' = H) := by
 have hka := ahJ a
 have hkb := ahJ b
 refine ACall.of_body Tryz.func54 rfl Tryz.ntmps54 Tryz.results54 rfl ?_
 iterate 2 refine AX ?_
 refine .p rfl (zD (zE 0)) ?_
 iterate 5 refine AX ?_
 refine .p rfl (zW (tm rfl) (zE 63) (by assumption)) ?_
 refine AX ?_
 refine .p rfl (zW (tm rfl) (zE 63) (by assumption)) ?_
 iterate 6 refine AX ?_
 refine AWP.seqTo 18 (.bool (decide (acK a b))) [0, 1, 4, 5] ?_ ?_
 ·-- region 2
  iterate 2 refine AX ?_
  refine .cl rfl Tryz.call116 (evs1 rfl) (aeK _ (by assumption) _) ?_
  refine AX ?_
  refine zH (t := 21) rfl (fun hg21 => ?_) (fun hg21 => ?_)
  ·have hh21 := hg21; try simp only [decide_eq_true_eq] at hh21
   iterate 21 refine AX ?_
   exact ⟨rfl, zS rfl (by (refine Eq.symm ?_; unfold acK; first | exact decide_eq_true (by omega) | exact decide_eq_false (by omega) | exact decide_eq_decide.2 (by omega))) sX, rfl⟩
  ·have hh21 := hg21; try simp only [decide_eq_false_iff_not] at hh21
   refine AX ?_
   refine .gs rfl rfl rfl (by assumption) (zC Tryz.call116 (evs1 rfl) (aeK _ (by assumption) _)) ?_
   rintro _ _ ⟨rfl, hH⟩
   obtain rfl := hH.symm
   iterate 2 refine AX ?_
   refine zH (t := 25) rfl (fun hg25 => ?_) (fun hg25 => ?_)
   ·have hh25 := hg25; try simp only [decide_eq_true_eq] at hh25
    iterate 17 refine AX ?_
    exact ⟨rfl, zS rfl (by (refine Eq.symm ?_; unfold acK; first | exact decide_eq_true (by omega) | exact decide_eq_false (by omega) | exact decide_eq_decide.2 (by omega))) sX, rfl⟩
   ·have hh25 := hg25; try simp only [decide_eq_false_iff_not] at hh25
    refine AX ?_
    refine .gs rfl rfl rfl (by assumption) (zC Tryz.call117 (evs1 rfl) (aaZ _ (by assumption) _)) ?_
    rintro _ _ ⟨rfl, hH⟩
    obtain rfl := hH.symm
    refine AX ?_
    refine zH (t := 28) rfl (fun hg28 => ?_) (fun hg28 => ?_)
    ·have hh28 := hg28; try simp only [decide_eq_true_eq] at hh28
     refine AX ?_
     refine .gs rfl rfl rfl (by assumption) (zC Tryz.call117 (evs1 rfl) (aaZ _ (by assumption) _)) ?_
     rintro _ _ ⟨rfl, hH⟩
     obtain rfl := hH.symm
     iterate 3 refine AX ?_
     refine zH (t := 33) rfl (fun hg33 => ?_) (fun hg33 => ?_)
     ·have hh33 := hg33; try simp only [decide_eq_true_eq] at hh33
      iterate 9 refine AX ?_
      exact ⟨rfl, zS rfl (by (refine Eq.symm ?_; unfold acK; first | exact decide_eq_true (by omega) | exact decide_eq_false (by omega) | exact decide_eq_decide.2 (by omega))) sX, rfl⟩
     ·have hh33 := hg33; try simp only [decide_eq_false_iff_not] at hh33
      refine AX ?_
      refine .gs rfl rfl rfl (by assumption) (zC Tryz.call118 (evs1 rfl) (abH _ (by assumption) _)) ?_
      rintro _ _ ⟨rfl, hH⟩
      obtain rfl := hH.symm
      refine AX ?_
      refine zH (t := 36) rfl (fun hg36 => ?_) (fun hg36 => ?_)
      ·have hh36 := hg36; try simp only [decide_eq_true_eq] at hh36
       refine AX ?_
       refine .gs rfl rfl rfl (by assumption) (zC Tryz.call118 (evs1 rfl) (abH _ (by assumption) _)) ?_
       rintro _ _ ⟨rfl, hH⟩
       obtain rfl := hH.symm
       iterate 4 refine AX ?_
       exact ⟨rfl, zS rfl (by (refine Eq.symm ?_; unfold acK; first | exact decide_eq_true (by omega) | exact decide_eq_false (by omega) | exact decide_eq_decide.2 (by omega))) sX, rfl⟩
      ·have hh36 := hg36; try simp only [decide_eq_false_iff_not] at hh36
       iterate 6 refine AX ?_
       exact ⟨rfl, zS rfl (by (refine Eq.symm ?_; unfold acK; first | exact decide_eq_true (by omega) | exact decide_eq_false (by omega) | exact decide_eq_decide.2 (by omega))) sX, rfl⟩
    ·have hh28 := hg28; try simp only [decide_eq_false_iff_not] at hh28
     iterate 6 refine AX ?_
     refine .gs rfl rfl rfl (by rfl) (zC Tryz.call118 (evs1 rfl) (abH _ (by assumption) _)) ?_
     rintro _ _ ⟨rfl, hH⟩
     obtain rfl := hH.symm
     refine AX ?_
     refine zH (t := 36) rfl (fun hg36 => ?_) (fun hg36 => ?_)
     ·have hh36 := hg36; try simp only [decide_eq_true_eq] at hh36
      refine AX ?_
      refine .gs rfl rfl rfl (by assumption) (zC Tryz.call118 (evs1 rfl) (abH _ (by assumption) _)) ?_
      rintro _ _ ⟨rfl, hH⟩
      obtain rfl := hH.symm
      iterate 4 refine AX ?_
      exact ⟨rfl, zS rfl (by (refine Eq.symm ?_; unfold acK; first | exact decide_eq_true (by omega) | exact decide_eq_false (by omega) | exact decide_eq_decide.2 (by omega))) sX, rfl⟩
     ·have hh36 := hg36; try simp only [decide_eq_false_iff_not] at hh36
      iterate 6 refine AX ?_
      exact ⟨rfl, zS rfl (by (refine Eq.symm ?_; unfold acK; first | exact decide_eq_true (by omega) | exact decide_eq_false (by omega) | exact decide_eq_decide.2 (by omega))) sX, rfl⟩
 ·refine AWP.sub [(18, _), (0, _), (1, _), (4, _), (5, _)] sX ?_
  refine AWP.cx rfl (fun hc18 => ?_) (fun hc18 => ?_)
  ·iterate 2 refine AX ?_
   refine .p rfl (zD (zE 9221120237041090560)) ?_
   iterate 5 refine AX ?_
   refine Ret.go (.cons (.tmp _ _ rfl) .nil) _ (Heap.le.refl _) ?_
   refine ⟨?_, rfl⟩
   unfold amA
   rw [if_pos hc18]; rfl
  ·have hdn := hc18
   unfold acK at hc18
   refine AWP.seqTo 41 (.bool (decide (zY a = 3 ∨ zY b = 0))) [0, 1, 4, 5] ?_ ?_
   ·-- region 4
    iterate 2 refine AX ?_
    refine .cl rfl Tryz.call117 (evs1 rfl) (aaZ _ (by assumption) _) ?_
    refine AX ?_
    refine zH (t := 44) rfl (fun hg44 => ?_) (fun hg44 => ?_)
    ·have hh44 := hg44; try simp only [decide_eq_true_eq] at hh44
     iterate 5 refine AX ?_
     exact ⟨rfl, zS rfl (by (refine Eq.symm ?_; first | exact decide_eq_true (by omega) | exact decide_eq_false (by omega) | exact decide_eq_decide.2 (by omega))) sX, rfl⟩
    ·have hh44 := hg44; try simp only [decide_eq_false_iff_not] at hh44
     refine AX ?_
     refine .gs rfl rfl rfl (by assumption) (zC Tryz.call118 (evs1 rfl) (abH _ (by assumption) _)) ?_
     rintro _ _ ⟨rfl, hH⟩
     obtain rfl := hH.symm
     iterate 3 refine AX ?_
     exact ⟨rfl, zS rfl (by (refine Eq.symm ?_; first | exact decide_eq_true (by omega) | exact decide_eq_false (by omega) | exact decide_eq_decide.2 (by omega))) sX, rfl⟩
   ·refine AWP.sub [(41, _), (0, _), (1, _), (4, _), (5, _)] sX ?_
    refine AWP.cx rfl (fun hc41 => ?_) (fun hc41 => ?_)
    ·iterate 3 refine AX ?_
     refine .cl rfl Tryz.call119 (.cons (tm rfl) (.cons (zE 9218868437227405312) .nil)) (akW _ _ (by decide) _) ?_
     iterate 6 refine AX ?_
     refine Ret.go (.cons (.tmp _ _ rfl) .nil) _ (Heap.le.refl _) ?_
     refine ⟨?_, rfl⟩
     unfold amA
     rw [if_neg hdn, if_pos hc41]; rfl
    ·refine AWP.seqTo 50 (.bool (decide (zY a = 0 ∨ zY b = 3))) [0, 1, 4, 5] ?_ ?_
     ·-- region 6
      iterate 2 refine AX ?_
      refine .cl rfl Tryz.call118 (evs1 rfl) (abH _ (by assumption) _) ?_
      refine AX ?_
      refine zH (t := 53) rfl (fun hg53 => ?_) (fun hg53 => ?_)
      ·have hh53 := hg53; try simp only [decide_eq_true_eq] at hh53
       iterate 5 refine AX ?_
       exact ⟨rfl, zS rfl (by (refine Eq.symm ?_; first | exact decide_eq_true (by omega) | exact decide_eq_false (by omega) | exact decide_eq_decide.2 (by omega))) sX, rfl⟩
      ·have hh53 := hg53; try simp only [decide_eq_false_iff_not] at hh53
       refine AX ?_
       refine .gs rfl rfl rfl (by assumption) (zC Tryz.call117 (evs1 rfl) (aaZ _ (by assumption) _)) ?_
       rintro _ _ ⟨rfl, hH⟩
       obtain rfl := hH.symm
       iterate 3 refine AX ?_
       exact ⟨rfl, zS rfl (by (refine Eq.symm ?_; first | exact decide_eq_true (by omega) | exact decide_eq_false (by omega) | exact decide_eq_decide.2 (by omega))) sX, rfl⟩
     ·refine AWP.sub [(50, _), (0, _), (1, _), (4, _), (5, _)] sX ?_
      refine AWP.cx rfl (fun hc50 => ?_) (fun hc50 => ?_)
      ·iterate 3 refine AX ?_
       refine .cl rfl Tryz.call119 (.cons (tm rfl) (.cons (zE 0) .nil)) (akW _ _ (by decide) _) ?_
       iterate 6 refine AX ?_
       refine Ret.go (.cons (.tmp _ _ rfl) .nil) _ (Heap.le.refl _) ?_
       refine ⟨?_, rfl⟩
       unfold amA
       rw [if_neg hdn, if_neg hc41, if_pos hc50]; rfl
      ·obtain ⟨ha1, ha2, ha3⟩ := ajV (x := a) (by omega)
       obtain ⟨hb1, hb2, hb3⟩ := ajV (x := b) (by omega)
       have hea := afF a ha3
       have heb := afF b hb3
       have hhi := high_lt ha2
       have hql : aaX a * 2 ^ 64 / aaX b < M2 := Nat.lt_of_le_of_lt (Nat.div_le_self _ _) hhi
       iterate 6 refine AX ?_
       refine .cl rfl Tryz.call120 (evs1 rfl) (agR a ha (by omega) _) ?_
       iterate 10 refine AX ?_
       refine .cl rfl Tryz.call120 (evs1 rfl) (agR b hb (by omega) _) ?_
       iterate 10 refine AX ?_
       refine .p rfl (zL [(0, 1), (1, 1)] Tryz.underlying149 Tryz.zeroValue149 (zr149) rfl (pl149 _ Tryz.underlying149) (.cons (tm rfl) (.inl rfl) .nil) rfl) ?_
       refine AX ?_
       refine .cl rfl Tryz.call121 (evs2 rfl rfl) ((by have h := fun H => ayR (aaX a * 2 ^ 64) (aaX b) hhi (by omega) (by omega) H; rw [u2_high] at h; exact h _)) ?_
       iterate 4 refine AX ?_
       refine .s rfl (zG Tryz.zeroValue149 (zr149)) ?_
       rintro _ _ ⟨b10, hb10, rfl, hH⟩
       obtain rfl := hH.symm
       refine .e0 (zB Tryz.sizeOf149 (tm rfl) (tm rfl) rfl rfl (.inr ⟨_, rfl⟩) (Heap.objs_set_same _ _ _) (Nat.le_of_ble_eq_true rfl)) ?_
       try first | rw [Heap.set_set] | rw [Heap.set_under (by assumption)]
       iterate 4 refine AX ?_
       refine AWP.frz (t := 10) rfl (hb10) ?_
       iterate 9 refine AX ?_
       refine .p rfl (yQ (tm rfl) (zE 0)) (.cl rfl Tryz.call122 (.cons (tm rfl) (evs3 rfl rfl rfl)) (abM _ _ hql _ (by omega) _ _) ?_)
       iterate 4 refine AX ?_
       refine Ret.go (.cons (.tmp _ _ rfl) .nil) _ (Heap.le.refl _) ?_
       refine ⟨?_, rfl⟩
       unfold amA
       rw [if_neg hdn, if_neg hc41, if_neg hc50]
       rw [show decide (aaX a * 2 ^ 64 % aaX b ≠ 0) = decide (((0 : Nat) : Int) < ((aaX a * 2 ^ 64 % aaX b : Nat) : Int)) from decide_eq_decide.2 (by omega)]
       rfl

set_option maxRecDepth 100000 in
theorem amB (a : Nat) (ha : a < 18446744073709551616) (H : Heap) : ACall Tryz.prog 137 [.int .u64 (a : Int)] H (fun y H' => y = .int .u64 ((alT a : Nat) : Int) ∧ H' = H) := by
 have hka := ahJ a
 refine ACall.of_body Tryz.func137 rfl Tryz.ntmps137 Tryz.results137 rfl ?_
 iterate 2 refine AX ?_
 refine .p rfl (zD (zE 0)) ?_
 iterate 4 refine AX ?_
 refine AWP.seqTo 8 (.bool (decide (zY a = 4 ∨ 9223372036854775808 < a))) [0, 2] ?_ ?_
 ·-- region 1
  iterate 2 refine AX ?_
  refine .cl rfl Tryz.call116 (evs1 rfl) (aeK _ (by assumption) _) ?_
  refine AX ?_
  refine zH (t := 11) rfl (fun hg11 => ?_) (fun hg11 => ?_)
  ·have hh11 := hg11; try simp only [decide_eq_true_eq] at hh11
   iterate 5 refine AX ?_
   exact ⟨rfl, zS rfl (by (refine Eq.symm ?_; first | exact decide_eq_true (by omega) | exact decide_eq_false (by omega) | exact decide_eq_decide.2 (by omega))) sX, rfl⟩
  ·have hh11 := hg11; try simp only [decide_eq_false_iff_not] at hh11
   refine AX ?_
   refine .gp rfl rfl rfl (by assumption) (yQ (tm rfl) (zE 9223372036854775808)) ?_
   iterate 3 refine AX ?_
   exact ⟨rfl, zS rfl (by (refine Eq.symm ?_; first | exact decide_eq_true (by omega) | exact decide_eq_false (by omega) | exact decide_eq_decide.2 (by omega))) sX, rfl⟩
 ·refine AWP.sub [(8, _), (0, _), (2, _)] sX ?_
  refine AWP.cx rfl (fun hc8 => ?_) (fun hc8 => ?_)
  ·iterate 2 refine AX ?_
   refine .p rfl (zD (zE 9221120237041090560)) ?_
   iterate 5 refine AX ?_
   refine Ret.go (.cons (.tmp _ _ rfl) .nil) _ (Heap.le.refl _) ?_
   refine ⟨?_, rfl⟩
   unfold alT
   rw [if_pos hc8]; rfl
  ·refine AWP.seqTo 15 (.bool (decide (zY a = 0 ∨ zY a = 3))) [0, 2] ?_ ?_
   ·-- region 3
    iterate 2 refine AX ?_
    refine .cl rfl Tryz.call118 (evs1 rfl) (abH _ (by assumption) _) ?_
    refine AX ?_
    refine zH (t := 18) rfl (fun hg18 => ?_) (fun hg18 => ?_)
    ·have hh18 := hg18; try simp only [decide_eq_true_eq] at hh18
     iterate 5 refine AX ?_
     exact ⟨rfl, zS rfl (by (refine Eq.symm ?_; first | exact decide_eq_true (by omega) | exact decide_eq_false (by omega) | exact decide_eq_decide.2 (by omega))) sX, rfl⟩
    ·have hh18 := hg18; try simp only [decide_eq_false_iff_not] at hh18
     refine AX ?_
     refine .gs rfl rfl rfl (by assumption) (zC Tryz.call117 (evs1 rfl) (aaZ _ (by assumption) _)) ?_
     rintro _ _ ⟨rfl, hH⟩
     obtain rfl := hH.symm
     iterate 3 refine AX ?_
     exact ⟨rfl, zS rfl (by (refine Eq.symm ?_; first | exact decide_eq_true (by omega) | exact decide_eq_false (by omega) | exact decide_eq_decide.2 (by omega))) sX, rfl⟩
   ·refine AWP.sub [(15, _), (0, _), (2, _)] sX ?_
    refine AWP.cx rfl (fun hc15 => ?_) (fun hc15 => ?_)
    ·iterate 9 refine AX ?_
     refine Ret.go (.cons (.tmp _ _ rfl) .nil) _ (Heap.le.refl _) ?_
     refine ⟨?_, rfl⟩
     unfold alT
     rw [if_neg hc8, if_pos hc15]; rfl
    ·obtain ⟨ha1, ha2, ha3⟩ := ajV (x := a) (by omega)
     have hea := afF a ha3
     obtain ⟨hsm, hsk⟩ := sqrt_lt ha2
     have hsM : agG a < M2 := Nat.lt_trans hsm (by decide +kernel)
     have hr64 := (rootS_64 (n := agG a) (by rw [show (2 : Nat) ^ 128 = M2 by decide +kernel]; exact hsM))
     iterate 6 refine AX ?_
     refine .cl rfl Tryz.call120 (evs1 rfl) (agR a ha (by omega) _) ?_
     iterate 12 refine AX ?_
     refine AWP.seqToL [(5, .int .i64 ((agH a : Nat) : Int))] [2, 3, 4] ?_ ?_
     ·iterate 5 refine AX ?_
      refine .p rfl (azU (tm rfl) zI) ?_
      iterate 3 refine AX ?_
      refine AWP.cx rfl (fun hc32 => ?_) (fun hc32 => ?_)
      ·iterate 5 refine AX ?_
       exact ⟨rfl, (zZ rfl (by congr 1; unfold agH; split <;> omega) sX), rfl⟩
      ·refine AX ?_
       exact ⟨rfl, (zZ rfl (by congr 1; unfold agH; split <;> omega) sX), rfl⟩
     ·refine AWP.sub [(5, _), (2, _), (3, _), (4, _)] sX ?_
      iterate 3 refine AX ?_
      refine .p rfl (zL [(0, 1), (1, 1)] Tryz.underlying149 Tryz.zeroValue149 (zr149) rfl (pl149 _ Tryz.underlying149) (.cons (tm rfl) (.inl rfl) .nil) rfl) ?_
      refine AX ?_
      refine .cl rfl Tryz.call187 (evs2 rfl rfl) ((by have h := fun H => wShlU (aaX a) (agH a) (by omega) _ rfl H; rw [agX (show aaX a < M1 by unfold M1; omega)] at h; exact h _)) ?_
      rw [Nat.mod_eq_of_lt (show aaX a * 2 ^ agH a < M2 from hsM)]
      refine .cl rfl Tryz.call197 (evs1 rfl) (atW (agG a) hsM _) ?_
      iterate 8 refine AX ?_
      have hrl : acJ (agG a) 64 0 < M1 := by
       have h1 := hr64.1
       rcases Nat.lt_or_ge (acJ (agG a) 64 0) M1 with h | h
       ·exact h
       ·have h2 := Nat.mul_le_mul h h
        rw [← awO] at h2
        omega
      iterate 2 refine AX ?_
      refine .p rfl (zL [(0, 1), (1, 1)] Tryz.underlying149 Tryz.zeroValue149 (zr149) rfl (pl149 _ Tryz.underlying149) (.cons (tm rfl) (.inl rfl) .nil) rfl) ?_
      iterate 3 refine AX ?_
      refine .p rfl (.as (b := .int .i64 ((agB a - agH a) / 2)) (by congr 1; show Int.fdiv _ (2 ^ 1) = _; rw [shr_of]; rfl) (apI (tm rfl) zI (by decide))) ?_
      iterate 2 refine AX ?_
      refine .cl rfl Tryz.call122 (.cons yF (evs3 rfl rfl rfl)) ((by have h := fun H => abM false (acJ (agG a) 64 0) (Nat.lt_trans hrl (by decide +kernel)) ((agB a - agH a) / 2) (by omega) (!decide (acJ (agG a) 64 0 * acJ (agG a) 64 0 = agG a)) H; rw [agX hrl] at h; exact h _)) ?_
      iterate 4 refine AX ?_
      refine Ret.go (.cons (.tmp _ _ rfl) .nil) _ (Heap.le.refl _) ?_
      refine ⟨?_, rfl⟩
      unfold alT
      rw [if_neg hc8, if_neg hc15, decide_not]; rfl

def bfY (a u L : Nat) (n : Int) (H : Heap) : Nat → Env → Heap → Prop := fun k env H1 => ∃ i : Nat, i ≤ L ∧ env = [(0, .int .u64 (a : Int)), (1, .int .i64 n), (5, .int .u64 (u : Int)), (6, .int .u64 ((azX a u L i : Nat) : Int)), (17, .int .i64 (L : Int)), (18, .int .i64 (i : Int))] ∧ H = H1 ∧ k = L - i

set_option maxRecDepth 100000 in
theorem aoJ (a : Nat) (ha : a < 18446744073709551616) (n : Int) (hn : -1000000 ≤ n ∧ n ≤ 1000000) (H : Heap) : ACall Tryz.prog 136 [.int .u64 (a : Int), .int .i64 n] H (fun y H' => y = .int .u64 ((avU a n : Nat) : Int) ∧ H' = H) := by
 obtain ⟨u, hu⟩ : ∃ u, u = n.natAbs := ⟨_, rfl⟩
 have hu64 : u < 18446744073709551616 := by omega
 have hbl : yE u ≤ 64 := yW.2 (Nat.lt_of_lt_of_eq hu64 (by decide))
 refine ACall.of_body Tryz.func136 rfl Tryz.ntmps136 Tryz.results136 rfl ?_
 iterate 2 refine AX ?_
 refine .p rfl (zD (zE 0)) ?_
 iterate 6 refine AX ?_
 refine .cl rfl Tryz.call116 (evs1 rfl) (aeK _ (by assumption) _) ?_
 iterate 2 refine AX ?_
 refine AWP.cx rfl (fun hc9 => ?_) (fun hc9 => ?_)
 ·iterate 2 refine AX ?_
  refine .p rfl (zD (zE 9221120237041090560)) ?_
  iterate 4 refine AX ?_
  refine Ret.go (.cons (.tmp _ _ rfl) .nil) _ (Heap.le.refl _) ?_
  refine ⟨?_, rfl⟩
  unfold avU
  rw [if_pos (by simpa using hc9)]; rfl
 ·iterate 5 refine AX ?_
  refine .p rfl (afT Tryz.underlying3 Tryz.underlying22 (tm rfl)) ?_
  iterate 3 refine AX ?_
  refine AWP.seqToL [(5, .int .u64 ((u : Nat) : Int))] [0, 1, 4] ?_ ?_
  ·iterate 6 refine AX ?_
   refine AWP.cx rfl (fun hc13 => ?_) (fun hc13 => ?_)
   ·iterate 2 refine AX ?_
    refine .p rfl (alA (tm rfl)) ?_
    iterate 2 refine AX ?_
    exact ⟨rfl, (zZ rfl (by rw [hu]; congr 1; first | exact axP (by omega) hn.1 | (rw [wrap64 (n := n) (by omega) (by omega)]; omega)) sX), rfl⟩
   ·refine AX ?_
    exact ⟨rfl, (zZ rfl (by rw [hu]; congr 1; first | exact axP (by omega) hn.1 | (rw [wrap64 (n := n) (by omega) (by omega)]; omega)) sX), rfl⟩
  ·refine AWP.sub [(5, _), (0, _), (1, _), (4, _)] sX ?_
   iterate 2 refine AX ?_
   refine .p rfl (zD (zE 4607182418800017408)) ?_
   iterate 6 refine AX ?_
   refine .cl rfl Tryz.call182 (evs1 rfl) (len64A _ (by assumption) _) ?_
   iterate 4 refine AX ?_
   refine AWP.loopW (bfY a u (yE u) n H) (yE u) ⟨0, Nat.zero_le _, rfl, rfl, rfl⟩ sX (Heap.le.refl _) ?_
   rintro _ _ _ ⟨i, hi, rfl, rfl, hk⟩
   iterate 6 refine AX ?_
   refine AWP.cx rfl (fun hc19 => ?_) (fun hc19 => ?_)
   ·have hpl := avD a u (yE u) i
    have hml := ahL (azX a u (yE u) i) (azX a u (yE u) i)
    have hst := powS (a := a) (u := u) (L := yE u) (i := i) rfl
    have hil : i < yE u := by omega
    have hdl : u / 2 ^ (yE u - 1 - i) < 18446744073709551616 := Nat.lt_of_le_of_lt (Nat.div_le_self _ _) hu64
    iterate 14 refine AX ?_
    refine .cl rfl Tryz.call133 (evs2 rfl rfl) (aeD _ _ (by assumption) (by assumption) _) ?_
    iterate 7 refine AX ?_
    refine .cl rfl Tryz.call182 (evs1 rfl) (len64A _ (by assumption) _) ?_
    iterate 2 refine AX ?_
    refine .p rfl (.as (b := .int .i64 ((yE u - 1 - i : Nat) : Int)) (by congr 1; omega) (adM (tm rfl) (tm rfl) (by omega))) ?_
    refine AX ?_
    refine .p rfl (qQ (tm rfl) (zE 1) (by assumption) (by omega)) (.p rfl (qH (tm rfl) (zE 1)) ?_)
    iterate 2 refine AX ?_
    refine AWP.cx rfl (fun hc32 => ?_) (fun hc32 => ?_)
    ·rw [if_pos (by rw [← Nat.and_one_is_mod]; omega)] at hst
     iterate 3 refine AX ?_
     refine .cl rfl Tryz.call133 (evs2 rfl rfl) (aeD _ _ (by assumption) (by assumption) _) ?_
     iterate 9 refine AX ?_
     refine Round.mk (J := bfY a u (yE u) n H) ⟨i + 1, by omega, rfl, rfl, rfl⟩ (zP rfl (zP rfl (zP rfl (zZ rfl (by rw [hst]) sX)))) (Heap.le.refl _) (by omega)
    ·rw [if_neg (by rw [← Nat.and_one_is_mod]; omega)] at hst
     iterate 8 refine AX ?_
     refine Round.mk (J := bfY a u (yE u) n H) ⟨i + 1, by omega, rfl, rfl, rfl⟩ (zP rfl (zP rfl (zP rfl (zZ rfl (by rw [hst]) sX)))) (Heap.le.refl _) (by omega)
   ·obtain rfl : i = yE u := by omega
    have hpl := avD a u (yE u) (yE u)
    iterate 12 refine AX ?_
    refine AWP.cx rfl (fun hc38 => ?_) (fun hc38 => ?_)
    ·iterate 3 refine AX ?_
     refine .cl rfl Tryz.call54 (.cons (zE 4607182418800017408) (evs1 rfl)) (aeE _ _ (by decide) (by assumption) _) ?_
     iterate 5 refine AX ?_
     refine Ret.go (.cons (.tmp _ _ rfl) .nil) _ (Heap.le.refl _) ?_
     refine ⟨?_, rfl⟩
     unfold avU
     rw [if_neg (by simpa using hc9), if_pos (by omega), ← hu]; rfl
    ·iterate 9 refine AX ?_
     refine Ret.go (.cons (.tmp _ _ rfl) .nil) _ (Heap.le.refl _) ?_
     refine ⟨?_, rfl⟩
     unfold avU
     rw [if_neg (by simpa using hc9), if_neg (by omega), ← hu]; rfl

end
theorem zr208 : ∀ g, RelCells g [.bool false, .bool false, .bool false, .int .u64 0] (Value.cells (Go.Value.agg #[Go.Value.bool false, Go.Value.bool false, Go.Value.bool false, Go.Value.int Go.IntKind.u64 0])) := fun g => RelL.cells (.cons (.bool _) (.cons (.bool _) (.cons (.bool _) (.cons (.int _ _) .nil))))
theorem pl208 (fs : Array Field) (hfs : Tryz.prog.underlying 208 = some (.struct fs)) : ∀ (i : Nat) f p, fs[i]? = some f → [(0, 1), (1, 1), (2, 1), (3, 1)][i]? = some p → ∀ w, (sizeOf f.type).run Tryz.prog w = .ok p.2 w := by
 have e := (Option.some.inj (hfs.symm.trans Tryz.underlying208))
 cases e
 intro i f p hf hp w
 match i with
 | 0 => cases hf; cases hp; exact Tryz.sizeOf4 w
 | 1 => cases hf; cases hp; exact Tryz.sizeOf4 w
 | 2 => cases hf; cases hp; exact Tryz.sizeOf4 w
 | 3 => cases hf; cases hp; exact Tryz.sizeOf22 w
 | i + 4 => simp at hp

def spA (neg half rest : Bool) (n : Nat) : AV := .agg [.bool neg, .bool half, .bool rest, .int .u64 (n : Int)]
def ajC (a : Nat) : Bool := decide (yM a < 0 ∧ yS a / 2 ^ ((-yM a).toNat - 1) % 2 = 1)
def ajB (a : Nat) : Bool := decide (yM a < 0 ∧ yS a % 2 ^ ((-yM a).toNat - 1) ≠ 0)
def aiH (a : Nat) : Nat := if yM a < 0 then yS a / 2 ^ (-yM a).toNat else yS a
theorem of_big {a : Nat} (h : ¬ yM a < 0) : ajC a = false ∧ ajB a = false ∧ aiH a = yS a := ⟨decide_eq_false (by omega), decide_eq_false (by omega), if_neg h⟩
theorem of_small {a k : Nat} (h : yM a < 0) (hk : k = (-yM a).toNat - 1) : decide (((yS a / 2 ^ k &&& 1 : Nat) : Int) = ((1 : Nat) : Int)) = ajC a ∧ decide (yS a % 2 ^ k ≠ 0) = ajB a ∧ yS a / 2 ^ k / 2 ^ 1 = aiH a := by
 subst hk
 refine ⟨decide_eq_decide.2 ?_, decide_eq_decide.2 ?_, ?_⟩
 ·rw [Nat.and_one_is_mod]; omega
 ·constructor
  ·exact fun q => ⟨h, q⟩
  ·exact fun q => q.2
 ·unfold aiH
  rw [if_pos h, Nat.pow_one, bfQ (by omega)]
theorem of_up (a : Nat) : (ajC a || ajB a) = !(decide (0 ≤ yM a) || decide (yS a % 2 ^ (-yM a).toNat = 0)) := by
 unfold ajC ajB
 by_cases h : yM a < 0
 ·have q := bfP (m := yS a) (k := (-yM a).toNat) (by omega)
  rw [← Bool.decide_or, ← Bool.decide_or, ← decide_not]
  refine decide_eq_decide.2 ?_
  constructor
  ·rintro (q1 | q1)
   ·have := q.1 (.inl q1.2); omega
   ·have := q.1 (.inr q1.2); omega
  ·intro q1
   rcases q.2 (by omega) with q2 | q2
   ·exact .inl ⟨h, q2⟩
   ·exact .inr ⟨h, q2⟩
 ·rw [decide_eq_false (by omega), decide_eq_false (by omega), decide_eq_true (by omega)]; rfl
def toM (x : Nat) : Nat := if yM x < 0 then yS x / 2 ^ (-yM x).toNat else yS x * 2 ^ (yM x).toNat
theorem toN_big {x : Nat} (h : 3 ≤ zY x) : toN x = (0, 11) := if_pos h
theorem awU {x : Nat} (h : ¬ 3 ≤ zY x) : toN x = if 0 ≤ yM x ∧ 11 < yM x then (0, 6)
  else if ajD x = true then (if toM x ≤ 9223372036854775808 then (-(toM x : Int), 0) else (0, 6)) else (if toM x < 9223372036854775808 then ((toM x : Int), 0) else (0, 6)) := if_neg h
theorem shl_11 {m : Nat} {e : Int} (hm : m < 9007199254740992) (h : e ≤ 11) : m * 2 ^ e.toNat < 18446744073709551616 := by
 have h1 : 2 ^ e.toNat ≤ 2 ^ 11 := Nat.pow_le_pow_right (by decide) (by omega)
 have h2 : m * 2 ^ e.toNat ≤ 9007199254740991 * 2 ^ 11 := Nat.mul_le_mul (by omega) h1
 exact Nat.lt_of_le_of_lt h2 (by decide)
theorem ajS {n : Nat} (h : n ≤ 9223372036854775808) : IntKind.i64.wrap (IntKind.u64.wrap (0 - (n : Int))) = -(n : Int) := by
 simp only [IntKind.wrap, IntKind.bits, IntKind.signed]
 simp
 split <;> omega
theorem abs_63 (x : Nat) : absN x < 9223372036854775808 := by
 unfold absN nanN; split <;> omega
theorem beL {x : Nat} (h : 9223372036854775808 ≤ x) : alK x = -((absN x : Nat) : Int) := if_pos h
theorem beK {x : Nat} (h : ¬ 9223372036854775808 ≤ x) : alK x = (x : Int) := if_neg h

set_option maxRecDepth 100000 in
theorem alJ (a : Nat) (ha : a < 18446744073709551616) (H : Heap) : ACall Tryz.prog 172 [.int .u64 (a : Int)] H (fun y H' => y = .int .i64 (alK a) ∧ H' = H) := by
 have hab := abs_63 a
 have h63 : (2 : Nat) ^ 63 = 9223372036854775808 := by decide
 refine ACall.of_body Tryz.func172 rfl Tryz.ntmps172 Tryz.results172 rfl ?_
 iterate 9 refine AX ?_
 refine .p rfl (zW (tm rfl) (zE 63) (by assumption)) (.p rfl (qH (tm rfl) (zE 1)) ?_)
 iterate 2 refine AX ?_
 refine AWP.cx rfl (fun hc5 => ?_) (fun hc5 => ?_)
 ·iterate 3 refine AX ?_
  refine .cl rfl Tryz.call228 (evs1 rfl) (bbA _ (by assumption) _) ?_
  iterate 7 refine AX ?_
  refine Ret.go (.cons (.tmp _ _ rfl) .nil) _ (Heap.le.refl _) ?_
  refine ⟨?_, rfl⟩
  rw [h63] at hc5
  rw [beL (by omega)]; rfl
 ·iterate 5 refine AX ?_
  refine .p rfl (qP Tryz.underlying22 Tryz.underlying3 (tm rfl) (wrapI64 (by omega) (by rw [h63] at hc5; omega))) ?_
  iterate 4 refine AX ?_
  refine Ret.go (.cons (.tmp _ _ rfl) .nil) _ (Heap.le.refl _) ?_
  refine ⟨?_, rfl⟩
  rw [h63] at hc5
  rw [beK (by omega)]; rfl

set_option maxRecDepth 100000 in
theorem aoL (a b : Nat) (ha : a < 18446744073709551616) (hb : b < 18446744073709551616) (H : Heap) : ACall Tryz.prog 105 [.int .u64 (a : Int), .int .u64 (b : Int)] H (fun y H' => y = .tuple [.int .i64 (avV a b), .bool (!decide (zY a = 4 ∨ zY b = 4))] ∧ H' = H) := by
 refine ACall.of_body Tryz.func105 rfl Tryz.ntmps105 Tryz.results105 rfl ?_
 iterate 7 refine AX ?_
 refine AWP.seqTo 15 (.bool (decide (zY a = 4 ∨ zY b = 4))) [0, 1, 4, 5] ?_ ?_
 ·-- region 1
  iterate 2 refine AX ?_
  refine .cl rfl Tryz.call89 (evs1 rfl) (qC _ (by assumption) _) ?_
  iterate 2 refine AX ?_
  refine zH (t := 11) rfl (fun hg11 => ?_) (fun hg11 => ?_)
  ·have hh11 := hg11; try simp only [decide_eq_true_eq] at hh11
   iterate 5 refine AX ?_
   exact ⟨rfl, zS rfl (by (refine Eq.symm ?_; first | exact decide_eq_true (by omega) | exact decide_eq_false (by omega) | exact decide_eq_decide.2 (by omega))) sX, rfl⟩
  ·have hh11 := hg11; try simp only [decide_eq_false_iff_not] at hh11
   refine AX ?_
   refine .gs rfl rfl rfl (by assumption) (zC Tryz.call89 (evs1 rfl) (qC _ (by assumption) _)) ?_
   rintro _ _ ⟨rfl, hH⟩
   obtain rfl := hH.symm
   iterate 3 refine AX ?_
   exact ⟨rfl, zS rfl (by (refine Eq.symm ?_; first | exact decide_eq_true (by omega) | exact decide_eq_false (by omega) | exact decide_eq_decide.2 (by omega))) sX, rfl⟩
 ·refine AWP.sub [(15, _), (0, _), (1, _), (4, _), (5, _)] sX ?_
  refine AWP.cx rfl (fun hc15 => ?_) (fun hc15 => ?_)
  ·iterate 8 refine AX ?_
   refine Ret.go (.cons (.tmp _ _ rfl) (.cons (.tmp _ _ rfl) .nil)) _ (Heap.le.refl _) ?_
   refine ⟨?_, rfl⟩
   unfold avV
   first
   | (rw [if_pos hc15, decide_eq_true hc15]; rfl)
   | (rw [if_neg hc15, decide_eq_false hc15, if_pos hc20]; rfl)
   | (rw [if_neg hc15, decide_eq_false hc15, if_neg (by omega), if_pos (by omega)]; rfl)
   | (rw [if_neg hc15, decide_eq_false hc15, if_neg (by omega), if_neg (by omega)]; rfl)
  ·iterate 6 refine AX ?_
   refine .cl rfl Tryz.call172 (evs1 rfl) (alJ _ (by assumption) _) ?_
   refine AX ?_
   refine .cl rfl Tryz.call172 (evs1 rfl) (alJ _ (by assumption) _) ?_
   iterate 13 refine AX ?_
   refine AWP.cx rfl (fun hc20 => ?_) (fun hc20 => ?_)
   ·iterate 9 refine AX ?_
    refine Ret.go (.cons (.tmp _ _ rfl) (.cons (.tmp _ _ rfl) .nil)) _ (Heap.le.refl _) ?_
    refine ⟨?_, rfl⟩
    unfold avV
    first
    | (rw [if_pos hc15, decide_eq_true hc15]; rfl)
    | (rw [if_neg hc15, decide_eq_false hc15, if_pos hc20]; rfl)
    | (rw [if_neg hc15, decide_eq_false hc15, if_neg (by omega), if_pos (by omega)]; rfl)
    | (rw [if_neg hc15, decide_eq_false hc15, if_neg (by omega), if_neg (by omega)]; rfl)
   ·iterate 8 refine AX ?_
    refine AWP.cx rfl (fun hc24 => ?_) (fun hc24 => ?_)
    ·iterate 9 refine AX ?_
     refine Ret.go (.cons (.tmp _ _ rfl) (.cons (.tmp _ _ rfl) .nil)) _ (Heap.le.refl _) ?_
     refine ⟨?_, rfl⟩
     unfold avV
     first
     | (rw [if_pos hc15, decide_eq_true hc15]; rfl)
     | (rw [if_neg hc15, decide_eq_false hc15, if_pos hc20]; rfl)
     | (rw [if_neg hc15, decide_eq_false hc15, if_neg (by omega), if_pos (by omega)]; rfl)
     | (rw [if_neg hc15, decide_eq_false hc15, if_neg (by omega), if_neg (by omega)]; rfl)
    ·iterate 10 refine AX ?_
     refine Ret.go (.cons (.tmp _ _ rfl) (.cons (.tmp _ _ rfl) .nil)) _ (Heap.le.refl _) ?_
     refine ⟨?_, rfl⟩
     unfold avV
     first
     | (rw [if_pos hc15, decide_eq_true hc15]; rfl)
     | (rw [if_neg hc15, decide_eq_false hc15, if_pos hc20]; rfl)
     | (rw [if_neg hc15, decide_eq_false hc15, if_neg (by omega), if_pos (by omega)]; rfl)
     | (rw [if_neg hc15, decide_eq_false hc15, if_neg (by omega), if_neg (by omega)]; rfl)

set_option maxRecDepth 100000 in
theorem aeU (a : Nat) (ha : a < 18446744073709551616) (H : Heap) : ACall Tryz.prog 40 [.int .u64 (a : Int)] H (fun y H' => y = .int .i64 (alU a) ∧ H' = H) := by
 refine ACall.of_body Tryz.func40 rfl Tryz.ntmps40 Tryz.results40 rfl ?_
 iterate 8 refine AX ?_
 refine .cl rfl Tryz.call105 (.cons (tm rfl) (.cons (zE 0) .nil)) (aoL a 0 ha (by decide) _) ?_
 iterate 14 refine AX ?_
 refine Ret.go (.cons (.tmp _ _ rfl) .nil) _ (Heap.le.refl _) ?_
 exact ⟨rfl, rfl⟩

set_option maxRecDepth 100000 in
theorem asD (a : Nat) (ha : a < 18446744073709551616) (H : Heap) : ACall Tryz.prog 194 [.int .u64 (a : Int)] H (fun y H' => y = .tuple [spA (ajD a) (ajC a) (ajB a) (aiH a), .bool (decide (yM a < 0))] ∧ H' = H) := by
 have hpe := qY a
 have hpm := abD a
 refine ACall.of_body Tryz.func194 rfl Tryz.ntmps194 Tryz.results194 rfl ?_
 iterate 2 refine AX ?_
 refine .s rfl (zG Tryz.zeroValue208 (zr208)) ?_
 rintro _ _ ⟨b2, hb2, rfl, hH⟩
 obtain rfl := hH.symm
 iterate 6 refine AX ?_
 refine .cl rfl Tryz.call181 (evs1 rfl) (aaV a ha _) ?_
 iterate 16 refine AX ?_
 refine AWP.cx rfl (fun hc16 => ?_) (fun hc16 => ?_)
 ·iterate 4 refine AX ?_
  refine .p rfl (zL [(0, 1), (1, 1), (2, 1), (3, 1)] Tryz.underlying208 Tryz.zeroValue208 (zr208) rfl (pl208 _ Tryz.underlying208) (.cons (tm rfl) (.inl rfl) (.cons (tm rfl) (.inl rfl) .nil)) rfl) (.e0 (zB Tryz.sizeOf208 (tm rfl) (tm rfl) rfl rfl (.inr ⟨_, rfl⟩) (Heap.objs_set_same _ _ _) (Nat.le_of_ble_eq_true rfl)) ?_)
  try first | rw [Heap.set_set] | rw [Heap.set_under (by assumption)]
  iterate 3 refine AX ?_
  refine AWP.frz (t := 2) rfl (hb2) ?_
  iterate 2 refine AX ?_
  refine Ret.go (.cons (.cellI _ _ _ _ rfl Tryz.isAgg208 Tryz.sizeOf208 rfl) (.cons (.tmp _ _ rfl) .nil)) _ (Heap.le.refl _) ?_
  refine ⟨?_, rfl⟩
  obtain ⟨e1, e2, e3⟩ := of_big (a := a) (by omega)
  rw [e1, e2, e3, decide_eq_false (show ¬ yM a < 0 by omega)]; rfl
 ·iterate 5 refine AX ?_
  refine .p rfl (zL [(0, 1), (1, 1)] Tryz.underlying149 Tryz.zeroValue149 (zr149) rfl (pl149 _ Tryz.underlying149) (.cons (tm rfl) (.inl rfl) .nil) rfl) ?_
  iterate 3 refine AX ?_
  refine .cl rfl Tryz.call188 (evs2 rfl rfl) ((by have h := fun H => ahW (yS a) (Nat.lt_trans hpm (by decide +kernel)) ((-yM a).toNat - 1) (by omega) (-yM a - 1) (by omega) H; rw [agX (Nat.lt_trans hpm (by decide))] at h; exact h _)) ?_
  iterate 3 refine AX ?_
  refine .s rfl (zG Tryz.zeroValue149 (zr149)) ?_
  rintro _ _ ⟨b7, hb7, rfl, hH⟩
  obtain rfl := hH.symm
  have hn2_7 := Heap.ne_of (Heap.objs_set_same _ _ _) hb7
  refine .e0 (zB Tryz.sizeOf149 (tm rfl) (tm rfl) rfl rfl (.inr ⟨_, rfl⟩) (Heap.objs_set_same _ _ _) (Nat.le_of_ble_eq_true rfl)) ?_
  try first | rw [Heap.set_set] | rw [Heap.set_under (by assumption)]
  iterate 3 refine AX ?_
  refine AWP.frz (t := 7) rfl (hb7) ?_
  refine AX ?_
  have hnl : yS a / 2 ^ ((-yM a).toNat - 1) < M1 := Nat.lt_of_le_of_lt (Nat.div_le_self _ _) (Nat.lt_trans hpm (by decide))
  have hnl2 : yS a / 2 ^ ((-yM a).toNat - 1) < 18446744073709551616 := hnl
  obtain ⟨e1, e2, e3⟩ := of_small (a := a) (by omega) rfl
  rw [agX hnl]
  iterate 2 refine AX ?_
  refine .p rfl (zA Tryz.underlying149 rfl Tryz.sizeOf22 (tm rfl)) ?_
  refine AX ?_
  refine .p rfl (qQ (tm rfl) (zE 1) (by assumption) (by omega)) (.p rfl (qH (tm rfl) (zE 1)) ?_)
  refine AX ?_
  refine .p rfl (zA Tryz.underlying149 rfl Tryz.sizeOf22 (tm rfl)) ?_
  refine AX ?_
  refine .p rfl (zW (tm rfl) (zE 1) (by assumption)) ?_
  refine .p rfl (zL [(0, 1), (1, 1), (2, 1), (3, 1)] Tryz.underlying208 Tryz.zeroValue208 (zr208) rfl (pl208 _ Tryz.underlying208) (.cons (tm rfl) (.inl rfl) (.cons (tm rfl) (.inl rfl) (.cons (tm rfl) (.inl rfl) (.cons (tm rfl) (.inl rfl) .nil)))) rfl) ?_
  refine .e0 (zB Tryz.sizeOf208 (tm rfl) (tm rfl) rfl rfl (.inr ⟨_, rfl⟩) (Heap.objs_set_same _ _ _) (Nat.le_of_ble_eq_true rfl)) ?_
  try first | rw [Heap.set_set] | rw [Heap.set_under (by assumption)]
  iterate 3 refine AX ?_
  refine AWP.frz (t := 2) rfl (hb2) ?_
  refine AX ?_
  refine Ret.go (.cons (.cellI _ _ _ _ rfl Tryz.isAgg208 Tryz.sizeOf208 rfl) (.cons (.tmp _ _ rfl) .nil)) _ (Heap.le.refl _) ?_
  refine ⟨?_, rfl⟩
  rw [← e1, ← e2, ← e3, decide_eq_true (show yM a < 0 by omega)]; rfl

set_option maxRecDepth 100000 in
theorem azA (neg half rest : Bool) (n : Nat) (H : Heap) : ACall Tryz.prog 196 [spA neg half rest n] H (fun y H' => y = .bool (half || rest) ∧ H' = H) := by
 refine ACall.of_body Tryz.func196 rfl Tryz.ntmps196 Tryz.results196 rfl ?_
 iterate 2 refine AX ?_
 refine .e rfl (zO (tm rfl) (.inr ⟨_, rfl⟩)) ?_
 iterate 5 refine AX ?_
 refine .p rfl (zA Tryz.underlying208 rfl Tryz.sizeOf4 (tm rfl)) ?_
 iterate 2 refine AX ?_
 refine zH (t := 5) rfl (fun hg5 => ?_) (fun hg5 => ?_)
 ·iterate 7 refine AX ?_
  refine Ret.go (.cons (.tmp _ _ rfl) .nil) _ (Heap.le.refl _) ?_
  refine ⟨?_, rfl⟩
  rw [show half = _ from hg5]
  rfl
 ·refine .gp rfl rfl rfl (by assumption) (zA Tryz.underlying208 rfl Tryz.sizeOf4 (tm rfl)) ?_
  iterate 6 refine AX ?_
  refine Ret.go (.cons (.tmp _ _ rfl) .nil) _ (Heap.le.refl _) ?_
  refine ⟨?_, rfl⟩
  rw [show half = _ from hg5]
  rfl

set_option maxRecDepth 100000 in
theorem aoW (neg half rest : Bool) (n : Nat) (H : Heap) : ACall Tryz.prog 195 [spA neg half rest n, .int .i64 2] H (fun y H' => y = .int .u64 (n : Int) ∧ H' = H) := by
 refine ACall.of_body Tryz.func195 rfl Tryz.ntmps195 Tryz.results195 rfl ?_
 iterate 2 refine AX ?_
 refine .e rfl (zO (tm rfl) (.inr ⟨_, rfl⟩)) (.p rfl (zD (zE 0)) ?_)
 iterate 15 refine AX ?_
 refine AWP.cond_false (tm rfl) (by rfl) ?_
 iterate 6 refine AX ?_
 refine AWP.cond_false (tm rfl) (by rfl) ?_
 iterate 6 refine AX ?_
 refine AWP.cond_false (tm rfl) (by rfl) ?_
 iterate 6 refine AX ?_
 refine AWP.cond_false (tm rfl) (by rfl) ?_
 iterate 6 refine AX ?_
 refine AWP.cond_false (tm rfl) (by rfl) ?_
 iterate 5 refine AX ?_
 refine .p rfl (zA Tryz.underlying208 rfl Tryz.sizeOf22 (tm rfl)) ?_
 iterate 5 refine AX ?_
 refine Ret.go (.cons (.tmp _ _ rfl) .nil) _ (Heap.le.refl _) ?_
 exact ⟨rfl, rfl⟩

set_option maxRecDepth 100000 in
theorem asY (a : Nat) (ha : a < 18446744073709551616) (H : Heap) : ACall Tryz.prog 135 [.int .u64 (a : Int)] H (fun y H' => y = .bool (isN a) ∧ H' = H) := by
 refine ACall.of_body Tryz.func135 rfl Tryz.ntmps135 Tryz.results135 rfl ?_
 iterate 8 refine AX ?_
 refine .cl rfl Tryz.call194 (evs1 rfl) (asD a ha _) ?_
 iterate 3 refine AX ?_
 refine .s rfl (zG Tryz.zeroValue208 (zr208)) ?_
 rintro _ _ ⟨b3, hb3, rfl, hH⟩
 obtain rfl := hH.symm
 refine .e0 (zB Tryz.sizeOf208 (tm rfl) (tm rfl) rfl rfl (.inr ⟨_, rfl⟩) (Heap.objs_set_same _ _ _) (Nat.le_of_ble_eq_true rfl)) ?_
 try first | rw [Heap.set_set] | rw [Heap.set_under (by assumption)]
 iterate 3 refine AX ?_
 refine AWP.frz (t := 3) rfl (hb3) ?_
 iterate 3 refine AX ?_
 refine .cl rfl Tryz.call89 (evs1 rfl) (qC _ (by assumption) _) ?_
 iterate 2 refine AX ?_
 refine zH (t := 13) rfl (fun hg13 => ?_) (fun hg13 => ?_)
 ·have hh13 := hg13; try simp only [decide_eq_true_eq] at hh13
  refine AX ?_
  refine .gs rfl rfl rfl (by assumption) (zC Tryz.call196 (evs1 rfl) (azA _ _ _ _ _)) ?_
  rintro _ _ ⟨rfl, hH⟩
  obtain rfl := hH.symm
  rw [of_up]
  iterate 6 refine AX ?_
  refine Ret.go (.cons (.tmp _ _ rfl) .nil) _ (Heap.le.refl _) ?_
  refine ⟨?_, rfl⟩
  unfold isN
  rw [decide_eq_true (show zY a < 3 by omega), Bool.not_not]
  rfl
 ·have hh13 := hg13; try simp only [decide_eq_false_iff_not, Int.not_lt] at hh13
  iterate 8 refine AX ?_
  refine Ret.go (.cons (.tmp _ _ rfl) .nil) _ (Heap.le.refl _) ?_
  refine ⟨?_, rfl⟩
  unfold isN
  rw [decide_eq_false (show ¬ zY a < 3 by omega)]
  rfl

set_option maxRecDepth 100000 in
theorem asX (a : Nat) (ha : a < 18446744073709551616) (H : Heap) : ACall Tryz.prog 134 [.int .u64 (a : Int), .int .i64 2] H (fun y H' => y = .tuple [.int .i64 (toN a).1, .int .i64 (toN a).2] ∧ H' = H) := by
 have hpe := qY a
 have hpm := abD a
 have htl : toM a < 18446744073709551616 ∨ 11 < yM a := by
  rcases Int.lt_or_le 11 (yM a) with h | h
  ·exact .inr h
  ·left; unfold toM; split
   ·exact Nat.lt_of_le_of_lt (Nat.div_le_self _ _) (by omega)
   ·exact shl_11 hpm h
 refine ACall.of_body Tryz.func134 rfl Tryz.ntmps134 Tryz.results134 rfl ?_
 iterate 19 refine AX ?_
 refine AWP.cond_false (tm rfl) (by rfl) ?_
 iterate 3 refine AX ?_
 refine .cl rfl Tryz.call89 (evs1 rfl) (qC _ (by assumption) _) ?_
 iterate 4 refine AX ?_
 refine AWP.cx rfl (fun hc18 => ?_) (fun hc18 => ?_)
 ·iterate 9 refine AX ?_
  refine Ret.go (.cons (.tmp _ _ rfl) (.cons (.tmp _ _ rfl) .nil)) _ (Heap.le.refl _) ?_
  refine ⟨?_, rfl⟩
  rw [toN_big (by omega)]; rfl
 ·have h3 : ¬ 3 ≤ zY a := by omega
  iterate 6 refine AX ?_
  refine .cl rfl Tryz.call194 (evs1 rfl) (asD a ha _) ?_
  iterate 3 refine AX ?_
  refine .s rfl (zG Tryz.zeroValue208 (zr208)) ?_
  rintro _ _ ⟨b6, hb6, rfl, hH⟩
  obtain rfl := hH.symm
  refine .e0 (zB Tryz.sizeOf208 (tm rfl) (tm rfl) rfl rfl (.inr ⟨_, rfl⟩) (Heap.objs_set_same _ _ _) (Nat.le_of_ble_eq_true rfl)) ?_
  try first | rw [Heap.set_set] | rw [Heap.set_under (by assumption)]
  iterate 3 refine AX ?_
  refine AWP.meet (fun env H2 => (¬ (0 ≤ yM a ∧ 11 < yM a)) ∧ env = [(4, .int .i64 0), (5, .int .i64 0), (6, .ptr (some ⟨b6, 0, none⟩))] ∧ H2 = H.set b6 (.box 208 [.bool (ajD a), .bool (ajC a), .bool (ajB a), .int .u64 ((toM a : Nat) : Int)])) ?_ ?_
  ·iterate 5 refine AX ?_
   refine AWP.cx rfl (fun hc27 => ?_) (fun hc27 => ?_)
   ·have he0 : yM a < 0 := by simpa using hc27
    refine AX ?_
    refine .e rfl (zV Tryz.isAgg208 Tryz.sizeOf208 (tm rfl) (Heap.objs_set_same _ _ _) (Nat.le_of_ble_eq_true rfl)) ?_
    refine AX ?_
    refine .cl rfl Tryz.call195 (evs2 rfl rfl) (aoW _ _ _ _ _) (.p rfl (zJ Tryz.underlying208 rfl Tryz.sizeOf22 (tm rfl)) (.e0 (zB Tryz.sizeOf22 (tm rfl) (tm rfl) rfl rfl (.inl rfl) (Heap.objs_set_same _ _ _) (Nat.le_of_ble_eq_true rfl)) ?_))
    try first | rw [Heap.set_set] | rw [Heap.set_under (by assumption)]
    iterate 2 refine AX ?_
    refine Meets.mk (M := fun env H2 => (¬ (0 ≤ yM a ∧ 11 < yM a)) ∧ env = [(4, .int .i64 0), (5, .int .i64 0), (6, .ptr (some ⟨b6, 0, none⟩))] ∧ H2 = H.set b6 (.box 208 [.bool (ajD a), .bool (ajC a), .bool (ajB a), .int .u64 ((toM a : Nat) : Int)])) ⟨by omega, rfl, by rw [show toM a = aiH a by unfold toM aiH; rw [if_pos he0, if_pos he0]]; rfl⟩ sX (Heap.le.refl _)
   ·have he0 : ¬ yM a < 0 := by simpa using hc27
    iterate 3 refine AX ?_
    refine .cl rfl Tryz.call181 (evs1 rfl) (aaV a ha _) ?_
    iterate 16 refine AX ?_
    refine AWP.cx rfl (fun hc39 => ?_) (fun hc39 => ?_)
    ·iterate 6 refine AX ?_
     refine AWP.dropb (hb6) ?_
     iterate 3 refine AX ?_
     refine Ret.go (.cons (.tmp _ _ rfl) (.cons (.tmp _ _ rfl) .nil)) _ (Heap.le.refl _) ?_
     refine ⟨?_, rfl⟩
     rw [awU h3]
     first
     | (rw [if_pos (by omega)]; rfl)
     | (rw [if_neg (by omega), if_pos hc44.1, if_pos hc44.2, ← ajS hc44.2]; rfl)
     | (rw [if_neg (by omega), if_neg (by rw [hc56.1]; decide), if_pos hc56.2]; rfl)
     | (rw [if_neg (by omega)]; cases hnb : ajD a <;> first | (rw [if_neg (by decide), if_neg (by simp [hnb] at hc56; omega)]; rfl) | (rw [if_pos rfl, if_neg (by simp [hnb] at hc44; omega)]; rfl))
    ·have he11 := shl_11 (e := yM a) hpm (by omega)
     iterate 5 refine AX ?_
     refine .p rfl (.as (b := .int .u64 ((toM a : Nat) : Int)) (by congr 2; exact (if_neg he0).symm) (yV (q := (yM a).toNat) (tm rfl) (by rw [show (((yM a).toNat : Nat) : Int) = yM a by omega]; exact .tmp _ _ rfl) (by omega) he11)) ?_
     refine .p rfl (zJ Tryz.underlying208 rfl Tryz.sizeOf22 (tm rfl)) (.e0 (zB Tryz.sizeOf22 (tm rfl) (tm rfl) rfl rfl (.inl rfl) (Heap.objs_set_same _ _ _) (Nat.le_of_ble_eq_true rfl)) ?_)
     try first | rw [Heap.set_set] | rw [Heap.set_under (by assumption)]
     iterate 2 refine AX ?_
     refine Meets.mk (M := fun env H2 => (¬ (0 ≤ yM a ∧ 11 < yM a)) ∧ env = [(4, .int .i64 0), (5, .int .i64 0), (6, .ptr (some ⟨b6, 0, none⟩))] ∧ H2 = H.set b6 (.box 208 [.bool (ajD a), .bool (ajC a), .bool (ajB a), .int .u64 ((toM a : Nat) : Int)])) ⟨by omega, rfl, rfl⟩ sX (Heap.le.refl _)
  ·rintro _ _ ⟨hm11, rfl, rfl⟩
   have htl2 : toM a < 18446744073709551616 := by omega
   iterate 2 refine AX ?_
   refine AWP.seqTo 44 (.bool (ajD a && decide (toM a ≤ 9223372036854775808))) [4, 5, 6] ?_ ?_
   ·-- region 12
    refine AX ?_
    refine .p rfl (zJ Tryz.underlying208 rfl Tryz.sizeOf4 (tm rfl)) (.e rfl (zQ Tryz.isAgg4 (tm rfl) (Heap.objs_set_same _ _ _) rfl) ?_)
    refine AX ?_
    refine zH (t := 47) rfl (fun hg47 => ?_) (fun hg47 => ?_)
    ·have hh47 := hg47; try simp only [decide_eq_true_eq, decide_eq_false_iff_not, Bool.not_eq_true', Bool.not_eq_false', Int.not_lt, Int.not_le, ne_eq, Decidable.not_not] at hh47
     refine .gp rfl rfl rfl (by assumption) (zJ Tryz.underlying208 rfl Tryz.sizeOf22 (tm rfl)) (.gs rfl rfl rfl (by assumption) (zQ Tryz.isAgg22 (tm rfl) (Heap.objs_set_same _ _ _) rfl) ?_)
     rintro _ _ ⟨rfl, hH⟩
     obtain rfl := hH.symm
     refine .gp rfl rfl rfl (by assumption) (ajR (tm rfl) (zE 9223372036854775808)) ?_
     iterate 3 refine AX ?_
     exact ⟨rfl, zS rfl (by (rw [show ajD a = _ from hg47, Bool.true_and]; exact decide_eq_decide.2 (by omega))) sX, rfl⟩
    ·have hh47 := hg47; try simp only [decide_eq_true_eq, decide_eq_false_iff_not, Bool.not_eq_true', Bool.not_eq_false', Int.not_lt, Int.not_le, ne_eq, Decidable.not_not] at hh47
     iterate 6 refine AX ?_
     exact ⟨rfl, zS rfl (by (rw [show ajD a = _ from hg47, Bool.false_and])) sX, rfl⟩
   ·refine AWP.sub [(44, _), (4, _), (5, _), (6, _)] sX ?_
    refine AWP.cx rfl (fun hc44 => ?_) (fun hc44 => ?_)
    ·simp only [Bool.and_eq_true, decide_eq_true_eq] at hc44
     iterate 2 refine AX ?_
     refine .p rfl (zJ Tryz.underlying208 rfl Tryz.sizeOf22 (tm rfl)) (.e rfl (zQ Tryz.isAgg22 (tm rfl) (Heap.objs_set_same _ _ _) rfl) (.p rfl (alA (tm rfl)) (.p rfl (afT Tryz.underlying22 Tryz.underlying3 (tm rfl)) ?_)))
     iterate 4 refine AX ?_
     refine AWP.dropb (hb6) ?_
     iterate 3 refine AX ?_
     refine Ret.go (.cons (.tmp _ _ rfl) (.cons (.tmp _ _ rfl) .nil)) _ (Heap.le.refl _) ?_
     refine ⟨?_, rfl⟩
     rw [awU h3]
     first
     | (rw [if_pos (by omega)]; rfl)
     | (rw [if_neg (by omega), if_pos hc44.1, if_pos hc44.2, ← ajS hc44.2]; rfl)
     | (rw [if_neg (by omega), if_neg (by rw [hc56.1]; decide), if_pos hc56.2]; rfl)
     | (rw [if_neg (by omega)]; cases hnb : ajD a <;> first | (rw [if_neg (by decide), if_neg (by simp [hnb] at hc56; omega)]; rfl) | (rw [if_pos rfl, if_neg (by simp [hnb] at hc44; omega)]; rfl))
    ·simp only [Bool.and_eq_false_iff, decide_eq_false_iff_not] at hc44
     refine AWP.seqTo 56 (.bool (!ajD a && decide (toM a < 9223372036854775808))) [4, 5, 6] ?_ ?_
     ·-- region 14
      refine AX ?_
      refine .p rfl (zJ Tryz.underlying208 rfl Tryz.sizeOf4 (tm rfl)) (.e rfl (zQ Tryz.isAgg4 (tm rfl) (Heap.objs_set_same _ _ _) rfl) ?_)
      iterate 2 refine AX ?_
      refine zH (t := 60) rfl (fun hg60 => ?_) (fun hg60 => ?_)
      ·have hh60 := hg60; try simp only [Bool.not_eq_true'] at hh60
       refine .gp rfl rfl rfl (by assumption) (zJ Tryz.underlying208 rfl Tryz.sizeOf22 (tm rfl)) (.gs rfl rfl rfl (by assumption) (zQ Tryz.isAgg22 (tm rfl) (Heap.objs_set_same _ _ _) rfl) ?_)
       rintro _ _ ⟨rfl, hH⟩
       obtain rfl := hH.symm
       refine .gp rfl rfl rfl (by assumption) (adN (tm rfl) (zE 9223372036854775808)) ?_
       iterate 3 refine AX ?_
       exact ⟨rfl, zS rfl (by (rw [show (!ajD a) = _ from hg60, Bool.true_and]; exact decide_eq_decide.2 (by omega))) sX, rfl⟩
      ·have hh60 := hg60; try simp only [Bool.not_eq_false'] at hh60
       iterate 6 refine AX ?_
       exact ⟨rfl, zS rfl (by (rw [show (!ajD a) = _ from hg60, Bool.false_and])) sX, rfl⟩
     ·refine AWP.sub [(56, _), (4, _), (5, _), (6, _)] sX ?_
      refine AWP.cx rfl (fun hc56 => ?_) (fun hc56 => ?_)
      ·simp only [Bool.and_eq_true, Bool.not_eq_true', decide_eq_true_eq] at hc56
       iterate 2 refine AX ?_
       refine .p rfl (zJ Tryz.underlying208 rfl Tryz.sizeOf22 (tm rfl)) (.e rfl (zQ Tryz.isAgg22 (tm rfl) (Heap.objs_set_same _ _ _) rfl) ?_)
       iterate 5 refine AX ?_
       refine AWP.dropb (hb6) ?_
       iterate 3 refine AX ?_
       refine Ret.go (.cons (.tmp _ _ rfl) (.cons (.tmp _ _ rfl) .nil)) _ (Heap.le.refl _) ?_
       refine ⟨?_, rfl⟩
       rw [awU h3]
       first
       | (rw [if_pos (by omega)]; rfl)
       | (rw [if_neg (by omega), if_pos hc44.1, if_pos hc44.2, ← ajS hc44.2]; rfl)
       | (rw [if_neg (by omega), if_neg (by rw [hc56.1]; decide), if_pos hc56.2]; rfl)
       | (rw [if_neg (by omega)]; cases hnb : ajD a <;> first | (rw [if_neg (by decide), if_neg (by simp [hnb] at hc56; omega)]; rfl) | (rw [if_pos rfl, if_neg (by simp [hnb] at hc44; omega)]; rfl))
      ·simp only [Bool.and_eq_false_iff, Bool.not_eq_false', decide_eq_false_iff_not] at hc56
       iterate 9 refine AX ?_
       refine AWP.dropb (hb6) ?_
       refine AX ?_
       refine Ret.go (.cons (.tmp _ _ rfl) (.cons (.tmp _ _ rfl) .nil)) _ (Heap.le.refl _) ?_
       refine ⟨?_, rfl⟩
       rw [awU h3]
       first
       | (rw [if_pos (by omega)]; rfl)
       | (rw [if_neg (by omega), if_pos hc44.1, if_pos hc44.2, ← ajS hc44.2]; rfl)
       | (rw [if_neg (by omega), if_neg (by rw [hc56.1]; decide), if_pos hc56.2]; rfl)
       | (rw [if_neg (by omega)]; cases hnb : ajD a <;> first | (rw [if_neg (by decide), if_neg (by simp [hnb] at hc56; omega)]; rfl) | (rw [if_pos rfl, if_neg (by simp [hnb] at hc44; omega)]; rfl))
end Go.Proofs.YtmmgbnolccpjoaaGreatDoor
