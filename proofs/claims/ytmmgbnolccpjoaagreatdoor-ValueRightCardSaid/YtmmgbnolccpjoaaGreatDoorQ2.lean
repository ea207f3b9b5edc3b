import Derived.Test.YtmmgbnolccpjoaaGreatDoorYd
import Derived.Test.YtmmgbnolccpjoaaGreatDoorSsk
import Derived.Test.YtmmgbnolccpjoaaGreatDoorP2
import Derived.Test.YtmmgbnolccpjoaaGreatDoorS6
import Derived.Test.YtmmgbnolccpjoaaGreatDoorQ1
import Derived.Test.YtmmgbnolccpjoaaGreatDoorD1
namespace Go.Proofs.YtmmgbnolccpjoaaGreatDoor
open Go Go.RowKit
section

theorem zr251 : ∀ g, RelCells g [.int .i64 0, .int .i64 0, .int .i64 0, .int .i64 0] (Value.cells (Go.Value.agg #[Go.Value.int Go.IntKind.i64 0, Go.Value.int Go.IntKind.i64 0, Go.Value.int Go.IntKind.i64 0, Go.Value.int Go.IntKind.i64 0])) := fun g => RelL.cells (.cons (.int _ _) (.cons (.int _ _) (.cons (.int _ _) (.cons (.int _ _) .nil))))
theorem zr252 : ∀ g, RelCells g [.int .i64 0, .int .i64 0, .int .i64 0, .int .i64 0, .int .i64 0, .int .i64 0, .int .i64 0, .int .i64 0, .int .i64 0, .int .i64 0, .int .i64 0, .int .i64 0, .int .i64 0, .int .i64 0, .int .i64 0, .int .i64 0] (Value.cells (Go.Value.agg #[Go.Value.int Go.IntKind.i64 0, Go.Value.int Go.IntKind.i64 0, Go.Value.int Go.IntKind.i64 0, Go.Value.int Go.IntKind.i64 0, Go.Value.int Go.IntKind.i64 0, Go.Value.int Go.IntKind.i64 0, Go.Value.int Go.IntKind.i64 0, Go.Value.int Go.IntKind.i64 0, Go.Value.int Go.IntKind.i64 0, Go.Value.int Go.IntKind.i64 0, Go.Value.int Go.IntKind.i64 0, Go.Value.int Go.IntKind.i64 0, Go.Value.int Go.IntKind.i64 0, Go.Value.int Go.IntKind.i64 0, Go.Value.int Go.IntKind.i64 0, Go.Value.int Go.IntKind.i64 0])) := fun g => RelL.cells (.cons (.int _ _) (.cons (.int _ _) (.cons (.int _ _) (.cons (.int _ _) (.cons (.int _ _) (.cons (.int _ _) (.cons (.int _ _) (.cons (.int _ _) (.cons (.int _ _) (.cons (.int _ _) (.cons (.int _ _) (.cons (.int _ _) (.cons (.int _ _) (.cons (.int _ _) (.cons (.int _ _) (.cons (.int _ _) .nil))))))))))))))))
theorem zr291 : ∀ g, RelCells g [.int .i64 0, .int .i64 0, .int .i64 0, .int .i64 0, .int .i64 0] (Value.cells (Go.Value.agg #[Go.Value.int Go.IntKind.i64 0, Go.Value.int Go.IntKind.i64 0, Go.Value.int Go.IntKind.i64 0, Go.Value.int Go.IntKind.i64 0, Go.Value.int Go.IntKind.i64 0])) := fun g => RelL.cells (.cons (.int _ _) (.cons (.int _ _) (.cons (.int _ _) (.cons (.int _ _) (.cons (.int _ _) .nil)))))

def afX (k : Nat) : Nat := if k = 0 then 0 else if k ≤ 2 then 1 else if k = 3 then 2 else 3
theorem ajW (k : Nat) : afX k < 4 := by
 unfold afX; repeat' split
 all_goals omega
theorem kind_tab {k : Nat} (h : k ≤ 4) : ([.int .i64 0, .int .i64 1, .int .i64 1, .int .i64 2, .int .i64 3] : List AV)[((k : Nat) : Int).toNat]? = some (.int .i64 ((afX k : Nat) : Int)) := by
 rcases (by omega : k = 0 ∨ k = 1 ∨ k = 2 ∨ k = 3 ∨ k = 4) with rfl | rfl | rfl | rfl | rfl <;> rfl
def baI (p q : Nat) : Int := (([[6, 6, 1, 1], [6, 0, 5, 1], [1, 5, 5, 1], [1, 1, 1, 1]] : List (List Int)).getD p []).getD q 0
theorem muls_tab {p q : Nat} (hp : p < 4) (hq : q < 4) : ((([.int .i64 6, .int .i64 6, .int .i64 1, .int .i64 1, .int .i64 6, .int .i64 0, .int .i64 5, .int .i64 1, .int .i64 1, .int .i64 5, .int .i64 5, .int .i64 1, .int .i64 1, .int .i64 1, .int .i64 1, .int .i64 1] : List AV).drop (((p : Nat) : Int).toNat * 4)).drop (((q : Nat) : Int).toNat * 1))[0]? = some (.int .i64 (baI p q)) := by
 rcases (by omega : p = 0 ∨ p = 1 ∨ p = 2 ∨ p = 3) with rfl | rfl | rfl | rfl <;> rcases (by omega : q = 0 ∨ q = 1 ∨ q = 2 ∨ q = 3) with rfl | rfl | rfl | rfl <;> rfl
def ajL (a b : Nat) : Bool := decide (((a / 2 ^ 63 : Nat) : Int) ≠ ((b / 2 ^ 63 : Nat) : Int))
def adH (a b : Nat) : Nat :=
 if baI (afX (zY a)) (afX (zY b)) = 1 then 9221120237041090560
 else if baI (afX (zY a)) (afX (zY b)) = 5 then (if ajL a b = true then 18442240474082181120 else 9218868437227405312)
 else yG (ajL a b) (yS a * yS b) (yM a + yM b) false
section
variable {P : Program} {env : Env} {H : Heap} {dst : Option Tmp} {ty : TypeId} {pos : String} {af : Array Edge} {gd : Option (Nat × Bool)}
theorem anT {T : TypeId} {x : Operand} {cs : List AV} {c : AV} (ha : ∀ w, (isAgg T).run P w = .ok false w) (hx : Ev env x (.iptr cs)) (hc : cs[0]? = some c) : APure P ⟨dst, .load T x, ty, pos, af, gd⟩ env c := by
 match cs, hc with
 | d :: ds, hc =>
  obtain rfl : d = c := by simpa using hc
  exact aaM ha hx
end

set_option maxRecDepth 100000 in
theorem aeW (x : Nat) (hx : x < 18446744073709551616) (H : Heap) : ACall Tryz.prog 242 [.int .u64 (x : Int)] H (fun y H' => y = .int .i64 ((afX (zY x) : Nat) : Int) ∧ H' = H) := by
 have hk := ahJ x
 refine ACall.of_body Tryz.func242 rfl Tryz.ntmps242 Tryz.results242 rfl ?_
 iterate 7 refine AX ?_
 refine .p rfl (qU Tryz.underlying291 Tryz.sizeOf3 Tryz.zeroValue291 (zr291) (.cons zI (.inl rfl) (.cons zI (.inl rfl) (.cons zI (.inl rfl) (.cons zI (.inl rfl) (.cons zI (.inl rfl) .nil))))) rfl) ?_
 refine AX ?_
 refine .cl rfl Tryz.call89 (evs1 rfl) (qC _ (by assumption) _) (.p rfl (auZ Tryz.underlying291 Tryz.isAgg3 Tryz.sizeOf3 (tm rfl) (tm rfl) (by omega) (by omega) (kind_tab hk)) ?_)
 iterate 4 refine AX ?_
 refine Ret.go (.cons (.tmp _ _ rfl) .nil) _ (Heap.le.refl _) ?_
 exact ⟨rfl, rfl⟩

set_option maxRecDepth 100000 in
theorem baH (a b : Nat) (ha : a < 18446744073709551616) (hb : b < 18446744073709551616) (H : Heap) : ACall Tryz.prog 192 [.int .u64 (a : Int), .int .u64 (b : Int)] H (fun y H' => y = .int .i64 (baI (afX (zY a)) (afX (zY b))) ∧ H' = H) := by
 have hka := ajW (zY a)
 have hkb := ajW (zY b)
 refine ACall.of_body Tryz.func192 rfl Tryz.ntmps192 Tryz.results192 rfl ?_
 iterate 7 refine AX ?_
 refine .p rfl (qU Tryz.underlying251 Tryz.sizeOf3 Tryz.zeroValue251 (zr251) (.cons zI (.inl rfl) (.cons zI (.inl rfl) (.cons zI (.inl rfl) (.cons zI (.inl rfl) .nil)))) rfl) (.p rfl (qU Tryz.underlying251 Tryz.sizeOf3 Tryz.zeroValue251 (zr251) (.cons zI (.inl rfl) (.cons zI (.inl rfl) (.cons zI (.inl rfl) (.cons zI (.inl rfl) .nil)))) rfl) (.p rfl (qU Tryz.underlying251 Tryz.sizeOf3 Tryz.zeroValue251 (zr251) (.cons zI (.inl rfl) (.cons zI (.inl rfl) (.cons zI (.inl rfl) (.cons zI (.inl rfl) .nil)))) rfl) (.p rfl (qU Tryz.underlying251 Tryz.sizeOf3 Tryz.zeroValue251 (zr251) (.cons zI (.inl rfl) (.cons zI (.inl rfl) (.cons zI (.inl rfl) (.cons zI (.inl rfl) .nil)))) rfl) ?_)))
 refine .p rfl (qU Tryz.underlying252 Tryz.sizeOf251 Tryz.zeroValue252 (zr252) (.cons (tm rfl) (.inr ⟨_, rfl⟩) (.cons (tm rfl) (.inr ⟨_, rfl⟩) (.cons (tm rfl) (.inr ⟨_, rfl⟩) (.cons (tm rfl) (.inr ⟨_, rfl⟩) .nil)))) rfl) ?_
 refine .s rfl (zG Tryz.zeroValue252 (zr252)) ?_
 rintro _ _ ⟨b5, hb5, rfl, hH⟩
 obtain rfl := hH.symm
 refine .e0 (zB Tryz.sizeOf252 (tm rfl) (tm rfl) rfl rfl (.inr ⟨_, rfl⟩) (Heap.objs_set_same _ _ _) (Nat.le_of_ble_eq_true rfl)) ?_
 try first | rw [Heap.set_set] | rw [Heap.set_under (by assumption)]
 iterate 2 refine AX ?_
 refine AWP.frz (t := 5) rfl (hb5) ?_
 refine AX ?_
 refine AWP.draw [(0, true), (1, true), (2, true), (3, true), (4, true), (5, true), (6, true), (7, true)] rfl (by decide +kernel) ?_
 refine AX ?_
 refine APlan.f rfl rfl (fun _ => zC Tryz.call242 (evs1 rfl) (aeW _ (by assumption) _)) ?_
 refine AX ?_
 refine APlan.f rfl rfl (fun _ => zC Tryz.call242 (evs1 rfl) (aeW _ (by assumption) _)) ?_
 iterate 2 refine AX ?_
 refine .p rfl rfl (anT Tryz.isAgg3 (tm rfl) (muls_tab hka hkb)) ?_
 iterate 4 refine AX ?_
 refine Ret.go (.cons (.tmp _ _ rfl) .nil) _ (Heap.le.refl _) ?_
 exact ⟨rfl, rfl⟩

theorem wMul2 (x y : Nat) (hx : x < 18446744073709551616) (hy : y < 18446744073709551616) (H : Heap) : ACall Tryz.prog 193 [.int .u64 (x : Int), .int .u64 (y : Int)] H (fun z H' => z = u2 (x * y) ∧ H' = H) := ahX x y hx hy H
theorem part_mul {a b : Nat} : yS a * yS b < M2 := by
 have h1 := abD a
 have h2 := abD b
 have h3 : yS a * yS b ≤ 18014398509481984 * 18014398509481984 := Nat.mul_le_mul (by omega) (by omega)
 exact Nat.lt_of_le_of_lt h3 (by decide +kernel)

set_option maxRecDepth 100000 in
theorem aeD (a b : Nat) (ha : a < 18446744073709551616) (hb : b < 18446744073709551616) (H : Heap) : ACall Tryz.prog 133 [.int .u64 (a : Int), .int .u64 (b : Int)] H (fun y H' => y = .int .u64 ((adH a b : Nat) : Int) ∧ H' = H) := by
 have hpa := qY a
 have hpb := qY b
 have hma := abD a
 have hmb := abD b
 refine ACall.of_body Tryz.func133 rfl Tryz.ntmps133 Tryz.results133 rfl ?_
 iterate 2 refine AX ?_
 refine .p rfl (zD (zE 0)) ?_
 iterate 5 refine AX ?_
 refine .p rfl (zW (tm rfl) (zE 63) (by assumption)) ?_
 refine AX ?_
 refine .p rfl (zW (tm rfl) (zE 63) (by assumption)) ?_
 iterate 9 refine AX ?_
 refine .cl rfl Tryz.call192 (evs2 rfl rfl) (baH _ _ (by assumption) (by assumption) _) ?_
 iterate 9 refine AX ?_
 refine AWP.cx rfl (fun hc20 => ?_) (fun hc20 => ?_)
 ·iterate 2 refine AX ?_
  refine .p rfl (zD (zE 9221120237041090560)) ?_
  iterate 5 refine AX ?_
  refine Ret.go (.cons (.tmp _ _ rfl) .nil) _ (Heap.le.refl _) ?_
  refine ⟨?_, rfl⟩
  unfold adH
  rw [if_pos hc20]; rfl
 ·iterate 6 refine AX ?_
  refine AWP.cx rfl (fun hc22 => ?_) (fun hc22 => ?_)
  ·iterate 6 refine AX ?_
   refine AWP.cx rfl (fun hc24 => ?_) (fun hc24 => ?_)
   ·iterate 2 refine AX ?_
    refine .p rfl (zD (zE 18442240474082181120)) ?_
    iterate 6 refine AX ?_
    refine Ret.go (.cons (.tmp _ _ rfl) .nil) _ (Heap.le.refl _) ?_
    refine ⟨?_, rfl⟩
    have hmn : ajL a b = true := decide_eq_true hc24
    unfold adH
    rw [if_neg hc20, if_pos hc22, if_pos hmn]; rfl
   ·iterate 4 refine AX ?_
    refine .p rfl (zD (zE 9218868437227405312)) ?_
    iterate 5 refine AX ?_
    refine Ret.go (.cons (.tmp _ _ rfl) .nil) _ (Heap.le.refl _) ?_
    refine ⟨?_, rfl⟩
    unfold adH
    rw [if_neg hc20, if_pos hc22, if_neg (by unfold ajL; simpa using hc24)]; rfl
  ·iterate 6 refine AX ?_
   refine .cl rfl Tryz.call181 (evs1 rfl) (aaV a ha _) ?_
   iterate 12 refine AX ?_
   refine .cl rfl Tryz.call181 (evs1 rfl) (aaV b hb _) ?_
   iterate 14 refine AX ?_
   refine .cl rfl Tryz.call193 (evs2 rfl rfl) (wMul2 _ _ (by omega) (by omega) _) ?_
   iterate 3 refine AX ?_
   refine .cl rfl Tryz.call122 (.cons (tm rfl) (.cons (tm rfl) (.cons (tm rfl) (.cons yF .nil)))) (abM (ajL a b) (yS a * yS b) part_mul _ (by constructor <;> omega) false _) ?_
   iterate 4 refine AX ?_
   refine Ret.go (.cons (.tmp _ _ rfl) .nil) _ (Heap.le.refl _) ?_
   refine ⟨?_, rfl⟩
   unfold adH
   rw [if_neg hc20, if_neg hc22]; rfl

set_option maxRecDepth 100000 in
theorem azD (v : Nat) (hv : v < 9223372036854775808) (H : Heap) : ACall Tryz.prog 123 [.int .i64 (v : Int)] H (fun y H' => y = .int .u64 (v : Int) ∧ H' = H) := by
 refine ACall.of_body Tryz.func123 rfl Tryz.ntmps123 Tryz.results123 rfl ?_
 iterate 2 refine AX ?_
 refine .p rfl (zD (zE 0)) ?_
 iterate 9 refine AX ?_
 refine AWP.cond_false (tm rfl) (by exact decide_eq_false (by omega)) ?_
 iterate 10 refine AX ?_
 refine Ret.go (.cons (.tmp _ _ rfl) .nil) _ (Heap.le.refl _) ?_
 exact ⟨rfl, rfl⟩

set_option maxRecDepth 100000 in
theorem acR (v : Nat) (hv : v < 9223372036854775808) (H : Heap) : ACall Tryz.prog 55 [.int .i64 (v : Int)] H (fun y H' => y = .int .u64 ((yG false v 0 false : Nat) : Int) ∧ H' = H) := by
 refine ACall.of_body Tryz.func55 rfl Tryz.ntmps55 Tryz.results55 rfl ?_
 iterate 2 refine AX ?_
 refine .p rfl (zD (zE 0)) ?_
 iterate 7 refine AX ?_
 refine .cl rfl Tryz.call123 (evs1 rfl) (azD v hv _) (.p rfl (zL [(0, 1), (1, 1)] Tryz.underlying149 Tryz.zeroValue149 (zr149) rfl (pl149 _ Tryz.underlying149) (.cons (tm rfl) (.inl rfl) .nil) rfl) ?_)
 refine .cl rfl Tryz.call122 (.cons (tm rfl) (.cons (tm rfl) (.cons zI (.cons yF .nil)))) ((by have h := fun H => abM (decide ((v : Int) < 0)) v (Nat.lt_trans hv (by decide +kernel)) 0 (by decide) false H; rw [agX (Nat.lt_trans hv (by decide +kernel))] at h; exact h _)) ?_
 iterate 4 refine AX ?_
 refine Ret.go (.cons (.tmp _ _ rfl) .nil) _ (Heap.le.refl _) ?_
 refine ⟨?_, rfl⟩
 rw [show decide ((v : Int) < 0) = false from decide_eq_false (by omega)]; rfl

end
theorem shl_BIG {m a K : Nat} (hm : m < 2 ^ a) (h : a + K ≤ 8191) : m * 2 ^ K < BIG := by
 obtain ⟨Q, hQ, hB⟩ : ∃ K, K = 8192 ∧ BIG = 2 ^ K := ⟨32 * 256, rfl, amP _ rfl⟩
 rw [hB]
 refine Nat.lt_of_lt_of_le (Nat.mul_lt_mul_of_pos_right hm (Nat.pow_pos (by decide))) ?_
 rw [← Nat.pow_add]
 exact Nat.pow_le_pow_right (by decide) (by omega)
theorem len_more (r : Nat) : decide ((0 : Int) < ((zF r).length : Int)) = decide (r ≠ 0) := by
 refine decide_eq_decide.2 ⟨fun h q => ?_, fun h => ?_⟩
 ·subst q; rw [qV] at h; simp at h
 ·rw [qE (Nat.pos_of_ne_zero h)]; simp only [List.length_cons]; omega
theorem num_blen {ds : List UInt8} (hd : Digs ds) (hl : ds.length ≤ 1100) : yE (num ds) ≤ 3669 ∧ num ds < BIG := by
 have h1 := agA hd
 have h2 := (acM (j := ds.length) (n := 0) (by omega) (by decide)).2.1
 refine ⟨?_, Nat.lt_trans h1 h2⟩
 have h3 := atK (Nat.le_of_lt h1)
 have h4 := arA ds.length
 omega
theorem num_ten {ds : List UInt8} (hd : Digs ds) {j : Nat} (h : ds.length + j ≤ 400) : num ds * 10 ^ j < BIG ∧ 10 ^ j < BIG := by
 have h1 := agA hd
 refine ⟨Nat.lt_of_le_of_lt ?_ (acM (j := ds.length + j) (n := 0) (by omega) (by decide)).2.1, (acM (j := j) (n := 0) (by omega) (by decide)).2.1⟩
 rw [Nat.pow_add]
 exact Nat.mul_le_mul_right _ (Nat.le_of_lt h1)
theorem bdH (m : Nat) (e : Int) : asQ 0 ((yE (10 ^ (-e).toNat) : Int) - (yE m : Int) + 66) = ((azC m e : Nat) : Int) := by
 unfold azC
 simp only [asQ]
 split <;> omega

set_option maxRecDepth 100000 in
theorem anH (neg : Bool) (ds : List UInt8) (e : Int) (hr : qJ ds e = true) (hne : ds ≠ []) (hp : -330 ≤ ds.length + e ∧ ds.length + e ≤ 310) (H : Heap) : ACall Tryz.prog 225 [dA neg ds e] H (fun y H' => y = .int .u64 ((aoX (num ds) e : Nat) : Int) ∧ H' = H) := by
 have hd := aaK hr
 have hrl := abK hr
 have hlp := List.length_pos_iff.2 hne
 obtain ⟨hmb, hmB⟩ := num_blen hd hrl.1
 refine ACall.of_body Tryz.func225 rfl Tryz.ntmps225 Tryz.results225 rfl ?_
 iterate 2 refine AX ?_
 refine .e rfl (zO (tm rfl) (.inr ⟨_, rfl⟩)) (.p rfl (zD (zE 0)) ?_)
 iterate 4 refine AX ?_
 refine .p rfl (zA Tryz.underlying58 rfl Tryz.sizeOf9 (tm rfl)) ?_
 refine AX ?_
 refine .cl rfl Tryz.call267 (evs1 rfl) (awN ds hne hd (by omega) _) ?_
 iterate 10 refine AX ?_
 refine .p rfl (zA Tryz.underlying58 rfl Tryz.sizeOf3 (tm rfl)) ?_
 iterate 4 refine AX ?_
 refine AWP.cx rfl (fun hc21 => ?_) (fun hc21 => ?_)
 ·have hq := num_ten hd (j := e.toNat) (by omega)
  iterate 2 refine AX ?_
  refine .p rfl (zA Tryz.underlying58 rfl Tryz.sizeOf3 (tm rfl)) ?_
  refine AX ?_
  refine .cl rfl Tryz.call268 (.cons zI (evs1 rfl)) (pow10Z e.toNat e (by omega) (by omega) _) ?_
  iterate 11 refine AX ?_
  refine .cl rfl Tryz.call269 (evs2 rfl rfl) (mulB _ _ hmB hq.2 hq.1 _) ?_
  iterate 9 refine AX ?_
  refine .cl rfl Tryz.call270 (.cons yF (.cons (tm rfl) (.cons zI (.cons yF .nil)))) (roundB _ hq.1 0 (by decide) false _) ?_
  iterate 5 refine AX ?_
  refine Ret.go (.cons (.tmp _ _ rfl) .nil) _ (Heap.le.refl _) ?_
  refine ⟨?_, rfl⟩
  unfold aoX
  rw [if_pos (by omega)]; rfl
 ·have htB := (acM (j := (-e).toNat) (n := 0) (by omega) (by decide)).2.1
  have htb := arA (-e).toNat
  have hkd : azC (num ds) e = yE (10 ^ (-e).toNat) + 66 - yE (num ds) := rfl
  have hsB := shl_BIG (m := (num ds)) (a := yE (num ds)) (K := azC (num ds) e) (aqK _) (by omega)
  iterate 4 refine AX ?_
  refine .p rfl (zA Tryz.underlying58 rfl Tryz.sizeOf3 (tm rfl)) ?_
  iterate 2 refine AX ?_
  refine .cl rfl Tryz.call268 (.cons zI (evs1 rfl)) (pow10Z (-e).toNat (-e) (by omega) (by omega) _) ?_
  iterate 10 refine AX ?_
  refine .cl rfl Tryz.call271 (evs1 rfl) (lenB _ htB _) ?_
  refine AX ?_
  refine .cl rfl Tryz.call271 (evs1 rfl) (lenB _ hmB _) ?_
  iterate 7 refine AX ?_
  rw [bdH]
  iterate 3 refine AX ?_
  refine .cl rfl Tryz.call272 (evs2 rfl rfl) (shlQ _ (azC (num ds) e) _ rfl hsB (by omega) _) ?_
  iterate 10 refine AX ?_
  refine .cl rfl Tryz.call273 (evs2 rfl rfl) (ajI _ _ hsB (auE _) htB _) ?_
  iterate 17 refine AX ?_
  refine .cl rfl Tryz.call270 (.cons yF (evs3 rfl rfl rfl)) (roundB _ (Nat.lt_of_le_of_lt (Nat.div_le_self _ _) hsB) _ (by constructor <;> omega) _ _) ?_
  iterate 4 refine AX ?_
  refine Ret.go (.cons (.tmp _ _ rfl) .nil) _ (Heap.le.refl _) ?_
  refine ⟨?_, rfl⟩
  rw [len_more]
  unfold aoX ratN
  rw [if_neg (by omega)]; rfl
end Go.Proofs.YtmmgbnolccpjoaaGreatDoor
