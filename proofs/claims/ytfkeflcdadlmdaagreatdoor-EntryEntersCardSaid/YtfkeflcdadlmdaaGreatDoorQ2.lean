import Derived.Test.YtfkeflcdadlmdaaGreatDoorYd
import Derived.Test.YtfkeflcdadlmdaaGreatDoorSsk
import Derived.Test.YtfkeflcdadlmdaaGreatDoorQ1
import Derived.Test.YtfkeflcdadlmdaaGreatDoorD1
import Derived.Test.YtfkeflcdadlmdaaGreatDoorP2
import Derived.Test.YtfkeflcdadlmdaaGreatDoorS6
namespace Go.Proofs.YtfkeflcdadlmdaaGreatDoor
open Go Go.RowKit

theorem shl_BIG {m a K : Nat} (hm : m < 2 ^ a) (h : a + K ≤ 8191) : m * 2 ^ K < BIG := by
 obtain ⟨Q, hQ, hB⟩ : ∃ K, K = 8192 ∧ BIG = 2 ^ K := ⟨32 * 256, rfl, aoA _ rfl⟩
 rw [hB]
 refine Nat.lt_of_lt_of_le (Nat.mul_lt_mul_of_pos_right hm (Nat.pow_pos (by decide))) ?_
 rw [← Nat.pow_add]
 exact Nat.pow_le_pow_right (by decide) (by omega)
theorem len_more (r : Nat) : decide ((0 : Int) < ((zE r).length : Int)) = decide (r ≠ 0) := by
 refine decide_eq_decide.2 ⟨fun h q => ?_, fun h => ?_⟩
 ·subst q; rw [qX] at h; simp at h
 ·rw [qA (Nat.pos_of_ne_zero h)]; simp only [List.length_cons]; omega
theorem num_blen {ds : List UInt8} (hd : Digs ds) (hl : ds.length ≤ 1100) : yI (num ds) ≤ 3669 ∧ num ds < BIG := by
 have h1 := afN hd
 have h2 := (adF (j := ds.length) (n := 0) (by omega) (by decide)).2.1
 refine ⟨?_, Nat.lt_trans h1 h2⟩
 have h3 := aeW (Nat.le_of_lt h1)
 have h4 := ahD ds.length
 omega
theorem num_ten {ds : List UInt8} (hd : Digs ds) {j : Nat} (h : ds.length + j ≤ 400) : num ds * 10 ^ j < BIG ∧ 10 ^ j < BIG := by
 have h1 := afN hd
 refine ⟨Nat.lt_of_le_of_lt ?_ (adF (j := ds.length + j) (n := 0) (by omega) (by decide)).2.1, (adF (j := j) (n := 0) (by omega) (by decide)).2.1⟩
 rw [Nat.pow_add]
 exact Nat.mul_le_mul_right _ (Nat.le_of_lt h1)
theorem bfU (m : Nat) (e : Int) : ayB 0 ((yI (10 ^ (-e).toNat) : Int) - (yI m : Int) + 66) = ((aqQ m e : Nat) : Int) := by
 unfold aqQ
 simp only [ayB]
 split <;> omega

set_option maxRecDepth 100000 in
theorem aoV (neg : Bool) (ds : List UInt8) (e : Int) (hr : qF ds e = true) (hne : ds ≠ []) (hp : -330 ≤ ds.length + e ∧ ds.length + e ≤ 310) (H : Heap) : ACall Tryz.prog 117 [dA neg ds e] H (fun y H' => y = .int .u64 ((aqP (num ds) e : Nat) : Int) ∧ H' = H) := by
 have hd := qW hr
 have hrl := aaS hr
 have hlp := List.length_pos_iff.2 hne
 obtain ⟨hmb, hmB⟩ := num_blen hd hrl.1
 refine ACall.of_body Tryz.func117 rfl Tryz.ntmps117 Tryz.results117 rfl ?_
 iterate 2 refine AX ?_
 refine .e rfl (yF (tm rfl) (.inr ⟨_, rfl⟩)) (.p rfl (zC (zG 0)) ?_)
 iterate 4 refine AX ?_
 refine .p rfl (zA Tryz.underlying48 rfl Tryz.sizeOf9 (tm rfl)) ?_
 refine AX ?_
 refine .cl rfl Tryz.call156 (evs1 rfl) (ayY ds hne hd (by omega) _) ?_
 iterate 10 refine AX ?_
 refine .p rfl (zA Tryz.underlying48 rfl Tryz.sizeOf3 (tm rfl)) ?_
 iterate 4 refine AX ?_
 refine AWP.cx rfl (fun hc21 => ?_) (fun hc21 => ?_)
 ·have hq := num_ten hd (j := e.toNat) (by omega)
  iterate 2 refine AX ?_
  refine .p rfl (zA Tryz.underlying48 rfl Tryz.sizeOf3 (tm rfl)) ?_
  refine AX ?_
  refine .cl rfl Tryz.call157 (.cons zF (evs1 rfl)) (pow10Z e.toNat e (by omega) (by omega) _) ?_
  iterate 11 refine AX ?_
  refine .cl rfl Tryz.call158 (evs2 rfl rfl) (mulB _ _ hmB hq.2 hq.1 _) ?_
  iterate 9 refine AX ?_
  refine .cl rfl Tryz.call159 (.cons yN (.cons (tm rfl) (.cons zF (.cons yN .nil)))) (roundB _ hq.1 0 (by decide) false _) ?_
  iterate 5 refine AX ?_
  refine Ret.go (.cons (.tmp _ _ rfl) .nil) _ (Heap.le.refl _) ?_
  refine ⟨?_, rfl⟩
  unfold aqP
  rw [if_pos (by omega)]; rfl
 ·have htB := (adF (j := (-e).toNat) (n := 0) (by omega) (by decide)).2.1
  have htb := ahD (-e).toNat
  have hkd : aqQ (num ds) e = yI (10 ^ (-e).toNat) + 66 - yI (num ds) := rfl
  have hsB := shl_BIG (m := (num ds)) (a := yI (num ds)) (K := aqQ (num ds) e) (aeK _) (by omega)
  iterate 4 refine AX ?_
  refine .p rfl (zA Tryz.underlying48 rfl Tryz.sizeOf3 (tm rfl)) ?_
  refine AX ?_
  refine .p rfl (aaE (tm rfl) (by omega)) (.cl rfl Tryz.call157 (.cons zF (evs1 rfl)) (pow10Z (-e).toNat (-e) (by omega) (by omega) _) ?_)
  iterate 10 refine AX ?_
  refine .cl rfl Tryz.call160 (evs1 rfl) (lenB _ htB _) ?_
  refine AX ?_
  refine .cl rfl Tryz.call160 (evs1 rfl) (lenB _ hmB _) (.p rfl (zO (tm rfl) (tm rfl) (by omega)) (.p rfl (zK (tm rfl) zF (by omega)) (.p rfl (acC zF (tm rfl)) ?_)))
  iterate 4 refine AX ?_
  rw [bfU]
  iterate 3 refine AX ?_
  refine .cl rfl Tryz.call161 (evs2 rfl rfl) (shlQ _ (aqQ (num ds) e) _ rfl hsB (by omega) _) ?_
  iterate 10 refine AX ?_
  refine .cl rfl Tryz.call162 (evs2 rfl rfl) (akQ _ _ hsB (abJ _) htB _) ?_
  iterate 13 refine AX ?_
  refine .p rfl (aaE (tm rfl) (by omega)) ?_
  iterate 3 refine AX ?_
  refine .cl rfl Tryz.call159 (.cons yN (evs3 rfl rfl rfl)) (roundB _ (Nat.lt_of_le_of_lt (Nat.div_le_self _ _) hsB) _ (by constructor <;> omega) _ _) ?_
  iterate 4 refine AX ?_
  refine Ret.go (.cons (.tmp _ _ rfl) .nil) _ (Heap.le.refl _) ?_
  refine ⟨?_, rfl⟩
  rw [len_more]
  unfold aqP avS
  rw [if_neg (by omega)]; rfl
section
open Go Go.RowKit

theorem zr237 : ∀ g, RelCells g [.int .i64 0, .int .i64 0, .int .i64 0, .int .i64 0] (Value.cells (Go.Value.agg #[Go.Value.int Go.IntKind.i64 0, Go.Value.int Go.IntKind.i64 0, Go.Value.int Go.IntKind.i64 0, Go.Value.int Go.IntKind.i64 0])) := fun g => RelL.cells (.cons (.int _ _) (.cons (.int _ _) (.cons (.int _ _) (.cons (.int _ _) .nil))))
theorem zr238 : ∀ g, RelCells g [.int .i64 0, .int .i64 0, .int .i64 0, .int .i64 0, .int .i64 0, .int .i64 0, .int .i64 0, .int .i64 0, .int .i64 0, .int .i64 0, .int .i64 0, .int .i64 0, .int .i64 0, .int .i64 0, .int .i64 0, .int .i64 0] (Value.cells (Go.Value.agg #[Go.Value.int Go.IntKind.i64 0, Go.Value.int Go.IntKind.i64 0, Go.Value.int Go.IntKind.i64 0, Go.Value.int Go.IntKind.i64 0, Go.Value.int Go.IntKind.i64 0, Go.Value.int Go.IntKind.i64 0, Go.Value.int Go.IntKind.i64 0, Go.Value.int Go.IntKind.i64 0, Go.Value.int Go.IntKind.i64 0, Go.Value.int Go.IntKind.i64 0, Go.Value.int Go.IntKind.i64 0, Go.Value.int Go.IntKind.i64 0, Go.Value.int Go.IntKind.i64 0, Go.Value.int Go.IntKind.i64 0, Go.Value.int Go.IntKind.i64 0, Go.Value.int Go.IntKind.i64 0])) := fun g => RelL.cells (.cons (.int _ _) (.cons (.int _ _) (.cons (.int _ _) (.cons (.int _ _) (.cons (.int _ _) (.cons (.int _ _) (.cons (.int _ _) (.cons (.int _ _) (.cons (.int _ _) (.cons (.int _ _) (.cons (.int _ _) (.cons (.int _ _) (.cons (.int _ _) (.cons (.int _ _) (.cons (.int _ _) (.cons (.int _ _) .nil))))))))))))))))
theorem zr268 : ∀ g, RelCells g [.int .i64 0, .int .i64 0, .int .i64 0, .int .i64 0, .int .i64 0] (Value.cells (Go.Value.agg #[Go.Value.int Go.IntKind.i64 0, Go.Value.int Go.IntKind.i64 0, Go.Value.int Go.IntKind.i64 0, Go.Value.int Go.IntKind.i64 0, Go.Value.int Go.IntKind.i64 0])) := fun g => RelL.cells (.cons (.int _ _) (.cons (.int _ _) (.cons (.int _ _) (.cons (.int _ _) (.cons (.int _ _) .nil)))))

def aoJ (k : Nat) : Nat := if k = 0 then 0 else if k ≤ 2 then 1 else if k = 3 then 2 else 3
theorem baO (k : Nat) : aoJ k < 4 := by
 unfold aoJ; repeat' split
 all_goals omega
theorem kind_tab {k : Nat} (h : k ≤ 4) : ([.int .i64 0, .int .i64 1, .int .i64 1, .int .i64 2, .int .i64 3] : List AV)[((k : Nat) : Int).toNat]? = some (.int .i64 ((aoJ k : Nat) : Int)) := by
 rcases (by omega : k = 0 ∨ k = 1 ∨ k = 2 ∨ k = 3 ∨ k = 4) with rfl | rfl | rfl | rfl | rfl <;> rfl
def mulsT (p q : Nat) : Int := (([[6, 6, 1, 1], [6, 0, 5, 1], [1, 5, 5, 1], [1, 1, 1, 1]] : List (List Int)).getD p []).getD q 0
theorem muls_tab {p q : Nat} (hp : p < 4) (hq : q < 4) : ((([.int .i64 6, .int .i64 6, .int .i64 1, .int .i64 1, .int .i64 6, .int .i64 0, .int .i64 5, .int .i64 1, .int .i64 1, .int .i64 5, .int .i64 5, .int .i64 1, .int .i64 1, .int .i64 1, .int .i64 1, .int .i64 1] : List AV).drop (((p : Nat) : Int).toNat * 4)).drop (((q : Nat) : Int).toNat * 1))[0]? = some (.int .i64 (mulsT p q)) := by
 rcases (by omega : p = 0 ∨ p = 1 ∨ p = 2 ∨ p = 3) with rfl | rfl | rfl | rfl <;> rcases (by omega : q = 0 ∨ q = 1 ∨ q = 2 ∨ q = 3) with rfl | rfl | rfl | rfl <;> rfl
def arP (a b : Nat) : Bool := decide (((a / 2 ^ 63 : Nat) : Int) ≠ ((b / 2 ^ 63 : Nat) : Int))
def ajR (a b : Nat) : Nat :=
 if mulsT (aoJ (qD a)) (aoJ (qD b)) = 1 then 9221120237041090560
 else if mulsT (aoJ (qD a)) (aoJ (qD b)) = 5 then (if arP a b = true then 18442240474082181120 else 9218868437227405312)
 else yB (arP a b) (afF a * afF b) (ajM a + ajM b) false
section
variable {P : Program} {env : Env} {H : Heap} {dst : Option Tmp} {ty : TypeId} {pos : String} {af : Array Edge} {gd : Option (Nat × Bool)}
theorem bcY {T : TypeId} {x : Operand} {cs : List AV} {c : AV} (ha : ∀ w, (isAgg T).run P w = .ok false w) (hx : Ev env x (.iptr cs)) (hc : cs[0]? = some c) : APure P ⟨dst, .load T x, ty, pos, af, gd⟩ env c := by
 match cs, hc with
 | d :: ds, hc =>
  obtain rfl : d = c := by simpa using hc
  exact qJ ha hx
end

set_option maxRecDepth 100000 in
theorem anV (x : Nat) (hx : x < 18446744073709551616) (H : Heap) : ACall Tryz.prog 196 [.int .u64 (x : Int)] H (fun y H' => y = .int .i64 ((aoJ (qD x) : Nat) : Int) ∧ H' = H) := by
 have hk := baN x
 refine ACall.of_body Tryz.func196 rfl Tryz.ntmps196 Tryz.results196 rfl ?_
 iterate 7 refine AX ?_
 refine .p rfl (acP Tryz.underlying268 Tryz.sizeOf3 Tryz.zeroValue268 (zr268) (.cons zF (.inl rfl) (.cons zF (.inl rfl) (.cons zF (.inl rfl) (.cons zF (.inl rfl) (.cons zF (.inl rfl) .nil))))) rfl) ?_
 refine AX ?_
 refine .cl rfl Tryz.call36 (evs1 rfl) (agY _ (by assumption) _) (.p rfl (axG Tryz.underlying268 Tryz.isAgg3 Tryz.sizeOf3 (tm rfl) (tm rfl) (by omega) (by omega) (kind_tab hk)) ?_)
 iterate 4 refine AX ?_
 refine Ret.go (.cons (.tmp _ _ rfl) .nil) _ (Heap.le.refl _) ?_
 exact ⟨rfl, rfl⟩

set_option maxRecDepth 100000 in
theorem bdI (a b : Nat) (ha : a < 18446744073709551616) (hb : b < 18446744073709551616) (H : Heap) : ACall Tryz.prog 149 [.int .u64 (a : Int), .int .u64 (b : Int)] H (fun y H' => y = .int .i64 (mulsT (aoJ (qD a)) (aoJ (qD b))) ∧ H' = H) := by
 have hka := baO (qD a)
 have hkb := baO (qD b)
 refine ACall.of_body Tryz.func149 rfl Tryz.ntmps149 Tryz.results149 rfl ?_
 iterate 7 refine AX ?_
 refine .p rfl (acP Tryz.underlying237 Tryz.sizeOf3 Tryz.zeroValue237 (zr237) (.cons zF (.inl rfl) (.cons zF (.inl rfl) (.cons zF (.inl rfl) (.cons zF (.inl rfl) .nil)))) rfl) (.p rfl (acP Tryz.underlying237 Tryz.sizeOf3 Tryz.zeroValue237 (zr237) (.cons zF (.inl rfl) (.cons zF (.inl rfl) (.cons zF (.inl rfl) (.cons zF (.inl rfl) .nil)))) rfl) (.p rfl (acP Tryz.underlying237 Tryz.sizeOf3 Tryz.zeroValue237 (zr237) (.cons zF (.inl rfl) (.cons zF (.inl rfl) (.cons zF (.inl rfl) (.cons zF (.inl rfl) .nil)))) rfl) (.p rfl (acP Tryz.underlying237 Tryz.sizeOf3 Tryz.zeroValue237 (zr237) (.cons zF (.inl rfl) (.cons zF (.inl rfl) (.cons zF (.inl rfl) (.cons zF (.inl rfl) .nil)))) rfl) ?_)))
 refine .p rfl (acP Tryz.underlying238 Tryz.sizeOf237 Tryz.zeroValue238 (zr238) (.cons (tm rfl) (.inr ⟨_, rfl⟩) (.cons (tm rfl) (.inr ⟨_, rfl⟩) (.cons (tm rfl) (.inr ⟨_, rfl⟩) (.cons (tm rfl) (.inr ⟨_, rfl⟩) .nil)))) rfl) ?_
 refine .s rfl (zL Tryz.zeroValue238 (zr238)) ?_
 rintro _ _ ⟨b5, hb5, rfl, hH⟩
 obtain rfl := hH.symm
 refine .e0 (zB Tryz.sizeOf238 (tm rfl) (tm rfl) rfl rfl (.inr ⟨_, rfl⟩) (Heap.objs_set_same _ _ _) (Nat.le_of_ble_eq_true rfl)) ?_
 try first | rw [Heap.set_set] | rw [Heap.set_under (by assumption)]
 iterate 2 refine AX ?_
 refine AWP.frz (t := 5) rfl (hb5) ?_
 refine AX ?_
 refine AWP.draw [(0, true), (1, true), (2, true), (3, true), (4, true), (5, true), (6, true), (7, true)] rfl (by decide +kernel) ?_
 refine AX ?_
 refine APlan.f rfl rfl (fun _ => zH Tryz.call196 (evs1 rfl) (anV _ (by assumption) _)) ?_
 refine AX ?_
 refine APlan.f rfl rfl (fun _ => zH Tryz.call196 (evs1 rfl) (anV _ (by assumption) _)) ?_
 refine .p rfl rfl (amQ Tryz.underlying238 Tryz.sizeOf237 (tm rfl) (tm rfl) (by omega) (by omega)) (.p rfl rfl (amQ Tryz.underlying237 Tryz.sizeOf3 (tm rfl) (tm rfl) (by omega) (by omega)) (.p rfl rfl (bcY Tryz.isAgg3 (tm rfl) (muls_tab hka hkb)) ?_))
 iterate 4 refine AX ?_
 refine Ret.go (.cons (.tmp _ _ rfl) .nil) _ (Heap.le.refl _) ?_
 exact ⟨rfl, rfl⟩

theorem wMul2 (x y : Nat) (hx : x < 18446744073709551616) (hy : y < 18446744073709551616) (H : Heap) : ACall Tryz.prog 150 [.int .u64 (x : Int), .int .u64 (y : Int)] H (fun z H' => z = u2 (x * y) ∧ H' = H) := ajE x y hx hy H
theorem part_mul {a b : Nat} : afF a * afF b < M2 := by
 have h1 := aiP a
 have h2 := aiP b
 have h3 : afF a * afF b ≤ 18014398509481984 * 18014398509481984 := Nat.mul_le_mul (by omega) (by omega)
 exact Nat.lt_of_le_of_lt h3 (by decide +kernel)

set_option maxRecDepth 100000 in
theorem apZ (a b : Nat) (ha : a < 18446744073709551616) (hb : b < 18446744073709551616) (H : Heap) : ACall Tryz.prog 115 [.int .u64 (a : Int), .int .u64 (b : Int)] H (fun y H' => y = .int .u64 ((ajR a b : Nat) : Int) ∧ H' = H) := by
 have hpa := ahT a
 have hpb := ahT b
 have hma := aiP a
 have hmb := aiP b
 refine ACall.of_body Tryz.func115 rfl Tryz.ntmps115 Tryz.results115 rfl ?_
 iterate 2 refine AX ?_
 refine .p rfl (zC (zG 0)) ?_
 iterate 5 refine AX ?_
 refine .p rfl (yG (tm rfl) (zG 63) (by assumption)) ?_
 refine AX ?_
 refine .p rfl (yG (tm rfl) (zG 63) (by assumption)) ?_
 iterate 9 refine AX ?_
 refine .cl rfl Tryz.call149 (evs2 rfl rfl) (bdI _ _ (by assumption) (by assumption) _) ?_
 iterate 9 refine AX ?_
 refine AWP.cx rfl (fun hc20 => ?_) (fun hc20 => ?_)
 ·iterate 2 refine AX ?_
  refine .p rfl (zC (zG 9221120237041090560)) ?_
  iterate 5 refine AX ?_
  refine Ret.go (.cons (.tmp _ _ rfl) .nil) _ (Heap.le.refl _) ?_
  refine ⟨?_, rfl⟩
  unfold ajR
  rw [if_pos hc20]; rfl
 ·iterate 6 refine AX ?_
  refine AWP.cx rfl (fun hc22 => ?_) (fun hc22 => ?_)
  ·iterate 6 refine AX ?_
   refine AWP.cx rfl (fun hc24 => ?_) (fun hc24 => ?_)
   ·iterate 2 refine AX ?_
    refine .p rfl (zC (zG 18442240474082181120)) ?_
    iterate 6 refine AX ?_
    refine Ret.go (.cons (.tmp _ _ rfl) .nil) _ (Heap.le.refl _) ?_
    refine ⟨?_, rfl⟩
    have hmn : arP a b = true := decide_eq_true hc24
    unfold ajR
    rw [if_neg hc20, if_pos hc22, if_pos hmn]; rfl
   ·iterate 4 refine AX ?_
    refine .p rfl (zC (zG 9218868437227405312)) ?_
    iterate 5 refine AX ?_
    refine Ret.go (.cons (.tmp _ _ rfl) .nil) _ (Heap.le.refl _) ?_
    refine ⟨?_, rfl⟩
    unfold ajR
    rw [if_neg hc20, if_pos hc22, if_neg (by unfold arP; simpa using hc24)]; rfl
  ·iterate 6 refine AX ?_
   refine .cl rfl Tryz.call120 (evs1 rfl) (aiA a ha _) ?_
   iterate 12 refine AX ?_
   refine .cl rfl Tryz.call120 (evs1 rfl) (aiA b hb _) ?_
   iterate 14 refine AX ?_
   refine .cl rfl Tryz.call150 (evs2 rfl rfl) (wMul2 _ _ (by omega) (by omega) _) ?_
   iterate 2 refine AX ?_
   refine .p rfl (zK (tm rfl) (tm rfl) (by omega)) (.cl rfl Tryz.call147 (.cons (tm rfl) (.cons (tm rfl) (.cons (tm rfl) (.cons yN .nil)))) (akA (arP a b) (afF a * afF b) part_mul _ (by constructor <;> omega) false _) ?_)
   iterate 4 refine AX ?_
   refine Ret.go (.cons (.tmp _ _ rfl) .nil) _ (Heap.le.refl _) ?_
   refine ⟨?_, rfl⟩
   unfold ajR
   rw [if_neg hc20, if_neg hc22]; rfl

set_option maxRecDepth 100000 in
theorem bcC (v : Nat) (hv : v < 9223372036854775808) (H : Heap) : ACall Tryz.prog 148 [.int .i64 (v : Int)] H (fun y H' => y = .int .u64 (v : Int) ∧ H' = H) := by
 refine ACall.of_body Tryz.func148 rfl Tryz.ntmps148 Tryz.results148 rfl ?_
 iterate 2 refine AX ?_
 refine .p rfl (zC (zG 0)) ?_
 iterate 9 refine AX ?_
 refine AWP.cond_false (tm rfl) (by exact decide_eq_false (by omega)) ?_
 iterate 5 refine AX ?_
 refine .p rfl (zT Tryz.underlying3 Tryz.underlying30 (tm rfl) (wrapN64 (by omega))) ?_
 iterate 4 refine AX ?_
 refine Ret.go (.cons (.tmp _ _ rfl) .nil) _ (Heap.le.refl _) ?_
 exact ⟨rfl, rfl⟩

set_option maxRecDepth 100000 in
theorem akB (v : Nat) (hv : v < 9223372036854775808) (H : Heap) : ACall Tryz.prog 114 [.int .i64 (v : Int)] H (fun y H' => y = .int .u64 ((yB false v 0 false : Nat) : Int) ∧ H' = H) := by
 refine ACall.of_body Tryz.func114 rfl Tryz.ntmps114 Tryz.results114 rfl ?_
 iterate 2 refine AX ?_
 refine .p rfl (zC (zG 0)) ?_
 iterate 7 refine AX ?_
 refine .cl rfl Tryz.call148 (evs1 rfl) (bcC v hv _) (.p rfl (zU [(0, 1), (1, 1)] Tryz.underlying122 Tryz.zeroValue122 (zr122) rfl (pl122 _ Tryz.underlying122) (.cons (tm rfl) (.inl rfl) .nil) rfl) ?_)
 refine .cl rfl Tryz.call147 (.cons (tm rfl) (.cons (tm rfl) (.cons zF (.cons yN .nil)))) ((by have h := fun H => akA (decide ((v : Int) < 0)) v (Nat.lt_trans hv (by decide +kernel)) 0 (by decide) false H; rw [u2_low (Nat.lt_trans hv (by decide +kernel))] at h; exact h _)) ?_
 iterate 4 refine AX ?_
 refine Ret.go (.cons (.tmp _ _ rfl) .nil) _ (Heap.le.refl _) ?_
 refine ⟨?_, rfl⟩
 rw [show decide ((v : Int) < 0) = false from decide_eq_false (by omega)]; rfl

end
end Go.Proofs.YtfkeflcdadlmdaaGreatDoor
