import Derived.Test.YtfkeflcdadlmdaaGreatDoorSsk
import Derived.Test.YtfkeflcdadlmdaaGreatDoorQ1
import Derived.Test.YtfkeflcdadlmdaaGreatDoorD1
import Derived.Test.YtfkeflcdadlmdaaGreatDoorP2
import Derived.Test.YtfkeflcdadlmdaaGreatDoorS6
namespace Go.Proofs.YtfkeflcdadlmdaaGreatDoor
open Go Go.RowKit

theorem shl_BIG {m a K : Nat} (hm : m < 2 ^ a) (h : a + K ≤ 8191) : m * 2 ^ K < BIG := by
 obtain ⟨Q, hQ, hB⟩ : ∃ K, K = 8192 ∧ BIG = 2 ^ K := ⟨32 * 256, rfl, amG _ rfl⟩
 rw [hB]
 refine Nat.lt_of_lt_of_le (Nat.mul_lt_mul_of_pos_right hm (Nat.pow_pos (by decide))) ?_
 rw [← Nat.pow_add]
 exact Nat.pow_le_pow_right (by decide) (by omega)
theorem len_more (r : Nat) : decide ((0 : Int) < ((zI r).length : Int)) = decide (r ≠ 0) := by
 refine decide_eq_decide.2 ⟨fun h q => ?_, fun h => ?_⟩
 ·subst q; rw [aaJ] at h; simp at h
 ·rw [qN (Nat.pos_of_ne_zero h)]; simp only [List.length_cons]; omega
theorem num_blen {ds : List UInt8} (hd : Digs ds) (hl : ds.length ≤ 1100) : yQ (num ds) ≤ 3669 ∧ num ds < BIG := by
 have h1 := aeH hd
 have h2 := (acY (j := ds.length) (n := 0) (by omega) (by decide)).2.1
 refine ⟨?_, Nat.lt_trans h1 h2⟩
 have h3 := aeL (Nat.le_of_lt h1)
 have h4 := agB ds.length
 omega
theorem num_ten {ds : List UInt8} (hd : Digs ds) {j : Nat} (h : ds.length + j ≤ 400) : num ds * 10 ^ j < BIG ∧ 10 ^ j < BIG := by
 have h1 := aeH hd
 refine ⟨Nat.lt_of_le_of_lt ?_ (acY (j := ds.length + j) (n := 0) (by omega) (by decide)).2.1, (acY (j := j) (n := 0) (by omega) (by decide)).2.1⟩
 rw [Nat.pow_add]
 exact Nat.mul_le_mul_right _ (Nat.le_of_lt h1)
theorem bbW (m : Nat) (e : Int) : auK 0 ((yQ (10 ^ (-e).toNat) : Int) - (yQ m : Int) + 66) = ((aoF m e : Nat) : Int) := by
 unfold aoF
 simp only [auK]
 split <;> omega

set_option maxRecDepth 100000 in
theorem amT (neg : Bool) (ds : List UInt8) (e : Int) (hr : qG ds e = true) (hne : ds ≠ []) (hp : -330 ≤ ds.length + e ∧ ds.length + e ≤ 310) (H : Heap) : ACall Tryz.prog 117 [dA neg ds e] H (fun y H' => y = .int .u64 ((akC (num ds) e : Nat) : Int) ∧ H' = H) := by
 have hd := qP hr
 have hrl := aaQ hr
 have hlp := List.length_pos_iff.2 hne
 obtain ⟨hmb, hmB⟩ := num_blen hd hrl.1
 refine ACall.of_body Tryz.func117 rfl Tryz.ntmps117 Tryz.results117 rfl ?_
 refine .sr (.e rfl (yR (tm rfl) (.inr ⟨_, rfl⟩)) (.p rfl (zB (zJ 0)) (.nr (.p rfl (zG Tryz.underlying48 rfl Tryz.sizeOf9 (tm rfl)) (.p rfl (zF Tryz.isAgg9 (tm rfl)) (.cl rfl Tryz.call156 (evs1 rfl) (avE ds hne hd (by omega) _) (.mv rfl rfl (.p rfl (zD (tm rfl) rfl) ?_))))))))
 refine .p rfl (zD (tm rfl) rfl) (.as rfl rfl (.as rfl rfl (.ng (.seq (.sr (.p rfl (zG Tryz.underlying48 rfl Tryz.sizeOf3 (tm rfl)) (.p rfl (zF Tryz.isAgg3 (tm rfl)) (.p rfl (qH (tm rfl) zE) ?_))))))))
 refine .ng ?_
 refine AWP.cond (tm rfl) (fun hc21 => ?_) (fun hc21 => ?_)
 ·try simp only [decide_eq_true_eq] at hc21
  have hq := num_ten hd (j := e.toNat) (by omega)
  refine .sr (.p rfl (zG Tryz.underlying48 rfl Tryz.sizeOf3 (tm rfl)) (.p rfl (zF Tryz.isAgg3 (tm rfl)) (.cl rfl Tryz.call157 (.cons zE (evs1 rfl)) (pow10Z e.toNat e (by omega) (by omega) _) (.mv rfl rfl (.p rfl (zD (tm rfl) rfl) (.p rfl (zD (tm rfl) rfl) (.as rfl rfl (.as rfl rfl ?_))))))))
  refine .nr (.mv rfl rfl (.mv rfl rfl (.cl rfl Tryz.call158 (evs2 rfl rfl) (mulB _ _ hmB hq.2 hq.1 _) (.mv rfl rfl (.p rfl (zD (tm rfl) rfl) (.p rfl (zD (tm rfl) rfl) (.as rfl rfl (.nr ?_))))))))
  refine .mv rfl rfl (.cl rfl Tryz.call159 (.cons zK (.cons (tm rfl) (.cons zE (.cons zK .nil)))) (roundB _ hq.1 0 (by decide) false _) (.as rfl rfl (.ng (.ret ?_))))
  refine Next.rt ?_
  refine Ret.go (.cons (.tmp _ _ rfl) .nil) _ (Heap.le.refl _) ?_
  refine ⟨?_, rfl⟩
  unfold akC
  rw [if_pos (by omega)]; rfl
 ·try simp only [decide_eq_false_iff_not, Int.not_le] at hc21
  have htB := (acY (j := (-e).toNat) (n := 0) (by omega) (by decide)).2.1
  have htb := agB (-e).toNat
  have hkd : aoF (num ds) e = yQ (10 ^ (-e).toNat) + 66 - yQ (num ds) := rfl
  have hsB := shl_BIG (m := (num ds)) (a := yQ (num ds)) (K := aoF (num ds) e) (adX _) (by omega)
  refine .skip ?_
  refine Next.go ?_
  refine .sr (.p rfl (zG Tryz.underlying48 rfl Tryz.sizeOf3 (tm rfl)) (.p rfl (zF Tryz.isAgg3 (tm rfl)) (.p rfl (abB (tm rfl) (by omega)) (.cl rfl Tryz.call157 (.cons zE (evs1 rfl)) (pow10Z (-e).toNat (-e) (by omega) (by omega) _) (.mv rfl rfl (.p rfl (zD (tm rfl) rfl) (.p rfl (zD (tm rfl) rfl) (.as rfl rfl ?_))))))))
  refine .as rfl rfl (.nr (.mv rfl rfl (.cl rfl Tryz.call160 (evs1 rfl) (lenB _ htB _) (.mv rfl rfl (.cl rfl Tryz.call160 (evs1 rfl) (lenB _ hmB _) (.p rfl (zZ (tm rfl) (tm rfl) (by omega)) (.p rfl (zR (tm rfl) zE (by omega)) (.p rfl (abX zE (tm rfl)) ?_))))))))
  refine .as rfl rfl (.ng (.seq ?_))
  rw [bbW]
  refine .region (.mv rfl rfl (.mv rfl rfl (.cl rfl Tryz.call161 (evs2 rfl rfl) (shlQ _ (aoF (num ds) e) _ rfl hsB (by omega) _) (.mv rfl rfl (.p rfl (zD (tm rfl) rfl) (.p rfl (zD (tm rfl) rfl) (.as rfl rfl (.nr ?_))))))))
  refine .mv rfl rfl (.mv rfl rfl (.cl rfl Tryz.call162 (evs2 rfl rfl) (ajG _ _ hsB (abH _) htB _) (.mv rfl rfl (.p rfl (zD (tm rfl) rfl) (.p rfl (zD (tm rfl) rfl) (.p rfl (zD (tm rfl) rfl) (.as rfl rfl (.as rfl rfl ?_))))))))
  refine .as rfl rfl (.nr (.mv rfl rfl (.mv rfl rfl (.p rfl (abB (tm rfl) (by omega)) (.mv rfl rfl (.p rfl (zW Tryz.underlying170 (tm rfl)) (.p rfl (yF (tm rfl) zE) (.cl rfl Tryz.call159 (.cons zK (evs3 rfl rfl rfl)) (roundB _ (Nat.lt_of_le_of_lt (Nat.div_le_self _ _) hsB) _ (by constructor <;> omega) _ _) ?_))))))))
  refine .as rfl rfl (.ng (.ret ?_))
  refine Ret.go (.cons (.tmp _ _ rfl) .nil) _ (Heap.le.refl _) ?_
  refine ⟨?_, rfl⟩
  rw [len_more]
  unfold akC aqR
  rw [if_neg (by omega)]; rfl
section
open Go Go.RowKit

theorem zr237 : ∀ g, RelCells g [.int .i64 0, .int .i64 0, .int .i64 0, .int .i64 0] (Value.cells (Go.Value.agg #[Go.Value.int Go.IntKind.i64 0, Go.Value.int Go.IntKind.i64 0, Go.Value.int Go.IntKind.i64 0, Go.Value.int Go.IntKind.i64 0])) := fun g => RelL.cells (.cons (.int _ _) (.cons (.int _ _) (.cons (.int _ _) (.cons (.int _ _) .nil))))
theorem zr238 : ∀ g, RelCells g [.int .i64 0, .int .i64 0, .int .i64 0, .int .i64 0, .int .i64 0, .int .i64 0, .int .i64 0, .int .i64 0, .int .i64 0, .int .i64 0, .int .i64 0, .int .i64 0, .int .i64 0, .int .i64 0, .int .i64 0, .int .i64 0] (Value.cells (Go.Value.agg #[Go.Value.int Go.IntKind.i64 0, Go.Value.int Go.IntKind.i64 0, Go.Value.int Go.IntKind.i64 0, Go.Value.int Go.IntKind.i64 0, Go.Value.int Go.IntKind.i64 0, Go.Value.int Go.IntKind.i64 0, Go.Value.int Go.IntKind.i64 0, Go.Value.int Go.IntKind.i64 0, Go.Value.int Go.IntKind.i64 0, Go.Value.int Go.IntKind.i64 0, Go.Value.int Go.IntKind.i64 0, Go.Value.int Go.IntKind.i64 0, Go.Value.int Go.IntKind.i64 0, Go.Value.int Go.IntKind.i64 0, Go.Value.int Go.IntKind.i64 0, Go.Value.int Go.IntKind.i64 0])) := fun g => RelL.cells (.cons (.int _ _) (.cons (.int _ _) (.cons (.int _ _) (.cons (.int _ _) (.cons (.int _ _) (.cons (.int _ _) (.cons (.int _ _) (.cons (.int _ _) (.cons (.int _ _) (.cons (.int _ _) (.cons (.int _ _) (.cons (.int _ _) (.cons (.int _ _) (.cons (.int _ _) (.cons (.int _ _) (.cons (.int _ _) .nil))))))))))))))))
theorem zr268 : ∀ g, RelCells g [.int .i64 0, .int .i64 0, .int .i64 0, .int .i64 0, .int .i64 0] (Value.cells (Go.Value.agg #[Go.Value.int Go.IntKind.i64 0, Go.Value.int Go.IntKind.i64 0, Go.Value.int Go.IntKind.i64 0, Go.Value.int Go.IntKind.i64 0, Go.Value.int Go.IntKind.i64 0])) := fun g => RelL.cells (.cons (.int _ _) (.cons (.int _ _) (.cons (.int _ _) (.cons (.int _ _) (.cons (.int _ _) .nil)))))

def ahM (k : Nat) : Nat := if k = 0 then 0 else if k ≤ 2 then 1 else if k = 3 then 2 else 3
theorem awN (k : Nat) : ahM k < 4 := by
 unfold ahM; repeat' split
 all_goals omega
theorem kind_tab {k : Nat} (h : k ≤ 4) : ([.int .i64 0, .int .i64 1, .int .i64 1, .int .i64 2, .int .i64 3] : List AV)[((k : Nat) : Int).toNat]? = some (.int .i64 ((ahM k : Nat) : Int)) := by
 rcases (by omega : k = 0 ∨ k = 1 ∨ k = 2 ∨ k = 3 ∨ k = 4) with rfl | rfl | rfl | rfl | rfl <;> rfl
def azE (p q : Nat) : Int := (([[6, 6, 1, 1], [6, 0, 5, 1], [1, 5, 5, 1], [1, 1, 1, 1]] : List (List Int)).getD p []).getD q 0
theorem muls_tab {p q : Nat} (hp : p < 4) (hq : q < 4) : ((([.int .i64 6, .int .i64 6, .int .i64 1, .int .i64 1, .int .i64 6, .int .i64 0, .int .i64 5, .int .i64 1, .int .i64 1, .int .i64 5, .int .i64 5, .int .i64 1, .int .i64 1, .int .i64 1, .int .i64 1, .int .i64 1] : List AV).drop (((p : Nat) : Int).toNat * 4)).drop (((q : Nat) : Int).toNat * 1))[0]? = some (.int .i64 (azE p q)) := by
 rcases (by omega : p = 0 ∨ p = 1 ∨ p = 2 ∨ p = 3) with rfl | rfl | rfl | rfl <;> rcases (by omega : q = 0 ∨ q = 1 ∨ q = 2 ∨ q = 3) with rfl | rfl | rfl | rfl <;> rfl
def alI (a b : Nat) : Bool := decide (((a / 2 ^ 63 : Nat) : Int) ≠ ((b / 2 ^ 63 : Nat) : Int))
def agR (a b : Nat) : Nat :=
 if azE (ahM (yY a)) (ahM (yY b)) = 1 then 9221120237041090560
 else if azE (ahM (yY a)) (ahM (yY b)) = 5 then (if alI a b = true then 18442240474082181120 else 9218868437227405312)
 else yM (alI a b) (aeP a * aeP b) (aiF a + aiF b) false
section
variable {P : Program} {env : Env} {H : Heap} {dst : Option Tmp} {ty : TypeId} {pos : String} {af : Array Edge} {gd : Option (Nat × Bool)}
theorem ayS {T : TypeId} {x : Operand} {cs : List AV} {c : AV} (ha : ∀ w, (isAgg T).run P w = .ok false w) (hx : Ev env x (.iptr cs)) (hc : cs[0]? = some c) : APure P ⟨dst, .load T x, ty, pos, af, gd⟩ env c := by
 match cs, hc with
 | d :: ds, hc =>
  obtain rfl : d = c := by simpa using hc
  exact zF ha hx
end

set_option maxRecDepth 100000 in
theorem amA (x : Nat) (hx : x < 18446744073709551616) (H : Heap) : ACall Tryz.prog 196 [.int .u64 (x : Int)] H (fun y H' => y = .int .i64 ((ahM (yY x) : Nat) : Int) ∧ H' = H) := by
 have hk := awM x
 refine ACall.of_body Tryz.func196 rfl Tryz.ntmps196 Tryz.results196 rfl ?_
 refine .sr (.p rfl (zB zE) (.nr (.p rfl (acH Tryz.underlying268 Tryz.sizeOf3 Tryz.zeroValue268 (zr268) (.cons zE (.inl rfl) (.cons zE (.inl rfl) (.cons zE (.inl rfl) (.cons zE (.inl rfl) (.cons zE (.inl rfl) .nil))))) rfl) (.mv rfl rfl (.cl rfl Tryz.call36 (evs1 rfl) (afY _ (by assumption) _) (.p rfl (atR Tryz.underlying268 Tryz.isAgg3 Tryz.sizeOf3 (tm rfl) (tm rfl) (by omega) (by omega) (kind_tab hk)) (.as rfl rfl (.ng ?_))))))))
 refine .ret ?_
 refine Ret.go (.cons (.tmp _ _ rfl) .nil) _ (Heap.le.refl _) ?_
 exact ⟨rfl, rfl⟩

set_option maxRecDepth 100000 in
theorem azD (a b : Nat) (ha : a < 18446744073709551616) (hb : b < 18446744073709551616) (H : Heap) : ACall Tryz.prog 149 [.int .u64 (a : Int), .int .u64 (b : Int)] H (fun y H' => y = .int .i64 (azE (ahM (yY a)) (ahM (yY b))) ∧ H' = H) := by
 have hka := awN (yY a)
 have hkb := awN (yY b)
 refine ACall.of_body Tryz.func149 rfl Tryz.ntmps149 Tryz.results149 rfl ?_
 refine .sr (.p rfl (zB zE) (.nr (.p rfl (acH Tryz.underlying237 Tryz.sizeOf3 Tryz.zeroValue237 (zr237) (.cons zE (.inl rfl) (.cons zE (.inl rfl) (.cons zE (.inl rfl) (.cons zE (.inl rfl) .nil)))) rfl) (.p rfl (acH Tryz.underlying237 Tryz.sizeOf3 Tryz.zeroValue237 (zr237) (.cons zE (.inl rfl) (.cons zE (.inl rfl) (.cons zE (.inl rfl) (.cons zE (.inl rfl) .nil)))) rfl) (.p rfl (acH Tryz.underlying237 Tryz.sizeOf3 Tryz.zeroValue237 (zr237) (.cons zE (.inl rfl) (.cons zE (.inl rfl) (.cons zE (.inl rfl) (.cons zE (.inl rfl) .nil)))) rfl) (.p rfl (acH Tryz.underlying237 Tryz.sizeOf3 Tryz.zeroValue237 (zr237) (.cons zE (.inl rfl) (.cons zE (.inl rfl) (.cons zE (.inl rfl) (.cons zE (.inl rfl) .nil)))) rfl) ?_))))))
 refine .p rfl (acH Tryz.underlying238 Tryz.sizeOf237 Tryz.zeroValue238 (zr238) (.cons (tm rfl) (.inr ⟨_, rfl⟩) (.cons (tm rfl) (.inr ⟨_, rfl⟩) (.cons (tm rfl) (.inr ⟨_, rfl⟩) (.cons (tm rfl) (.inr ⟨_, rfl⟩) .nil)))) rfl) ?_
 refine .s rfl (zT Tryz.zeroValue238 (zr238)) ?_
 rintro _ _ ⟨b5, hb5, rfl, hH⟩
 obtain rfl := hH.symm
 refine .e0 (zH Tryz.sizeOf238 (tm rfl) (tm rfl) rfl rfl (.inr ⟨_, rfl⟩) (Heap.objs_set_same _ _ _) (Nat.le_of_ble_eq_true rfl)) ?_
 try first | rw [Heap.set_set] | rw [Heap.set_under (by assumption)]
 refine .ng ?_
 refine AWP.frz (t := 5) rfl (hb5) ?_
 refine .seq ?_
 refine AWP.draw [(0, true), (1, true), (2, true), (3, true), (4, true), (5, true), (6, true), (7, true)] rfl (by decide +kernel) ?_
 refine .p rfl rfl (zC (tm rfl)) ?_
 refine APlan.f rfl rfl (fun _ => zP Tryz.call196 (evs1 rfl) (amA _ (by assumption) _)) ?_
 refine .p rfl rfl (zC (tm rfl)) ?_
 refine APlan.f rfl rfl (fun _ => zP Tryz.call196 (evs1 rfl) (amA _ (by assumption) _)) ?_
 refine .p rfl rfl (alB Tryz.underlying238 Tryz.sizeOf237 (tm rfl) (tm rfl) (by omega) (by omega)) (.p rfl rfl (alB Tryz.underlying237 Tryz.sizeOf3 (tm rfl) (tm rfl) (by omega) (by omega)) (.p rfl rfl (ayS Tryz.isAgg3 (tm rfl) (muls_tab hka hkb)) (.p rfl rfl (zB (tm rfl)) (.nil ?_))))
 refine Next.go ?_
 refine .ret ?_
 refine Ret.go (.cons (.tmp _ _ rfl) .nil) _ (Heap.le.refl _) ?_
 exact ⟨rfl, rfl⟩

theorem wMul2 (x y : Nat) (hx : x < 18446744073709551616) (hy : y < 18446744073709551616) (H : Heap) : ACall Tryz.prog 150 [.int .u64 (x : Int), .int .u64 (y : Int)] H (fun z H' => z = u2 (x * y) ∧ H' = H) := ahX x y hx hy H
theorem part_mul {a b : Nat} : aeP a * aeP b < M2 := by
 have h1 := ahH a
 have h2 := ahH b
 have h3 : aeP a * aeP b ≤ 18014398509481984 * 18014398509481984 := Nat.mul_le_mul (by omega) (by omega)
 exact Nat.lt_of_le_of_lt h3 (by decide +kernel)

set_option maxRecDepth 100000 in
theorem anU (a b : Nat) (ha : a < 18446744073709551616) (hb : b < 18446744073709551616) (H : Heap) : ACall Tryz.prog 115 [.int .u64 (a : Int), .int .u64 (b : Int)] H (fun y H' => y = .int .u64 ((agR a b : Nat) : Int) ∧ H' = H) := by
 have hpa := agN a
 have hpb := agN b
 have hma := ahH a
 have hmb := ahH b
 refine ACall.of_body Tryz.func115 rfl Tryz.ntmps115 Tryz.results115 rfl ?_
 refine .sr (.p rfl (zB (zJ 0)) (.nr (.mv rfl rfl (.p rfl (yP (tm rfl) (zJ 63) (by assumption)) (.mv rfl rfl (.p rfl (yP (tm rfl) (zJ 63) (by assumption)) (.p rfl (aaO (tm rfl) (tm rfl)) (.as rfl rfl ?_))))))))
 refine .ng (.seq (.sr (.mv rfl rfl (.mv rfl rfl (.cl rfl Tryz.call149 (evs2 rfl rfl) (azD _ _ (by assumption) (by assumption) _) (.ng (.block (.sr ?_))))))))
 refine .p rfl (yA (tm rfl) zE) (.as rfl rfl (.ng ?_))
 refine AWP.cond (tm rfl) (fun hc20 => ?_) (fun hc20 => ?_)
 ·try simp only [decide_eq_true_eq] at hc20
  refine .sr (.p rfl (zB (zJ 9221120237041090560)) (.ng (.ret ?_)))
  refine Block.rt ?_
  refine Next.rt ?_
  refine Ret.go (.cons (.tmp _ _ rfl) .nil) _ (Heap.le.refl _) ?_
  refine ⟨?_, rfl⟩
  unfold agR
  rw [if_pos hc20]; rfl
 ·try simp only [decide_eq_false_iff_not] at hc20
  refine .sr (.p rfl (yA (tm rfl) zE) (.as rfl rfl (.ng ?_)))
  refine AWP.cond (tm rfl) (fun hc22 => ?_) (fun hc22 => ?_)
  ·try simp only [decide_eq_true_eq] at hc22
   refine .seq (.sr (.mv rfl rfl (.ng ?_)))
   refine AWP.cond (tm rfl) (fun hc24 => ?_) (fun hc24 => ?_)
   ·try simp only [decide_eq_true_eq, ne_eq] at hc24
    refine .sr (.p rfl (zB (zJ 18442240474082181120)) (.ng (.ret ?_)))
    refine Next.rt ?_
    refine Block.rt ?_
    refine Next.rt ?_
    refine Ret.go (.cons (.tmp _ _ rfl) .nil) _ (Heap.le.refl _) ?_
    refine ⟨?_, rfl⟩
    have hmn : alI a b = true := decide_eq_true hc24
    unfold agR
    rw [if_neg hc20, if_pos hc22, if_pos hmn]; rfl
   ·try simp only [decide_eq_false_iff_not, ne_eq, Decidable.not_not] at hc24
    refine .skip ?_
    refine Next.go ?_
    refine .sr (.p rfl (zB (zJ 9218868437227405312)) (.ng (.ret ?_)))
    refine Block.rt ?_
    refine Next.rt ?_
    refine Ret.go (.cons (.tmp _ _ rfl) .nil) _ (Heap.le.refl _) ?_
    refine ⟨?_, rfl⟩
    unfold agR
    rw [if_neg hc20, if_pos hc22, if_neg (by unfold alI; simpa using hc24)]; rfl
  ·try simp only [decide_eq_false_iff_not] at hc22
   refine .skip ?_
   refine Block.go ?_
   refine Next.go ?_
   refine .sr (.mv rfl rfl (.cl rfl Tryz.call120 (evs1 rfl) (agT a ha _) (.mv rfl rfl (.p rfl (zD (tm rfl) rfl) (.p rfl (zD (tm rfl) rfl) (.p rfl (zD (tm rfl) rfl) (.as rfl rfl (.as rfl rfl ?_))))))))
   refine .as rfl rfl (.nr (.mv rfl rfl (.cl rfl Tryz.call120 (evs1 rfl) (agT b hb _) (.mv rfl rfl (.p rfl (zD (tm rfl) rfl) (.p rfl (zD (tm rfl) rfl) (.p rfl (zD (tm rfl) rfl) (.as rfl rfl ?_))))))))
   refine .as rfl rfl (.as rfl rfl (.nr (.mv rfl rfl (.mv rfl rfl (.mv rfl rfl (.cl rfl Tryz.call150 (evs2 rfl rfl) (wMul2 _ _ (by omega) (by omega) _) (.mv rfl rfl (.mv rfl rfl ?_))))))))
   refine .p rfl (zR (tm rfl) (tm rfl) (by omega)) (.cl rfl Tryz.call147 (.cons (tm rfl) (.cons (tm rfl) (.cons (tm rfl) (.cons zK .nil)))) (aiS (alI a b) (aeP a * aeP b) part_mul _ (by constructor <;> omega) false _) (.as rfl rfl (.ng (.ret ?_))))
   refine Ret.go (.cons (.tmp _ _ rfl) .nil) _ (Heap.le.refl _) ?_
   refine ⟨?_, rfl⟩
   unfold agR
   rw [if_neg hc20, if_neg hc22]; rfl

set_option maxRecDepth 100000 in
theorem axV (v : Nat) (hv : v < 9223372036854775808) (H : Heap) : ACall Tryz.prog 148 [.int .i64 (v : Int)] H (fun y H' => y = .int .u64 (v : Int) ∧ H' = H) := by
 refine ACall.of_body Tryz.func148 rfl Tryz.ntmps148 Tryz.results148 rfl ?_
 refine .sr (.p rfl (zB (zJ 0)) (.ng (.seq (.sr (.mv rfl rfl (.p rfl (zY (tm rfl) zE) (.ng ?_)))))))
 refine AWP.cond_false (tm rfl) (by exact decide_eq_false (by omega)) ?_
 refine .skip ?_
 refine Next.go ?_
 refine .sr (.mv rfl rfl (.p rfl (yD Tryz.underlying3 Tryz.underlying30 (tm rfl) (wrapN64 (by omega))) (.as rfl rfl (.ng (.ret ?_)))))
 refine Ret.go (.cons (.tmp _ _ rfl) .nil) _ (Heap.le.refl _) ?_
 exact ⟨rfl, rfl⟩

set_option maxRecDepth 100000 in
theorem aiT (v : Nat) (hv : v < 9223372036854775808) (H : Heap) : ACall Tryz.prog 114 [.int .i64 (v : Int)] H (fun y H' => y = .int .u64 ((yM false v 0 false : Nat) : Int) ∧ H' = H) := by
 refine ACall.of_body Tryz.func114 rfl Tryz.ntmps114 Tryz.results114 rfl ?_
 refine .sr (.p rfl (zB (zJ 0)) (.nr (.mv rfl rfl (.p rfl (zY (tm rfl) zE) (.mv rfl rfl (.cl rfl Tryz.call148 (evs1 rfl) (axV v hv _) (.p rfl (yN [(0, 1), (1, 1)] Tryz.underlying122 Tryz.zeroValue122 (zr122) rfl (pl122 _ Tryz.underlying122) (.cons (tm rfl) (.inl rfl) .nil) rfl) ?_)))))))
 refine .cl rfl Tryz.call147 (.cons (tm rfl) (.cons (tm rfl) (.cons zE (.cons zK .nil)))) ((by have h := fun H => aiS (decide ((v : Int) < 0)) v (Nat.lt_trans hv (by decide +kernel)) 0 (by decide) false H; rw [u2_low (Nat.lt_trans hv (by decide +kernel))] at h; exact h _)) ?_
 refine .as rfl rfl (.ng (.ret ?_))
 refine Ret.go (.cons (.tmp _ _ rfl) .nil) _ (Heap.le.refl _) ?_
 refine ⟨?_, rfl⟩
 rw [show decide ((v : Int) < 0) = false from decide_eq_false (by omega)]; rfl

end
end Go.Proofs.YtfkeflcdadlmdaaGreatDoor
