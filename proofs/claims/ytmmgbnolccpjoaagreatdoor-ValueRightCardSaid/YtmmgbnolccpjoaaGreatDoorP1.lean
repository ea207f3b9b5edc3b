import Derived.Test.YtmmgbnolccpjoaaGreatDoorYd
import Derived.Test.YtmmgbnolccpjoaaGreatDoorSsk
import Derived.Test.YtmmgbnolccpjoaaGreatDoorX1
import Derived.Laws.Externs
import Derived.Test.YtmmgbnolccpjoaaGreatDoorS4
namespace Go.Proofs.YtmmgbnolccpjoaaGreatDoor
open Go Go.RowKit

def allD : List UInt8 := [48, 49, 50, 51, 52, 53, 54, 55, 56, 57]
theorem allD_mem {b : UInt8} (h : isD b) : allD.contains b = true := by
 have h1 : b = UInt8.ofNat b.toNat := by simp
 obtain ⟨h2, h3⟩ := h
 rw [h1]
 have : ∀ k, 48 ≤ k → k ≤ 57 → allD.contains (UInt8.ofNat k) = true := by
  intro k a b
  have : k = 48 ∨ k = 49 ∨ k = 50 ∨ k = 51 ∨ k = 52 ∨ k = 53 ∨ k = 54 ∨ k = 55 ∨ k = 56 ∨ k = 57 := by omega
  rcases this with rfl | rfl | rfl | rfl | rfl | rfl | rfl | rfl | rfl | rfl <;> rfl
 exact this _ h2 h3
theorem aqE {α : Type} {l : List α} {q : α → Bool} (h : ∀ x, x ∈ l → q x = true) : l.dropWhile q = [] := by
 induction l with
 | nil => rfl
 | cons x l ih => rw [List.dropWhile_cons, if_pos (h x (by simp))]; exact ih fun y hy => h y (by simp [hy])
theorem bcS {s : List UInt8} (h : Digs s) : Lib.trimS s allD = [] := by
 have h1 : s.reverse.dropWhile (allD.contains ·) = [] := aqE fun x hx => allD_mem (h x (by simpa using hx))
 show ((s.reverse.dropWhile (allD.contains ·)).reverse.dropWhile (allD.contains ·)) = []
 rw [h1]; rfl
theorem asF : ∀ s : List UInt8, num (s.dropWhile (· == 48)) = num s
 | [] => rfl
 | c :: r => by
  rw [List.dropWhile_cons]
  split
  ·rename_i h
   have h1 : c = 48 := by simpa using h
   rw [asF r, axM, h1]; simp
  ·rfl
theorem beR {l : List UInt8} (h : Digs l) (hl : l.length ≤ 2400) : num l < BIG := by
 have h1 := agA h
 obtain ⟨a, ha, h3⟩ : ∃ a : Nat, a = 2400 ∧ 10 ^ a < BIG := ⟨2400, rfl, by unfold BIG; decide +kernel⟩
 have h2 : 10 ^ l.length ≤ 10 ^ a := Nat.pow_le_pow_right (by decide) (by omega)
 exact Nat.lt_of_lt_of_le h1 (Nat.le_trans h2 (Nat.le_of_lt h3))
theorem avH {s p t : List UInt8} {n : Nat} (h : Digs s) (hl : s.length ≤ 2000) (e : s = p ++ t) (hn : n = min 9 t.length) (ht : 0 < t.length) : t.take n ≠ [] ∧ Digs (t.take n) ∧ (t.take n).length ≤ 18 ∧ 10 ^ n < BIG ∧ num p < BIG ∧ num p * 10 ^ n < BIG ∧ num p * 10 ^ n + num (t.take n) < BIG ∧ num (p ++ t.take n) = num p * 10 ^ n + num (t.take n) ∧ s = (p ++ t.take n) ++ t.drop n ∧ num (t.take n) < 1000000000 ∧ n ≤ t.length ∧ n ≤ 9 ∧ 0 < n := by
 have hlen : (t.take n).length = n := by rw [List.length_take]; omega
 have hp : Digs p := fun b hb => h b (by rw [e]; simp [hb])
 have htd : Digs t := fun b hb => h b (by rw [e]; simp [hb])
 have hps : p.length + t.length ≤ 2000 := by rw [e, List.length_append] at hl; exact hl
 have hq : num (p ++ t.take n) = num p * 10 ^ n + num (t.take n) := by rw [baC, hlen]
 have hd2 : Digs (p ++ t.take n) := fun b hb => by
  rcases List.mem_append.1 hb with h1 | h1
  ·exact hp b h1
  ·exact htd.take n b h1
 have hB := beR hd2 (by rw [List.length_append, hlen]; omega)
 rw [hq] at hB
 have hpB : 10 ^ n < BIG := by
  have h2 : 10 ^ n ≤ 10 ^ 9 := Nat.pow_le_pow_right (by decide) (by omega)
  exact Nat.lt_of_le_of_lt h2 (by unfold BIG; decide +kernel)
 have hn9 := agA (htd.take n)
 rw [hlen] at hn9
 have h9 : 10 ^ n ≤ 10 ^ 9 := Nat.pow_le_pow_right (by decide) (by omega)
 refine ⟨fun h0 => ?_, htd.take n, by omega, hpB, beR hp (by omega), by omega, hB, hq, by rw [List.append_assoc, List.take_append_drop]; exact e, by omega, by omega, by omega, by omega⟩
 rw [h0] at hlen
 simp at hlen
 omega

def beJ (s0 : List UInt8) (H : Heap) : Nat → Env → Heap → Prop := fun k env H1 => ∃ p t : List UInt8, s0 = p ++ t ∧ env = [(0, .str t), (4, aaP (num p)), (5, .int .i64 0)] ∧ H = H1 ∧ k = t.length

set_option maxRecDepth 100000 in
theorem awN (s : List UInt8) (hne : s ≠ []) (hd : Digs s) (hl : s.length ≤ 2000) (H : Heap) : ACall Tryz.prog 267 [.str s] H (fun y H' => y = .tuple [aaP (num s), .int .i64 0] ∧ H' = H) := by
 have hd0 := hd.dropWhile (· == 48)
 have hl0 : (s.dropWhile (· == 48)).length ≤ 2000 := Nat.le_trans (List.dropWhile_sublist _).length_le hl
 have hnz := asF s
 refine ACall.of_body Tryz.func267 rfl Tryz.ntmps267 Tryz.results267 rfl ?_
 iterate 2 refine AX ?_
 refine .p rfl (zD (aaO (sz := 1) (tl := .shared))) ?_
 iterate 4 refine AX ?_
 refine AWP.seqTo 17 (.bool (false)) [0, 2, 3] ?_ ?_
 ·-- region 1
  iterate 4 refine AX ?_
  refine zH (t := 13) rfl (fun hg13 => ?_) (fun hg13 => ?_)
  ·iterate 5 refine AX ?_
   exact ⟨rfl, zS rfl (by (simp at hg13; exact absurd hg13 hne)) sX, rfl⟩
  ·refine AX ?_
   refine .gs rfl rfl rfl (by assumption) (zC Tryz.call259 (.cons (tm rfl) (.cons (zM rfl) .nil)) (trimSetA _ (by decide) (by decide) _ _)) ?_
   rintro _ _ ⟨rfl, hH⟩
   obtain rfl := hH.symm
   iterate 3 refine AX ?_
   exact ⟨rfl, zS rfl (by (rw [show Lib.trimS s [48, 49, 50, 51, 52, 53, 54, 55, 56, 57] = [] from bcS hd]; rfl)) sX, rfl⟩
 ·refine AWP.sub [(17, _), (0, _), (2, _), (3, _)] sX ?_
  refine AWP.cond_false (tm rfl) (by rfl) ?_
  iterate 5 refine AX ?_
  refine .cl rfl Tryz.call163 (.cons (tm rfl) (.cons (zM rfl) .nil)) (trimLeftA 48 (by decide) _ _) ?_
  iterate 5 refine AX ?_
  generalize s.dropWhile (· == 48) = s0 at *
  iterate 6 refine AX ?_
  refine AWP.cx rfl (fun hc22 => ?_) (fun hc22 => ?_)
  ·omega
  ·iterate 4 refine AX ?_
   refine .p rfl (zD (aaO (sz := 1) (tl := .shared))) ?_
   iterate 9 refine AX ?_
   refine AWP.loopW (beJ s0 H) (s0.length) ⟨[], s0, rfl, rfl, rfl, rfl⟩ sX (Heap.le.refl _) ?_
   rintro _ _ _ ⟨p, t, he, rfl, rfl, hk⟩
   iterate 8 refine AX ?_
   refine AWP.cx rfl (fun hc25 => ?_) (fun hc25 => ?_)
   ·iterate 3 refine AX ?_
    refine AWP.seqToL [(6, .int .i64 ((min 9 t.length : Nat) : Int))] [0, 4, 5] ?_ ?_
    ·-- region 9
     iterate 6 refine AX ?_
     exact ⟨rfl, (zZ rfl (by congr 1; simp only [bcH]; first | omega | (split <;> omega)) sX), rfl⟩
    ·refine AWP.sub [(6, _), (0, _), (4, _), (5, _)] sX ?_
     generalize hn : min 9 t.length = n
     obtain ⟨hq1, hq2, hq3, hpB, hB1, hB2, hB3, hnum, hsplit, hn9, hnt, hn99, hn0⟩ := avH hd0 hl0 he hn.symm (by omega)
     iterate 5 refine AX ?_
     refine .cl rfl Tryz.call257 (evs1 rfl) (atoiA (t.take n) hq1 hq2 hq3 _) ?_
     iterate 10 refine AX ?_
     refine .cl rfl Tryz.call268 (.cons zI (evs1 rfl)) (amL 10 n (by decide) (by decide) (by omega) hpB _) ?_
     iterate 12 refine AX ?_
     refine .cl rfl Tryz.call269 (evs2 rfl rfl) (mulB _ _ hB1 hpB hB2 _) ?_
     iterate 13 refine AX ?_
     refine AWP.cond_true (tm rfl) (by rfl) ?_
     iterate 4 refine AX ?_
     refine .cl rfl Tryz.call230 (evs1 rfl) (ajY _ (by omega) _) (.cl rfl Tryz.call309 (evs2 rfl rfl) (addB _ _ hB3 _) ?_)
     iterate 14 refine AX ?_
     refine AWP.cond_false (tm rfl) (by rfl) ?_
     iterate 10 refine AX ?_
     have hdl : (t.drop n).length = t.length - n := List.length_drop
     refine Round.mk (J := beJ s0 H) ⟨p ++ t.take n, t.drop n, hsplit, rfl, rfl, rfl⟩ (zP rfl (zZ rfl (by rw [hnum]) (zP rfl qM))) (Heap.le.refl _) (by omega)
   ·iterate 13 refine AX ?_
    refine Ret.go (.cons (.tmp _ _ rfl) (.cons (.tmp _ _ rfl) .nil)) _ (Heap.le.refl _) ?_
    refine ⟨?_, rfl⟩
    have ht : t = [] := List.length_eq_zero_iff.1 (by omega)
    rw [ht, List.append_nil] at he
    rw [← hnz, he]; rfl
section
open Go Go.RowKit Go.Shelf

theorem bgV {x : Nat} (h : 0 < x) : yE x = 1 + yE (x / 2) := by
 rcases Nat.lt_or_ge x 2 with h1 | h1
 ·have : x = 1 := by omega
  subst this; rfl
 ·rw [aeH (n := x) (k := 1) (m := x / 2) (by omega) (by rw [Nat.pow_one])]
theorem aoO : ∀ (f x : Nat), x < 2 ^ f → Lib.bitLenAux f x = yE x
 | 0, x, h => by
  have : x = 0 := by simpa using h
  subst this; rfl
 | f + 1, x, h => by
  unfold Lib.bitLenAux
  split
  ·rename_i h0; subst h0; rfl
  ·rw [aoO f (x / 2) (by rw [Nat.pow_succ] at h; omega), bgV (x := x) (by omega)]
theorem len64A (x : Nat) (hx : x < 18446744073709551616) (H : Heap) : ACall Tryz.prog 182 [.int .u64 (x : Int)] H (fun y H' => y = .int .i64 (yE x : Int) ∧ H' = H) := by
 refine ACall.lib _ fun g vs w k st => ?_
 obtain ⟨v, rfl, hv⟩ := relvs1 k
 cases hv
 refine (Tryz.bits_Len64 (x : Int) w (by omega) (by omega)).mono ?_
 rintro e w' ⟨rfl, rfl⟩
 refine ⟨_, rfl, ?_, Below.refl _ _⟩
 rw [Int.toNat_natCast, Lib.bitLen, aoO 64 x hx]
 exact .int _ _
theorem mul64A (x y : Nat) (hx : x < 18446744073709551616) (hy : y < 18446744073709551616) (H : Heap) : ACall Tryz.prog 245 [.int .u64 (x : Int), .int .u64 (y : Int)] H (fun z H' => z = .tuple [.int .u64 ((x * y / 18446744073709551616 : Nat) : Int), .int .u64 ((x * y % 18446744073709551616 : Nat) : Int)] ∧ H' = H) := by
 refine ACall.lib _ fun g vs w k st => ?_
 obtain ⟨v, u, rfl, hv, hu⟩ := relvs2 k
 cases hv; cases hu
 refine (Tryz.bits_Mul64 x y hx hy w).mono ?_
 rintro e w' ⟨rfl, rfl⟩
 refine ⟨_, rfl, .tuple _ _ rfl (fun i c v hc hv => ?_), Below.refl _ _⟩
 match i with
 | 0 => cases hc; cases hv; exact .int _ _
 | 1 => cases hc; cases hv; exact .int _ _
 | i + 2 => simp at hc
theorem ext291 : IsExt Tryz.prog 291 add64Entry := ⟨_, Tryz.func291, by kernel_rfl, by kernel_rfl, by kernel_rfl, by kernel_rfl⟩
theorem atA {x y c : Nat} (hc : c ≤ 1) : ∀ g vs w, RelVs g [.int .u64 (x : Int), .int .u64 (y : Int), .int .u64 (c : Int)] vs → ∃ v, (add64Entry vs.toArray).run Tryz.prog w = .ok v w ∧ RelV g (.tuple [.int .u64 (((x + y + c) % 18446744073709551616 : Nat) : Int), .int .u64 (((x + y + c) / 18446744073709551616 : Nat) : Int)]) v := by
 intro g vs w hr
 obtain ⟨v, u, z, rfl, h1, h2, h3⟩ := relvs3 hr
 cases h1; cases h2; cases h3
 have hrun := run_add64 (P := Tryz.prog) (x : Int) (y : Int) (c : Int) (by omega) (by omega) (by omega) (by omega) w
 refine ⟨_, hrun, .tuple _ _ rfl (fun i c v hc hv => ?_)⟩
 match i with
 | 0 => cases hc; cases hv; exact .int _ _
 | 1 => cases hc; cases hv; exact .int _ _
 | i + 2 => simp at hc
end
def w2 (h l : Nat) : AV := .agg [.int .u64 (h : Int), .int .u64 (l : Int)]
theorem blen_two {h l : Nat} (hl : l < 18446744073709551616) (h0 : 0 < h) : yE (h * 18446744073709551616 + l) = 64 + yE h := by
 have e : (18446744073709551616 : Nat) = 2 ^ 64 := by decide
 rw [aeH (n := h * 18446744073709551616 + l) (k := 64) (m := h) (by rw [← e]; exact Nat.le_trans (Nat.le_mul_of_pos_left _ h0) (Nat.le_add_right _ _)) (by rw [← e, Nat.add_comm, Nat.add_mul_div_right _ _ (by decide), Nat.div_eq_of_lt hl, Nat.zero_add])]
def w3 (h m l : Nat) : AV := .agg [.int .u64 (h : Int), .int .u64 (m : Int), .int .u64 (l : Int)]

theorem zr149 : ∀ g, RelCells g [.int .u64 0, .int .u64 0] (Value.cells (Go.Value.agg #[Go.Value.int Go.IntKind.u64 0, Go.Value.int Go.IntKind.u64 0])) := fun g => RelL.cells (.cons (.int _ _) (.cons (.int _ _) .nil))
theorem pl149 (fs : Array Field) (hfs : Tryz.prog.underlying 149 = some (.struct fs)) : ∀ (i : Nat) f p, fs[i]? = some f → [(0, 1), (1, 1)][i]? = some p → ∀ w, (sizeOf f.type).run Tryz.prog w = .ok p.2 w := by
 have e := (Option.some.inj (hfs.symm.trans Tryz.underlying149))
 cases e
 intro i f p hf hp w
 match i with
 | 0 => cases hf; cases hp; exact Tryz.sizeOf22 w
 | 1 => cases hf; cases hp; exact Tryz.sizeOf22 w
 | i + 2 => simp at hp
theorem zr247 : ∀ g, RelCells g [.int .u64 0, .int .u64 0, .int .u64 0] (Value.cells (Go.Value.agg #[Go.Value.int Go.IntKind.u64 0, Go.Value.int Go.IntKind.u64 0, Go.Value.int Go.IntKind.u64 0])) := fun g => RelL.cells (.cons (.int _ _) (.cons (.int _ _) (.cons (.int _ _) .nil)))
theorem pl247 (fs : Array Field) (hfs : Tryz.prog.underlying 247 = some (.struct fs)) : ∀ (i : Nat) f p, fs[i]? = some f → [(0, 1), (1, 1), (2, 1)][i]? = some p → ∀ w, (sizeOf f.type).run Tryz.prog w = .ok p.2 w := by
 have e := (Option.some.inj (hfs.symm.trans Tryz.underlying247))
 cases e
 intro i f p hf hp w
 match i with
 | 0 => cases hf; cases hp; exact Tryz.sizeOf22 w
 | 1 => cases hf; cases hp; exact Tryz.sizeOf22 w
 | 2 => cases hf; cases hp; exact Tryz.sizeOf22 w
 | i + 3 => simp at hp

set_option maxRecDepth 100000 in
theorem ayQ (h l : Nat) (hh : h < 18446744073709551616) (hl : l < 18446744073709551616) (H : Heap) : ACall Tryz.prog 185 [w2 h l] H (fun y H' => y = .int .i64 (yE (h * 18446744073709551616 + l) : Int) ∧ H' = H) := by
 have hb := (yW (n := h) (k := 64)).2 (Nat.lt_of_lt_of_eq hh (by decide))
 refine ACall.of_body Tryz.func185 rfl Tryz.ntmps185 Tryz.results185 rfl ?_
 iterate 2 refine AX ?_
 refine .e rfl (zO (tm rfl) (.inr ⟨_, rfl⟩)) ?_
 iterate 6 refine AX ?_
 refine .p rfl (zA Tryz.underlying149 rfl Tryz.sizeOf22 (tm rfl)) ?_
 refine AX ?_
 refine .p rfl (yQ (tm rfl) (zE 0)) ?_
 iterate 2 refine AX ?_
 refine AWP.cx rfl (fun hc5 => ?_) (fun hc5 => ?_)
 ·iterate 2 refine AX ?_
  refine .p rfl (zA Tryz.underlying149 rfl Tryz.sizeOf22 (tm rfl)) ?_
  refine AX ?_
  refine .cl rfl Tryz.call182 (evs1 rfl) (len64A _ (by assumption) _) ?_
  iterate 6 refine AX ?_
  refine Ret.go (.cons (.tmp _ _ rfl) .nil) _ (Heap.le.refl _) ?_
  refine ⟨?_, rfl⟩
  rw [blen_two hl (by omega)]; simp only [zU]; congr 1
 ·iterate 4 refine AX ?_
  refine .p rfl (zA Tryz.underlying149 rfl Tryz.sizeOf22 (tm rfl)) ?_
  refine AX ?_
  refine .cl rfl Tryz.call182 (evs1 rfl) (len64A _ (by assumption) _) ?_
  iterate 4 refine AX ?_
  refine Ret.go (.cons (.tmp _ _ rfl) .nil) _ (Heap.le.refl _) ?_
  refine ⟨?_, rfl⟩
  rw [show h = 0 by omega, Nat.zero_mul, Nat.zero_add]; rfl

set_option maxRecDepth 100000 in
theorem anC (h m l : Nat) (H : Heap) : ACall Tryz.prog 241 [w3 h m l] H (fun y H' => y = w2 m l ∧ H' = H) := by
 refine ACall.of_body Tryz.func241 rfl Tryz.ntmps241 Tryz.results241 rfl ?_
 iterate 2 refine AX ?_
 refine .e rfl (zO (tm rfl) (.inr ⟨_, rfl⟩)) (.s rfl (zG Tryz.zeroValue149 (zr149)) ?_)
 rintro _ _ ⟨b2, hb2, rfl, hH⟩
 obtain rfl := hH.symm
 iterate 4 refine AX ?_
 refine .p rfl (zA Tryz.underlying247 rfl Tryz.sizeOf22 (tm rfl)) ?_
 refine AX ?_
 refine .p rfl (zA Tryz.underlying247 rfl Tryz.sizeOf22 (tm rfl)) ?_
 refine AX ?_
 refine .p rfl (zL [(0, 1), (1, 1)] Tryz.underlying149 Tryz.zeroValue149 (zr149) rfl (pl149 _ Tryz.underlying149) (.cons (tm rfl) (.inl rfl) (.cons (tm rfl) (.inl rfl) .nil)) rfl) (.e0 (zB Tryz.sizeOf149 (tm rfl) (tm rfl) rfl rfl (.inr ⟨_, rfl⟩) (Heap.objs_set_same _ _ _) (Nat.le_of_ble_eq_true rfl)) ?_)
 try first | rw [Heap.set_set] | rw [Heap.set_under (by assumption)]
 iterate 2 refine AX ?_
 refine AWP.frz (t := 2) rfl (hb2) ?_
 refine AX ?_
 refine Ret.go (.cons (.cellI _ _ _ _ rfl Tryz.isAgg149 Tryz.sizeOf149 rfl) .nil) _ (Heap.le.refl _) ?_
 exact ⟨rfl, rfl⟩

set_option maxRecDepth 100000 in
theorem ahX (x y : Nat) (hx : x < 18446744073709551616) (hy : y < 18446744073709551616) (H : Heap) : ACall Tryz.prog 193 [.int .u64 (x : Int), .int .u64 (y : Int)] H (fun z H' => z = w2 (x * y / 18446744073709551616) (x * y % 18446744073709551616) ∧ H' = H) := by
 refine ACall.of_body Tryz.func193 rfl Tryz.ntmps193 Tryz.results193 rfl ?_
 iterate 2 refine AX ?_
 refine .s rfl (zG Tryz.zeroValue149 (zr149)) ?_
 rintro _ _ ⟨b4, hb4, rfl, hH⟩
 obtain rfl := hH.symm
 iterate 6 refine AX ?_
 refine .cl rfl Tryz.call245 (evs2 rfl rfl) (mul64A _ _ (by assumption) (by assumption) _) ?_
 iterate 11 refine AX ?_
 refine .p rfl (zL [(0, 1), (1, 1)] Tryz.underlying149 Tryz.zeroValue149 (zr149) rfl (pl149 _ Tryz.underlying149) (.cons (tm rfl) (.inl rfl) (.cons (tm rfl) (.inl rfl) .nil)) rfl) (.e0 (zB Tryz.sizeOf149 (tm rfl) (tm rfl) rfl rfl (.inr ⟨_, rfl⟩) (Heap.objs_set_same _ _ _) (Nat.le_of_ble_eq_true rfl)) ?_)
 try first | rw [Heap.set_set] | rw [Heap.set_under (by assumption)]
 iterate 2 refine AX ?_
 refine AWP.frz (t := 4) rfl (hb4) ?_
 refine AX ?_
 refine Ret.go (.cons (.cellI _ _ _ _ rfl Tryz.isAgg149 Tryz.sizeOf149 rfl) .nil) _ (Heap.le.refl _) ?_
 exact ⟨rfl, rfl⟩
def M1 : Nat := 18446744073709551616
def M2 : Nat := 340282366920938463463374607431768211456
def M3 : Nat := 6277101735386680763835789423207666416102355444464034512896
theorem adF : M1 = 2 ^ 64 := by decide
theorem awO : M2 = M1 * M1 := by decide +kernel
theorem M3_eq : M3 = M1 * M2 := by decide +kernel
def u2 (v : Nat) : AV := w2 (v / M1) (v % M1)
def u3 (v : Nat) : AV := w3 (v / M2) (v / M1 % M1) (v % M1)
theorem baR {v : Nat} (h : v < M2) : v / M1 < M1 := by
 rw [Nat.div_lt_iff_lt_mul (by decide), ← awO]; exact h
theorem adA (v : Nat) : v % M1 < M1 := Nat.mod_lt _ (by decide)
theorem axW {v : Nat} (h : v < M3) : v / M2 < M1 := by
 rw [Nat.div_lt_iff_lt_mul (by decide), ← M3_eq]; exact h
theorem or_up {x y n : Nat} (hy : y < 2 ^ n) (hn : n ≤ 64) : (x * 2 ^ n % M1) ||| y = x * 2 ^ n % M1 + y := by
 have e : x * 2 ^ n % M1 = x % 2 ^ (64 - n) * 2 ^ n := by
  rw [adF, show (64 : Nat) = (64 - n) + n by omega, Nat.pow_add, Nat.mul_mod_mul_right]; congr 2; congr 1; omega
 rw [e]; exact afE hy
theorem up_down {l n : Nat} (hn : n ≤ 64) : l * 2 ^ n / M1 = l / 2 ^ (64 - n) := by
 rw [adF, show (64 : Nat) = (64 - n) + n by omega, Nat.pow_add, Nat.mul_div_mul_right _ _ (Nat.pow_pos (by decide))]; congr 2; omega
theorem down_lt (v : Nat) {n : Nat} (hn : n ≤ 64) : v % M1 / 2 ^ (64 - n) < 2 ^ n := by
 rw [Nat.div_lt_iff_lt_mul (Nat.pow_pos (by decide)), ← Nat.pow_add, show n + (64 - n) = 64 by omega, ← adF]; exact adA v
theorem shl_hi {v n : Nat} (hn : n ≤ 64) : v * 2 ^ n % M2 / M1 = (v / M1 * 2 ^ n % M1 + v % M1 / 2 ^ (64 - n)) := by
 have h1 := Nat.div_add_mod v M1
 have h2 : v * 2 ^ n = M1 * (v / M1 * 2 ^ n) + v % M1 * 2 ^ n := by
  rw [← Nat.mul_assoc, ← Nat.add_mul, h1]
 rw [awO, Nat.mod_mul_right_div_self, h2, Nat.mul_add_div (by decide), up_down hn]
 have h3 : v % M1 / 2 ^ (64 - n) < 2 ^ n := by
  rw [Nat.div_lt_iff_lt_mul (Nat.pow_pos (by decide)), ← Nat.pow_add, show n + (64 - n) = 64 by omega, ← adF]; exact adA v
 have e : v / M1 * 2 ^ n % M1 = v / M1 % 2 ^ (64 - n) * 2 ^ n := by
  rw [adF, show (64 : Nat) = (64 - n) + n by omega, Nat.pow_add, Nat.mul_mod_mul_right]; congr 2; congr 1; omega
 have h4 : v / M1 % 2 ^ (64 - n) * 2 ^ n + v % M1 / 2 ^ (64 - n) < M1 := by
  have h5 := Nat.mod_lt (v / M1) (Nat.pow_pos (by decide) : 0 < 2 ^ (64 - n))
  have h6 : (v / M1 % 2 ^ (64 - n) + 1) * 2 ^ n ≤ 2 ^ (64 - n) * 2 ^ n := Nat.mul_le_mul_right _ h5
  rw [← Nat.pow_add, show 64 - n + n = 64 by omega, ← adF, Nat.add_mul, Nat.one_mul] at h6
  omega
 rw [Nat.add_mod, e, Nat.mod_eq_of_lt (Nat.lt_of_le_of_lt (Nat.le_add_left _ _) h4), Nat.mod_eq_of_lt h4]
theorem beT (v k : Nat) : v * k % M1 = v % M1 * k % M1 := by
 conv => lhs; rw [Nat.mul_mod]
 conv => rhs; rw [Nat.mul_mod, Nat.mod_mod]
theorem shl_lo (v n : Nat) : v * 2 ^ n % M2 % M1 = v % M1 * 2 ^ n % M1 := by
 rw [awO, Nat.mod_mul_right_mod, beT]
theorem bgE {x k : Nat} (hk : k ≤ 64) : x / 2 ^ k % M1 = x % M1 / 2 ^ k + x / M1 * 2 ^ (64 - k) % M1 := by
 have e : M1 = 2 ^ k * 2 ^ (64 - k) := by rw [adF, ← Nat.pow_add, show k + (64 - k) = 64 by omega]
 have h1 : x / 2 ^ k = x % M1 / 2 ^ k + x / M1 * 2 ^ (64 - k) := by
  have h2 : x = x % M1 + 2 ^ k * (x / M1 * 2 ^ (64 - k)) := by
   have h3 := Nat.mod_add_div x M1
   rw [Nat.mul_comm (x / M1), ← Nat.mul_assoc, ← e]; exact h3.symm
  conv => lhs; rw [h2]
  rw [Nat.add_mul_div_left _ _ (Nat.pow_pos (by decide))]
 have h4 : x % M1 / 2 ^ k < 2 ^ (64 - k) := by
  rw [Nat.div_lt_iff_lt_mul (Nat.pow_pos (by decide)), ← Nat.pow_add, show 64 - k + k = 64 by omega, ← adF]; exact adA x
 have e2 : x / M1 * 2 ^ (64 - k) % M1 = x / M1 % 2 ^ k * 2 ^ (64 - k) := by
  rw [e, Nat.mul_mod_mul_right]
 have h5 : x / M1 % 2 ^ k * 2 ^ (64 - k) + x % M1 / 2 ^ k < M1 := by
  have h6 := Nat.mod_lt (x / M1) (Nat.pow_pos (by decide) : 0 < 2 ^ k)
  have h7 : (x / M1 % 2 ^ k + 1) * 2 ^ (64 - k) ≤ 2 ^ k * 2 ^ (64 - k) := Nat.mul_le_mul_right _ h6
  rw [← e, Nat.add_mul, Nat.one_mul] at h7
  omega
 rw [h1, Nat.add_mod, e2, Nat.mod_eq_of_lt (Nat.lt_of_le_of_lt (Nat.le_add_left _ _) h5), Nat.add_comm, Nat.mod_eq_of_lt h5]
theorem beM {x y k : Nat} (hx : x < M1) (hk : k ≤ 64) : (x / 2 ^ k ||| y * 2 ^ (64 - k) % M1) = x / 2 ^ k + y * 2 ^ (64 - k) % M1 := by
 rw [Nat.or_comm, or_up (by
   rw [Nat.div_lt_iff_lt_mul (Nat.pow_pos (by decide)), ← Nat.pow_add, show 64 - k + k = 64 by omega, ← adF]; exact hx) (by omega), Nat.add_comm]
theorem ayD (v : Nat) : v / M1 / M1 = v / M2 := by rw [Nat.div_div_eq_div_mul, ← awO]
theorem drop_hi (v k : Nat) : v / 2 ^ k / M2 = v / M2 / 2 ^ k := by rw [Nat.div_div_eq_div_mul, Nat.mul_comm, ← Nat.div_div_eq_div_mul]
theorem drop_mid {v k : Nat} (hk : k ≤ 64) : v / 2 ^ k / M1 % M1 = (v / M1 % M1 / 2 ^ k ||| v / M2 * 2 ^ (64 - k) % M1) := by
 rw [beM (adA _) hk, Nat.div_div_eq_div_mul, Nat.mul_comm, ← Nat.div_div_eq_div_mul, bgE hk, ayD]
theorem drop_lo {v k : Nat} (hk : k ≤ 64) : v / 2 ^ k % M1 = (v % M1 / 2 ^ k ||| v / M1 % M1 * 2 ^ (64 - k) % M1) := by
 rw [beM (adA _) hk, bgE hk, beT (v / M1)]
theorem apW (v a b : Nat) : v % 2 ^ (a + b) ≠ 0 ↔ (v % 2 ^ a ≠ 0 ∨ v / 2 ^ a % 2 ^ b ≠ 0) := by
 rw [Nat.pow_add, Nat.mod_mul]
 have h : 0 < 2 ^ a := Nat.pow_pos (by decide)
 constructor
 ·grind
 ·rintro (q | q) h1
  ·omega
  ·have : 0 < 2 ^ a * (v / 2 ^ a % 2 ^ b) := Nat.mul_pos h (Nat.pos_of_ne_zero q)
   omega
theorem low_k {v k : Nat} (hk : k ≤ 64) : v % M1 % 2 ^ k = v % 2 ^ k := Nat.mod_mod_of_dvd _ (by rw [adF]; exact Nat.pow_dvd_pow 2 hk)
theorem auB {v : Nat} (h : v < M3) : (((v / M2 : Nat) : Int) = 0 ∧ ((v / M1 % M1 : Nat) : Int) = 0 ∧ ((v % M1 : Nat) : Int) = 0) ↔ v = 0 := by
 constructor
 ·rintro ⟨h1, h2, h3⟩
  have e1 := Nat.mod_add_div v M1
  have e2 := Nat.mod_add_div (v / M1) M1
  rw [ayD] at e2
  have h1' : v / M2 = 0 := by omega
  have h2' : v / M1 % M1 = 0 := by omega
  have h3' : v % M1 = 0 := by omega
  rw [h1', h2'] at e2
  simp at e2
  rw [← e2, h3'] at e1
  simpa using e1.symm
 ·rintro rfl; decide
theorem div_64 {v : Nat} (h : v < M3) : v / M1 / M2 = 0 ∧ v / M1 / M1 % M1 = v / M2 := by
 have h1 : v / M1 < M2 := by rw [Nat.div_lt_iff_lt_mul (by decide), Nat.mul_comm, ← M3_eq]; exact h
 exact ⟨Nat.div_eq_of_lt h1, by rw [ayD, Nat.mod_eq_of_lt (axW h)]⟩
theorem lost64 (v j : Nat) : v % 2 ^ (64 * (j + 1)) ≠ 0 ↔ (v % 2 ^ (64 * j) ≠ 0 ∨ v / 2 ^ (64 * j) % M1 ≠ 0) := by
 rw [Nat.mul_add, Nat.mul_one, apW, adF]
theorem lost64_t {v j : Nat} (h : decide (v % 2 ^ (64 * j) ≠ 0) = true) : true = decide (v % 2 ^ (64 * (j + 1)) ≠ 0) := (decide_eq_true ((lost64 v j).2 (.inl (of_decide_eq_true h)))).symm
theorem lost64_f {v j : Nat} (h : decide (v % 2 ^ (64 * j) ≠ 0) = false) : decide (((0 : Nat) : Int) < ((v / 2 ^ (64 * j) % M1 : Nat) : Int)) = decide (v % 2 ^ (64 * (j + 1)) ≠ 0) := by
 have h1 := of_decide_eq_false h
 refine decide_eq_decide.2 ⟨fun q => (lost64 v j).2 (.inr (by omega)), fun q => ?_⟩
 rcases (lost64 v j).1 q with q | q
 ·grind
 ·omega
theorem lostk_t {v a n : Nat} (hn : a ≤ n) (h : decide (v % 2 ^ a ≠ 0) = true) : true = decide (v % 2 ^ n ≠ 0) := by
 have := (apW v a (n - a)).2 (.inl (of_decide_eq_true h))
 rw [show a + (n - a) = n by omega] at this
 exact (decide_eq_true this).symm
theorem bgW (x k : Nat) : x &&& (1 * 2 ^ k - 1) = x % 2 ^ k := by rw [Nat.one_mul]; exact Nat.and_two_pow_sub_one_eq_mod x k
theorem lostk_f {v a n : Nat} (hn : a ≤ n) (hk : n - a ≤ 64) (h : decide (v % 2 ^ a ≠ 0) = false) : decide (((0 : Nat) : Int) < ((v / 2 ^ a % M1 &&& (1 * 2 ^ (n - a) - 1) : Nat) : Int)) = decide (v % 2 ^ n ≠ 0) := by
 have h1 := of_decide_eq_false h
 have h2 := apW v a (n - a)
 rw [show a + (n - a) = n by omega] at h2
 rw [bgW, low_k hk]
 refine decide_eq_decide.2 ⟨fun q => h2.2 (.inr (by omega)), fun q => ?_⟩
 rcases h2.1 q with q | q
 ·grind
 ·omega
theorem akN {k : Nat} (h : k < 64) : 1 * 2 ^ k < 18446744073709551616 := by
 rw [Nat.one_mul, show (18446744073709551616 : Nat) = 2 ^ 64 by decide]; exact Nat.pow_lt_pow_right (by decide) h
theorem baA (k : Nat) : 1 ≤ 1 * 2 ^ k := by rw [Nat.one_mul]; exact Nat.pow_pos (by decide)
theorem agX {x : Nat} (hx : x < M1) : u2 x = .agg [.int .u64 0, .int .u64 (x : Int)] := by
 unfold u2 w2; rw [Nat.div_eq_of_lt hx, Nat.mod_eq_of_lt hx]; rfl
theorem u3_of2 {v : Nat} (hv : v < M2) : u3 v = .agg [.int .u64 0, .int .u64 ((v / M1 : Nat) : Int), .int .u64 ((v % M1 : Nat) : Int)] := by
 unfold u3 w3; rw [Nat.div_eq_of_lt hv, Nat.mod_eq_of_lt (baR hv)]; rfl
theorem low_of (v : Nat) : w2 (v / M1 % M1) (v % M1) = u2 (v % M2) := by
 unfold u2; rw [awO, Nat.mod_mul_right_div_self, Nat.mod_mul_right_mod]
theorem add_hi {a b : Nat} : (a / M1 + b / M1 + (a % M1 + b % M1) / M1) % M1 = (a + b) % M2 / M1 := by unfold M1 M2; omega
theorem add_lo {a b : Nat} : (a % M1 + b % M1) % M1 = (a + b) % M2 % M1 := by unfold M1 M2; omega
theorem add_over {a b : Nat} : decide (((0 : Nat) : Int) < (((a / M1 + b / M1 + (a % M1 + b % M1) / M1) / M1 : Nat) : Int)) = decide (M2 ≤ a + b) := by
 refine decide_eq_decide.2 ?_
 unfold M1 M2; omega
theorem add_c {a b : Nat} : (a % M1 + b % M1) / M1 ≤ 1 := by unfold M1; omega
theorem akH (a x : Nat) : a * x / M2 = a / M1 * x / M1 + (a % M1 * x / M1 + a / M1 * x % M1) / M1 ∧ a * x / M1 % M1 = (a % M1 * x / M1 + a / M1 * x % M1) % M1 ∧ a * x % M1 = a % M1 * x % M1 := by
 have e : a * x = M1 * (a / M1 * x) + a % M1 * x := by
  conv => lhs; rw [← Nat.div_add_mod a M1]
  rw [Nat.add_mul, Nat.mul_assoc]
 rw [e]
 generalize a / M1 * x = p
 generalize a % M1 * x = q
 unfold M1 M2
 refine ⟨?_, ?_, ?_⟩ <;> omega
section
open Go Go.RowKit

theorem eqIn3 (d : Nat) (a b c a2 b2 c2 : Int) (w : World) : (Op.equalIn (d + 2) 247 (.agg #[.int .u64 a, .int .u64 b, .int .u64 c]) (.agg #[.int .u64 a2, .int .u64 b2, .int .u64 c2])).run Tryz.prog w = .ok (decide (a = a2 ∧ b = b2 ∧ c = c2)) w := by
 have u3 := Tryz.underlying22
 have a3 := Tryz.isAgg22
 have z3 := Tryz.sizeOf22
 have hS : Tryz.prog.underlying 247 = some (.struct (Tryz.prog.fieldsOf 247)) := by kernel_rfl
 have hp : Tryz.prog.stoodInHeld 247 = false := by kernel_rfl
 rw [run_equalIn_agg w (d + 1) 247 _ _ hS hp]
 simp only [Program.fieldsOf, Tryz.underlying247]
 go_simp
 by_cases h1 : a = a2 <;> by_cases h2 : b = b2 <;> by_cases h3 : c = c2 <;> simp [h1, h2, h3]
theorem eq3 (a b c a2 b2 c2 : Int) : amN Tryz.prog 247 [.int .u64 a, .int .u64 b, .int .u64 c] [.int .u64 a2, .int .u64 b2, .int .u64 c2] (decide (a = a2 ∧ b = b2 ∧ c = c2)) := fun g xs ys w h k => by
 rw [h.plain [.int .u64 a, .int .u64 b, .int .u64 c] rfl, k.plain [.int .u64 a2, .int .u64 b2, .int .u64 c2] rfl]; exact eqIn3 9998 a b c a2 b2 c2 w

section
variable {P : Program} {env : Env} {dst : Option Tmp} {ty : TypeId} {pos : String} {af : Array Edge} {gd : Option (Nat × Bool)}
theorem APure.as {op : Oper} {a b : AV} (h : a = b) (p : APure P op env a) : APure P op env b := h ▸ p
end

set_option maxRecDepth 100000 in
theorem adT (v : Nat) (n : Nat) (hn : n < 64) (q : Int) (hq : q = (n : Int)) (H : Heap) : ACall Tryz.prog 187 [u2 v, .int .i64 q] H (fun y H' => y = u2 (v * 2 ^ n % M2) ∧ H' = H) := by
 subst hq
 have hh := adA v
 have hb1 : v % M1 / 2 ^ (64 - n) < 18446744073709551616 := Nat.lt_of_le_of_lt (Nat.div_le_self _ _) (adA v)
 have hb2 : v / M1 * 2 ^ n % 18446744073709551616 < 18446744073709551616 := Nat.mod_lt _ (by decide)
 have hor : (v / M1 * 2 ^ n % 18446744073709551616 ||| v % M1 / 2 ^ (64 - n)) = v / M1 * 2 ^ n % M1 + v % M1 / 2 ^ (64 - n) := or_up (down_lt v (Nat.le_of_lt hn)) (Nat.le_of_lt hn)
 refine ACall.of_body Tryz.func187 rfl Tryz.ntmps187 Tryz.results187 rfl ?_
 iterate 2 refine AX ?_
 refine .e rfl (zO (tm rfl) (.inr ⟨_, rfl⟩)) (.s rfl (zG Tryz.zeroValue149 (zr149)) ?_)
 rintro _ _ ⟨b4, hb4, rfl, hH⟩
 obtain rfl := hH.symm
 iterate 11 refine AX ?_
 rw [show asQ (n : Int) 0 = (n : Int) by simp only [asQ]; split <;> omega]
 iterate 5 refine AX ?_
 refine AWP.cond_false (tm rfl) (by exact decide_eq_false (by omega)) ?_
 iterate 3 refine AX ?_
 refine AWP.draw [(0, true), (1, true), (2, true), (3, true), (4, true), (5, true), (6, true), (7, true), (8, true), (9, true), (10, true), (11, true), (12, true), (13, true), (14, true), (15, false)] rfl (by decide +kernel) ?_
 refine .p rfl rfl (zA Tryz.underlying149 rfl Tryz.sizeOf22 (tm rfl)) ?_
 iterate 3 refine AX ?_
 refine .p rfl rfl (zA Tryz.underlying149 rfl Tryz.sizeOf22 (tm rfl)) ?_
 iterate 2 refine AX ?_
 refine .p rfl rfl (.as (b := .int .i64 ((64 - n : Nat) : Int)) (by congr 1; omega) (adM zI (tm rfl) (by omega))) ?_
 iterate 2 refine AX ?_
 refine .p rfl rfl (zA Tryz.underlying149 rfl Tryz.sizeOf22 (tm rfl)) ?_
 iterate 3 refine AX ?_
 refine .p rfl rfl (zL [(0, 1), (1, 1)] Tryz.underlying149 Tryz.zeroValue149 (zr149) rfl (pl149 _ Tryz.underlying149) (.cons (tm rfl) (.inl rfl) (.cons (tm rfl) (.inl rfl) .nil)) rfl) (.s0 rfl (zB Tryz.sizeOf149 (tm rfl) (tm rfl) rfl rfl (.inr ⟨_, rfl⟩) (Heap.objs_set_same _ _ _) (Nat.le_of_ble_eq_true rfl)) ?_)
 rintro _ _ ⟨rfl, hH⟩
 obtain rfl := hH.symm
 try first | rw [Heap.set_set] | rw [Heap.set_under (by assumption)]
 iterate 2 refine AX ?_
 refine AWP.frz (t := 4) rfl (hb4) ?_
 refine AX ?_
 refine Ret.go (.cons (.cellI _ _ _ _ rfl Tryz.isAgg149 Tryz.sizeOf149 rfl) .nil) _ (Heap.le.refl _) ?_
 refine ⟨?_, rfl⟩
 simp only [zU, u2, w2]
 rw [shl_hi (Nat.le_of_lt hn), shl_lo, ← hor]
 rfl


def drop_J (v n b2 b4 : Nat) (H : Heap) : Nat → Env → Heap → Prop := fun k env H1 => ∃ j : Nat, 64 * j ≤ n ∧ env = [(1, .int .i64 ((n - 64 * j : Nat) : Int)), (2, .ptr (some ⟨b2, 0, none⟩)), (4, .ptr (some ⟨b4, 0, none⟩)), (6, .bool (decide (v % 2 ^ (64 * j) ≠ 0)))] ∧ H1 = (H.set b2 (.box 247 [.int .u64 (((v / 2 ^ (64 * j)) / M2 : Nat) : Int), .int .u64 (((v / 2 ^ (64 * j)) / M1 % M1 : Nat) : Int), .int .u64 (((v / 2 ^ (64 * j)) % M1 : Nat) : Int)])).set b4 (.box 247 [.int .u64 0, .int .u64 0, .int .u64 0]) ∧ k = n - 64 * j

set_option maxRecDepth 100000 in
theorem atX (v : Nat) (hv : v < M3) (n : Nat) (hn : n ≤ 1000000000) (q : Int) (hq : q = (n : Int)) (H : Heap) : ACall Tryz.prog 240 [u3 v, .int .i64 q] H (fun y H' => y = .tuple [u3 (v / 2 ^ n), .bool (decide (v % 2 ^ n ≠ 0))] ∧ H' = H) := by
 subst hq
 refine ACall.of_body Tryz.func240 rfl Tryz.ntmps240 Tryz.results240 rfl ?_
 iterate 2 refine AX ?_
 refine .s rfl (ajP (tm rfl) (.inr ⟨_, rfl⟩)) ?_
 rintro _ _ ⟨b2, hb2, rfl, hH⟩
 obtain rfl := hH.symm
 refine .s rfl (zG Tryz.zeroValue247 (zr247)) ?_
 rintro _ _ ⟨b4, hb4, rfl, hH⟩
 obtain rfl := hH.symm
 have hn2_4 := Heap.ne_of (Heap.objs_set_same _ _ _) hb4
 iterate 11 refine AX ?_
 rw [show asQ (n : Int) 0 = (n : Int) by simp only [asQ]; split <;> omega]
 iterate 6 refine AX ?_
 rw [show (u3 v).cells = [.int .u64 ((v / 2 ^ (64 * 0) / M2 : Nat) : Int), .int .u64 ((v / 2 ^ (64 * 0) / M1 % M1 : Nat) : Int), .int .u64 ((v / 2 ^ (64 * 0) % M1 : Nat) : Int)] by rw [show v / 2 ^ (64 * 0) = v by simp]; rfl]
 refine AWP.loopW (drop_J v n b2 b4 H) (n) ⟨0, by omega, rfl, rfl, rfl⟩ (zP rfl (zP rfl (zP rfl (zZ rfl (by simp [Nat.mod_one]) qM)))) (Heap.le.refl _) ?_
 rintro _ _ _ ⟨j, hj, rfl, rfl, hk⟩
 have hvj : (v / 2 ^ (64 * j)) < M3 := Nat.lt_of_le_of_lt (Nat.div_le_self _ _) hv
 refine AX ?_
 refine AWP.seqTo 15 (.bool (decide ((64 : Int) ≤ ((n - 64 * j : Nat) : Int)) && !decide ((v / 2 ^ (64 * j)) = 0))) [1, 2, 4, 6] ?_ ?_
 ·-- region 3
  iterate 4 refine AX ?_
  refine zH (t := 11) rfl (fun hg11 => ?_) (fun hg11 => ?_)
  ·have hh11 := hg11; try simp only [decide_eq_true_eq, decide_eq_false_iff_not, Bool.not_eq_true', Bool.not_eq_false', Int.not_lt, Int.not_le, ne_eq, Decidable.not_not] at hh11
   refine .gs rfl rfl rfl (by assumption) (zV Tryz.isAgg247 Tryz.sizeOf247 (tm rfl) ((Heap.objs_set_ne _ _ (by assumption)).trans (Heap.objs_set_same _ _ _)) (Nat.le_of_ble_eq_true rfl)) ?_
   rintro _ _ ⟨rfl, hH⟩
   obtain rfl := hH.symm
   refine .gp rfl rfl rfl (by assumption) (zL [(0, 1), (1, 1), (2, 1)] Tryz.underlying247 Tryz.zeroValue247 (zr247) rfl (pl247 _ Tryz.underlying247) .nil rfl) ?_
   refine .gp rfl rfl rfl (by assumption) (beA Tryz.eqGuardType247 (tm rfl) (tm rfl) (eq3 _ _ _ _ _ _)) ?_
   iterate 2 refine AX ?_
   exact ⟨rfl, zS rfl (by (rw [show decide ((64 : Int) ≤ ((n - 64 * j : Nat) : Int)) = true from hg11, Bool.true_and]; congr 1; exact decide_eq_decide.2 (auB hvj))) sX, rfl⟩
  ·have hh11 := hg11; try simp only [decide_eq_true_eq, decide_eq_false_iff_not, Bool.not_eq_true', Bool.not_eq_false', Int.not_lt, Int.not_le, ne_eq, Decidable.not_not] at hh11
   iterate 5 refine AX ?_
   exact ⟨rfl, zS rfl (by (rw [show decide ((64 : Int) ≤ ((n - 64 * j : Nat) : Int)) = false from hg11]; rfl)) sX, rfl⟩
 ·refine AWP.sub [(15, _), (1, _), (2, _), (4, _), (6, _)] sX ?_
  refine AWP.cx rfl (fun hc15 => ?_) (fun hc15 => ?_)
  ·simp only [Bool.and_eq_true, Bool.not_eq_true', decide_eq_true_eq, decide_eq_false_iff_not] at hc15
   iterate 3 refine AX ?_
   refine AWP.seqTo 6 (.bool (decide (v % 2 ^ (64 * (j + 1)) ≠ 0))) [1, 2, 4] ?_ ?_
   ·-- region 4
    iterate 3 refine AX ?_
    refine zH (t := 17) rfl (fun hg17 => ?_) (fun hg17 => ?_)
    ·have hh17 := hg17; try simp only [decide_eq_true_eq, decide_eq_false_iff_not, Bool.not_eq_true', Bool.not_eq_false', Int.not_lt, Int.not_le, ne_eq, Decidable.not_not] at hh17
     iterate 6 refine AX ?_
     exact ⟨rfl, zS rfl (by (have q := lost64_t hg17; exact q)) sX, rfl⟩
    ·have hh17 := hg17; try simp only [decide_eq_true_eq, decide_eq_false_iff_not, Bool.not_eq_true', Bool.not_eq_false', Int.not_lt, Int.not_le, ne_eq, Decidable.not_not] at hh17
     refine .gp rfl rfl rfl (by assumption) (zJ Tryz.underlying247 rfl Tryz.sizeOf22 (tm rfl)) (.gs rfl rfl rfl (by assumption) (zQ Tryz.isAgg22 (tm rfl) ((Heap.objs_set_ne _ _ (by assumption)).trans (Heap.objs_set_same _ _ _)) rfl) ?_)
     rintro _ _ ⟨rfl, hH⟩
     obtain rfl := hH.symm
     refine .gp rfl rfl rfl (by assumption) (yQ (tm rfl) (zE 0)) ?_
     iterate 3 refine AX ?_
     exact ⟨rfl, zS rfl (by (have q := lost64_f hg17; exact q)) sX, rfl⟩
   ·refine AWP.sub [(6, _), (1, _), (2, _), (4, _)] sX ?_
    iterate 2 refine AX ?_
    refine .p rfl (zJ Tryz.underlying247 rfl Tryz.sizeOf22 (tm rfl)) (.e rfl (zQ Tryz.isAgg22 (tm rfl) ((Heap.objs_set_ne _ _ (by assumption)).trans (Heap.objs_set_same _ _ _)) rfl) (.p rfl (zJ Tryz.underlying247 rfl Tryz.sizeOf22 (tm rfl)) (.e rfl (zQ Tryz.isAgg22 (tm rfl) ((Heap.objs_set_ne _ _ (by assumption)).trans (Heap.objs_set_same _ _ _)) rfl) ?_)))
    refine .p rfl (zL [(0, 1), (1, 1), (2, 1)] Tryz.underlying247 Tryz.zeroValue247 (zr247) rfl (pl247 _ Tryz.underlying247) (.cons (zE 0) (.inl rfl) (.cons (tm rfl) (.inl rfl) (.cons (tm rfl) (.inl rfl) .nil))) rfl) ?_
    refine .e0 (zB Tryz.sizeOf247 (tm rfl) (tm rfl) rfl rfl (.inr ⟨_, rfl⟩) ((Heap.objs_set_ne _ _ (by assumption)).trans (Heap.objs_set_same _ _ _)) (Nat.le_of_ble_eq_true rfl)) ?_
    try first | rw [Heap.set_set] | rw [Heap.set_under (by assumption)]
    iterate 4 refine AX ?_
    refine .p rfl (.as (b := .int .i64 ((n - 64 * (j + 1) : Nat) : Int)) (by congr 1; omega) (adM (tm rfl) zI (by omega))) ?_
    iterate 4 refine AX ?_
    have hd64 := div_64 hvj
    have hvn : v / 2 ^ (64 * (j + 1)) = (v / 2 ^ (64 * j)) / M1 := by rw [adF, Nat.div_div_eq_div_mul, ← Nat.pow_add]; congr 1
    refine Round.mk (J := drop_J v n b2 b4 H) ⟨j + 1, by omega, rfl, rfl, rfl⟩ sX (by rw [hvn, hd64.1, hd64.2]; exact Heap.le.refl _) (by omega)
  ·simp only [Bool.and_eq_false_iff, Bool.not_eq_false', decide_eq_true_eq, decide_eq_false_iff_not] at hc15
   iterate 8 refine AX ?_
   refine .e rfl (zV Tryz.isAgg247 Tryz.sizeOf247 (tm rfl) ((Heap.objs_set_ne _ _ (by assumption)).trans (Heap.objs_set_same _ _ _)) (Nat.le_of_ble_eq_true rfl)) (.p rfl (zL [(0, 1), (1, 1), (2, 1)] Tryz.underlying247 Tryz.zeroValue247 (zr247) rfl (pl247 _ Tryz.underlying247) .nil rfl) ?_)
   refine .p rfl (yH Tryz.eqGuardType247 (tm rfl) (tm rfl) (eq3 _ _ _ _ _ _)) ?_
   iterate 2 refine AX ?_
   refine AWP.cx rfl (fun hc31 => ?_) (fun hc31 => ?_)
   ·iterate 2 refine AX ?_
    refine .e rfl (zV Tryz.isAgg247 Tryz.sizeOf247 (tm rfl) ((Heap.objs_set_ne _ _ (by assumption)).trans (Heap.objs_set_same _ _ _)) (Nat.le_of_ble_eq_true rfl)) ?_
    refine AX ?_
    refine .e0 (zB Tryz.sizeOf247 (tm rfl) (tm rfl) rfl rfl (.inr ⟨_, rfl⟩) (Heap.objs_set_same _ _ _) (Nat.le_of_ble_eq_true rfl)) ?_
    try first | rw [Heap.set_set] | rw [Heap.set_under (by assumption)]
    iterate 3 refine AX ?_
    refine AWP.frz (t := 4) rfl (Heap.fresh_set hb4 _) ?_
    refine AWP.dropb (hb2) ?_
    iterate 2 refine AX ?_
    refine Ret.go (.cons (.cellI _ _ _ _ rfl Tryz.isAgg247 Tryz.sizeOf247 rfl) (.cons (.tmp _ _ rfl) .nil)) _ (Heap.le.refl _) ?_
    refine ⟨?_, rfl⟩
    have hv0 : (v / 2 ^ (64 * j)) = 0 := (auB hvj).1 (by simpa using hc31)
    have hlt : v < 2 ^ (64 * j) := by rcases Nat.div_eq_zero_iff.1 hv0 with h | h; exact absurd h (Nat.ne_of_gt (Nat.pow_pos (by decide))); exact h
    have hpn : v < 2 ^ n := Nat.lt_of_lt_of_le hlt (Nat.pow_le_pow_right (by decide) hj)
    rw [Nat.mod_eq_of_lt hlt, Nat.mod_eq_of_lt hpn, Nat.div_eq_of_lt hpn, hv0]; rfl
   ·have hv1 : ¬ (v / 2 ^ (64 * j)) = 0 := fun h => hc31 ((auB hvj).2 h)
    have hk64 : n - 64 * j < 64 := by omega
    clear hv1
    have hr1 : (v / 2 ^ (64 * j)) % M1 < 18446744073709551616 := adA _
    have hr2 : (v / 2 ^ (64 * j)) / M1 % M1 < 18446744073709551616 := adA _
    have hr3 : (v / 2 ^ (64 * j)) / M2 < 18446744073709551616 := axW hvj
    have hr4 : (v / 2 ^ (64 * j)) % M1 / 2 ^ (n - 64 * j) < 18446744073709551616 := Nat.lt_of_le_of_lt (Nat.div_le_self _ _) hr1
    have hr5 : (v / 2 ^ (64 * j)) / M1 % M1 / 2 ^ (n - 64 * j) < 18446744073709551616 := Nat.lt_of_le_of_lt (Nat.div_le_self _ _) hr2
    have hr6 : 1 * 2 ^ (n - 64 * j) - 1 < 18446744073709551616 := Nat.lt_of_le_of_lt (Nat.sub_le _ _) (akN hk64)
    rw [Heap.set_comm hn2_4]
    refine AWP.frz (t := 2) rfl ((Heap.objs_set_ne _ _ hn2_4).trans hb2) ?_
    have hb4 := (Heap.objs_set_ne H _ hn2_4.symm).symm.trans hb4
    iterate 2 refine AX ?_
    refine AWP.seqTo 6 (.bool (decide (v % 2 ^ n ≠ 0))) [1, 2, 4] ?_ ?_
    ·-- region 9
     refine AWP.draw [(0, true), (1, true), (2, true), (3, true), (4, true), (5, true), (6, true), (7, true), (8, true), (9, true), (10, true)] rfl (by decide +kernel) ?_
     iterate 2 refine AX ?_
     refine amH (t := 35) rfl (fun hg35 => ?_) (fun hg35 => ?_)
     ·have hh35 := hg35; try simp only [decide_eq_true_eq, decide_eq_false_iff_not, Bool.not_eq_true', Bool.not_eq_false', Int.not_lt, Int.not_le, ne_eq, Decidable.not_not] at hh35
      iterate 10 refine AX ?_
      exact ⟨rfl, zS rfl (by (have q := lostk_t hj hg35; exact q)) sX, rfl⟩
     ·have hh35 := hg35; try simp only [decide_eq_true_eq, decide_eq_false_iff_not, Bool.not_eq_true', Bool.not_eq_false', Int.not_lt, Int.not_le, ne_eq, Decidable.not_not] at hh35
      refine .gp rfl rfl rfl rfl (by assumption) (zA Tryz.underlying247 rfl Tryz.sizeOf22 (tm rfl)) ?_
      iterate 2 refine AX ?_
      refine .gp rfl rfl rfl rfl (by assumption) (yV (zE 1) (tm rfl) (by omega) (by exact akN hk64)) (.gp rfl rfl rfl rfl (by assumption) (aaQ (tm rfl) (zE 1) (baA _) (by (exact Nat.lt_of_lt_of_le (akN hk64) (by decide)))) (.gp rfl rfl rfl rfl (by assumption) (qQ (tm rfl) (tm rfl) (by assumption) (by assumption)) (.gp rfl rfl rfl rfl (by assumption) (yQ (tm rfl) (zE 0)) ?_)))
      iterate 3 refine AX ?_
      exact ⟨rfl, zS rfl (by (have q := lostk_f hj (by omega) hg35; exact q)) sX, rfl⟩
    ·refine AWP.sub [(6, _), (1, _), (2, _), (4, _)] sX ?_
     refine AX ?_
     refine AWP.draw [(0, true), (1, true), (2, true), (3, true), (4, true), (5, true), (6, true), (7, true), (8, true), (9, true), (10, true), (11, true), (12, true), (13, true), (14, true), (15, true), (16, true), (17, true), (18, true), (19, true), (20, true), (21, true), (22, true), (23, true), (24, true), (25, true), (26, false), (27, true)] rfl (by decide +kernel) ?_
     refine .p rfl rfl (zA Tryz.underlying247 rfl Tryz.sizeOf22 (tm rfl)) ?_
     iterate 3 refine AX ?_
     refine .p rfl rfl (zA Tryz.underlying247 rfl Tryz.sizeOf22 (tm rfl)) ?_
     iterate 3 refine AX ?_
     refine .p rfl rfl (zA Tryz.underlying247 rfl Tryz.sizeOf22 (tm rfl)) ?_
     iterate 2 refine AX ?_
     refine .p rfl rfl (.as (b := .int .i64 ((64 - (n - 64 * j) : Nat) : Int)) (by congr 1; omega) (adM zI (tm rfl) (by omega))) ?_
     iterate 2 refine AX ?_
     refine .p rfl rfl (zA Tryz.underlying247 rfl Tryz.sizeOf22 (tm rfl)) ?_
     iterate 3 refine AX ?_
     refine .p rfl rfl (zA Tryz.underlying247 rfl Tryz.sizeOf22 (tm rfl)) ?_
     iterate 2 refine AX ?_
     refine .p rfl rfl (.as (b := .int .i64 ((64 - (n - 64 * j) : Nat) : Int)) (by congr 1; omega) (adM zI (tm rfl) (by omega))) ?_
     iterate 2 refine AX ?_
     refine .p rfl rfl (zL [(0, 1), (1, 1), (2, 1)] Tryz.underlying247 Tryz.zeroValue247 (zr247) rfl (pl247 _ Tryz.underlying247) (.cons (tm rfl) (.inl rfl) (.cons (tm rfl) (.inl rfl) (.cons (tm rfl) (.inl rfl) .nil))) rfl) ?_
     refine AX ?_
     refine .s0 rfl (zB Tryz.sizeOf247 (tm rfl) (tm rfl) rfl rfl (.inr ⟨_, rfl⟩) (Heap.objs_set_same _ _ _) (Nat.le_of_ble_eq_true rfl)) ?_
     rintro _ _ ⟨rfl, hH⟩
     obtain rfl := hH.symm
     try first | rw [Heap.set_set] | rw [Heap.set_under (by assumption)]
     iterate 3 refine AX ?_
     refine AWP.frz (t := 4) rfl (hb4) ?_
     refine AX ?_
     refine Ret.go (.cons (.cellI _ _ _ _ rfl Tryz.isAgg247 Tryz.sizeOf247 rfl) (.cons (.tmp _ _ rfl) .nil)) _ (Heap.le.refl _) ?_
     refine ⟨?_, rfl⟩
     have hvn2 : v / 2 ^ n = (v / 2 ^ (64 * j)) / 2 ^ (n - 64 * j) := by rw [Nat.div_div_eq_div_mul, ← Nat.pow_add, show 64 * j + (n - 64 * j) = n by omega]
     rw [hvn2]
     unfold u3
     rw [drop_hi (v / 2 ^ (64 * j)) (n - 64 * j), drop_mid (v := (v / 2 ^ (64 * j))) (k := n - 64 * j) (by omega), drop_lo (v := (v / 2 ^ (64 * j))) (k := n - 64 * j) (by omega)]
     rfl

end
section
open Go Go.RowKit

section
variable {P : Program} {n : Nat} {ops : Array Oper} {Q : Exit → Env → Heap → Prop} {l : List Oper} {env : Env} {H : Heap} {ty : TypeId} {pos : String} {af : Array Edge}
theorem AList.ext {d : Tmp} {f : FuncId} {e : Array Value → Sem Value} {os : Array Operand} {xs : List AV} {ts : Array TypeId} {r : AV} (hd : Nat.blt d n = true) (he : IsExt P f e) (ha : Evs env os.toList xs)
  (h : ∀ g vs w, RelVs g xs vs → ∃ v, (e vs.toArray).run P w = .ok v w ∧ RelV g r v) (k : AList P n ops Q l ((d, r) :: env) H) : AList P n ops Q (⟨some d, .call { callee := .value (.func f), args := os, argTypes := ts }, ty, pos, af, none⟩ :: l) env H := by
 have q := step_ext (H := H) (dst := some d) (ty := ty) (pos := pos) (af := af) (gd := none) (ts := ts) he ha h
 refine .s hd q ?_
 rintro _ _ ⟨rfl, hH⟩
 obtain rfl := hH.symm
 exact k
end
theorem axR {x y : Nat} (hx : x < M1) (hy : y < M1) : x * y / M1 + 1 < M1 := by
 have h : x * y ≤ 18446744073709551615 * 18446744073709551615 := Nat.mul_le_mul (Nat.le_sub_one_of_lt hx) (Nat.le_sub_one_of_lt hy)
 have h2 : x * y / M1 ≤ 18446744073709551615 * 18446744073709551615 / M1 := Nat.div_le_div_right h
 have h3 : 18446744073709551615 * 18446744073709551615 / M1 + 1 < M1 := by decide +kernel
 exact Nat.lt_of_le_of_lt (Nat.add_le_add_right h2 1) h3
theorem carry_le {x y : Nat} (hx : x + 1 < M1) (hy : y < M1) : (x + y) / M1 ≤ 1 := by unfold M1 at *; omega
theorem aiK {x y : Nat} : ∀ g vs w, RelVs g [.int .u64 (x : Int), .int .u64 (y : Int), .int .u64 ((0 : Nat) : Int)] vs → ∃ v, (add64Entry vs.toArray).run Tryz.prog w = .ok v w ∧ RelV g (.tuple [.int .u64 (((x + y) % 18446744073709551616 : Nat) : Int), .int .u64 (((x + y) / 18446744073709551616 : Nat) : Int)]) v := by
 have := @atA x y 0 (by decide)
 rw [Nat.add_zero] at this; exact this

set_option maxRecDepth 100000 in
theorem ahW (v : Nat) (hv : v < M2) (n : Nat) (hn : n ≤ 1000000000) (q : Int) (hq : q = (n : Int)) (H : Heap) : ACall Tryz.prog 188 [u2 v, .int .i64 q] H (fun y H' => y = .tuple [u2 (v / 2 ^ n), .bool (decide (v % 2 ^ n ≠ 0))] ∧ H' = H) := by
 refine ACall.of_body Tryz.func188 rfl Tryz.ntmps188 Tryz.results188 rfl ?_
 iterate 2 refine AX ?_
 refine .e rfl (zO (tm rfl) (.inr ⟨_, rfl⟩)) (.s rfl (zG Tryz.zeroValue149 (zr149)) ?_)
 rintro _ _ ⟨b4, hb4, rfl, hH⟩
 obtain rfl := hH.symm
 iterate 5 refine AX ?_
 refine .p rfl (zA Tryz.underlying149 rfl Tryz.sizeOf22 (tm rfl)) ?_
 refine AX ?_
 refine .p rfl (zA Tryz.underlying149 rfl Tryz.sizeOf22 (tm rfl)) ?_
 refine AX ?_
 refine .p rfl (zL [(0, 1), (1, 1), (2, 1)] Tryz.underlying247 Tryz.zeroValue247 (zr247) rfl (pl247 _ Tryz.underlying247) (.cons (zE 0) (.inl rfl) (.cons (tm rfl) (.inl rfl) (.cons (tm rfl) (.inl rfl) .nil))) rfl) ?_
 refine AX ?_
 refine .cl rfl Tryz.call240 (evs2 rfl rfl) ((by have := atX v (Nat.lt_trans hv (by decide +kernel)) n hn q hq; rw [u3_of2 hv] at this; exact this _)) ?_
 iterate 3 refine AX ?_
 refine .s rfl (zG Tryz.zeroValue247 (zr247)) ?_
 rintro _ _ ⟨b6, hb6, rfl, hH⟩
 obtain rfl := hH.symm
 have hn4_6 := Heap.ne_of (Heap.objs_set_same _ _ _) hb6
 refine .e0 (zB Tryz.sizeOf247 (tm rfl) (tm rfl) rfl rfl (.inr ⟨_, rfl⟩) (Heap.objs_set_same _ _ _) (Nat.le_of_ble_eq_true rfl)) ?_
 try first | rw [Heap.set_set] | rw [Heap.set_under (by assumption)]
 iterate 3 refine AX ?_
 refine AWP.frz (t := 6) rfl (hb6) ?_
 iterate 3 refine AX ?_
 refine .cl rfl Tryz.call241 (evs1 rfl) (anC _ _ _ _) ?_
 refine AX ?_
 refine .e0 (zB Tryz.sizeOf149 (tm rfl) (tm rfl) rfl rfl (.inr ⟨_, rfl⟩) (Heap.objs_set_same _ _ _) (Nat.le_of_ble_eq_true rfl)) ?_
 try first | rw [Heap.set_set] | rw [Heap.set_under (by assumption)]
 iterate 3 refine AX ?_
 refine AWP.frz (t := 4) rfl (hb4) ?_
 refine AX ?_
 refine Ret.go (.cons (.cellI _ _ _ _ rfl Tryz.isAgg149 Tryz.sizeOf149 rfl) (.cons (.tmp _ _ rfl) .nil)) _ (Heap.le.refl _) ?_
 refine ⟨?_, rfl⟩
 simp only [zU]
 rw [low_of, Nat.mod_eq_of_lt (Nat.lt_of_le_of_lt (Nat.div_le_self _ _) hv)]
 rfl

set_option maxRecDepth 100000 in
theorem ahY (a b : Nat) (ha : a < M2) (hb : b < M2) (H : Heap) : ACall Tryz.prog 243 [u2 a, u2 b] H (fun y H' => y = .tuple [u2 ((a + b) % M2), .bool (decide (M2 ≤ a + b))] ∧ H' = H) := by
 have ha1 := baR ha
 have hb1 := baR hb
 have ha2 := adA a
 have hb2 := adA b
 have hc : (a % M1 + b % M1) / 18446744073709551616 ≤ 1 := add_c
 generalize hce : (a % M1 + b % M1) / 18446744073709551616 = c at hc
 refine ACall.of_body Tryz.func243 rfl Tryz.ntmps243 Tryz.results243 rfl ?_
 iterate 2 refine AX ?_
 refine .e rfl (zO (tm rfl) (.inr ⟨_, rfl⟩)) (.e rfl (zO (tm rfl) (.inr ⟨_, rfl⟩)) (.s rfl (zG Tryz.zeroValue149 (zr149)) ?_))
 rintro _ _ ⟨b4, hb4, rfl, hH⟩
 obtain rfl := hH.symm
 iterate 5 refine AX ?_
 refine .p rfl (zA Tryz.underlying149 rfl Tryz.sizeOf22 (tm rfl)) ?_
 refine AX ?_
 refine .p rfl (zA Tryz.underlying149 rfl Tryz.sizeOf22 (tm rfl)) ?_
 refine AX ?_
 refine AList.ext rfl ext291 (.cons (tm rfl) (.cons (tm rfl) (.cons (zE 0) .nil))) (aiK) ?_
 iterate 8 refine AX ?_
 rw [hce]
 refine AX ?_
 refine .p rfl (zA Tryz.underlying149 rfl Tryz.sizeOf22 (tm rfl)) ?_
 refine AX ?_
 refine .p rfl (zA Tryz.underlying149 rfl Tryz.sizeOf22 (tm rfl)) ?_
 iterate 2 refine AX ?_
 refine AList.ext rfl ext291 (evs3 rfl rfl rfl) (atA (x := a / M1) (y := b / M1) (c := c) hc) ?_
 iterate 11 refine AX ?_
 refine .p rfl (zL [(0, 1), (1, 1)] Tryz.underlying149 Tryz.zeroValue149 (zr149) rfl (pl149 _ Tryz.underlying149) (.cons (tm rfl) (.inl rfl) (.cons (tm rfl) (.inl rfl) .nil)) rfl) ?_
 refine AX ?_
 refine .p rfl (yQ (tm rfl) (zE 0)) (.e0 (zB Tryz.sizeOf149 (tm rfl) (tm rfl) rfl rfl (.inr ⟨_, rfl⟩) (Heap.objs_set_same _ _ _) (Nat.le_of_ble_eq_true rfl)) ?_)
 try first | rw [Heap.set_set] | rw [Heap.set_under (by assumption)]
 iterate 3 refine AX ?_
 refine AWP.frz (t := 4) rfl (hb4) ?_
 refine AX ?_
 refine Ret.go (.cons (.cellI _ _ _ _ rfl Tryz.isAgg149 Tryz.sizeOf149 rfl) (.cons (.tmp _ _ rfl) .nil)) _ (Heap.le.refl _) ?_
 refine ⟨?_, rfl⟩
 have e1 := @add_over a b
 have e2 := @add_hi a b
 have e3 := @add_lo a b
 rw [show (a % M1 + b % M1) / M1 = c from hce] at e1 e2
 rw [← e1]
 unfold u2 w2
 rw [← e2, ← e3]
 rfl

set_option maxRecDepth 100000 in
theorem aqW (a x : Nat) (ha : a < M2) (hx : x < M1) (H : Heap) : ACall Tryz.prog 265 [u2 a, .int .u64 (x : Int)] H (fun y H' => y = u3 (a * x) ∧ H' = H) := by
 have ha1 := baR ha
 have ha2 := adA a
 have hm1 := axR ha1 hx
 have hm2 := axR ha2 hx
 have hm3 := adA (a / M1 * x)
 have hcl := carry_le hm2 hm3
 have hfit : a / M1 * x / 18446744073709551616 + (a % M1 * x / 18446744073709551616 + a / M1 * x % 18446744073709551616) / 18446744073709551616 < 18446744073709551616 := Nat.lt_of_le_of_lt (Nat.add_le_add_left hcl _) hm1
 refine ACall.of_body Tryz.func265 rfl Tryz.ntmps265 Tryz.results265 rfl ?_
 iterate 2 refine AX ?_
 refine .e rfl (zO (tm rfl) (.inr ⟨_, rfl⟩)) (.s rfl (zG Tryz.zeroValue247 (zr247)) ?_)
 rintro _ _ ⟨b4, hb4, rfl, hH⟩
 obtain rfl := hH.symm
 iterate 3 refine AX ?_
 refine AWP.draw2 [(0, true), (1, true), (2, true), (3, true), (4, true), (5, true), (6, true), (7, true)] 8 9 [(9, false), (10, false), (11, false)] [(8, false), (10, false), (11, false)] rfl (by decide +kernel) ?_
 refine .p rfl rfl (zA Tryz.underlying149 rfl Tryz.sizeOf22 (tm rfl)) ?_
 iterate 2 refine AX ?_
 refine APlan.f rfl rfl (fun _ => zC Tryz.call193 (evs2 rfl rfl) (ahX _ _ (by assumption) (by assumption) _)) ?_
 refine .p rfl rfl (zA Tryz.underlying149 rfl Tryz.sizeOf22 (tm rfl)) ?_
 iterate 2 refine AX ?_
 refine APlan.f rfl rfl (fun _ => zC Tryz.call193 (evs2 rfl rfl) (ahX _ _ (by assumption) (by assumption) _)) ?_
 refine AX ?_
 refine ⟨?_, ?_⟩
 ·refine XTwo.s rfl rfl (zG Tryz.zeroValue149 (zr149)) ?_
  rintro _ _ ⟨b5, hb5, rfl, hH⟩
  obtain rfl := hH.symm
  have hn4_5 := Heap.ne_of (Heap.objs_set_same _ _ _) hb5
  refine .s rfl rfl (zG Tryz.zeroValue149 (zr149)) ?_
  rintro _ _ ⟨b6, hb6, rfl, hH⟩
  obtain rfl := hH.symm
  have hn4_6 := Heap.ne_of (Heap.objs_set_same _ _ _) hb6
  have hn5_6 := Heap.ne_of (Heap.objs_set_same _ _ _) hb6
  refine .s0 rfl (zB Tryz.sizeOf149 (tm rfl) (tm rfl) rfl rfl (.inr ⟨_, rfl⟩) ((Heap.objs_set_ne _ _ (by assumption)).trans (Heap.objs_set_same _ _ _)) (Nat.le_of_ble_eq_true rfl)) ?_
  rintro _ _ ⟨rfl, hH⟩
  obtain rfl := hH.symm
  try first | rw [Heap.set_set] | rw [Heap.set_under (by assumption)]
  refine .s0 rfl (zB Tryz.sizeOf149 (tm rfl) (tm rfl) rfl rfl (.inr ⟨_, rfl⟩) (Heap.objs_set_same _ _ _) (Nat.le_of_ble_eq_true rfl)) ?_
  rintro _ _ ⟨rfl, hH⟩
  obtain rfl := hH.symm
  try first | rw [Heap.set_set] | rw [Heap.set_under (by assumption)]
  iterate 2 refine AX ?_
  refine AWP.frz (t := 6) rfl (Heap.fresh_set hb6 _) ?_
  refine AWP.frz (t := 5) rfl (hb5) ?_
  iterate 2 refine AX ?_
  refine .p rfl (zA Tryz.underlying149 rfl Tryz.sizeOf22 (tm rfl)) ?_
  refine AX ?_
  refine .p rfl (zA Tryz.underlying149 rfl Tryz.sizeOf22 (tm rfl)) ?_
  refine AX ?_
  refine AList.ext rfl ext291 (.cons (tm rfl) (.cons (tm rfl) (.cons (zE 0) .nil))) (aiK) ?_
  iterate 9 refine AX ?_
  refine .p rfl (zA Tryz.underlying149 rfl Tryz.sizeOf22 (tm rfl)) ?_
  iterate 2 refine AX ?_
  refine .p rfl (qB (tm rfl) (tm rfl) (hfit)) ?_
  refine AX ?_
  refine .p rfl (zA Tryz.underlying149 rfl Tryz.sizeOf22 (tm rfl)) ?_
  refine AX ?_
  refine .p rfl (zL [(0, 1), (1, 1), (2, 1)] Tryz.underlying247 Tryz.zeroValue247 (zr247) rfl (pl247 _ Tryz.underlying247) (.cons (tm rfl) (.inl rfl) (.cons (tm rfl) (.inl rfl) (.cons (tm rfl) (.inl rfl) .nil))) rfl) ?_
  refine .e0 (zB Tryz.sizeOf247 (tm rfl) (tm rfl) rfl rfl (.inr ⟨_, rfl⟩) (Heap.objs_set_same _ _ _) (Nat.le_of_ble_eq_true rfl)) ?_
  try first | rw [Heap.set_set] | rw [Heap.set_under (by assumption)]
  iterate 2 refine AX ?_
  refine AWP.frz (t := 4) rfl (hb4) ?_
  refine AX ?_
  refine Ret.go (.cons (.cellI _ _ _ _ rfl Tryz.isAgg247 Tryz.sizeOf247 rfl) .nil) _ (Heap.le.refl _) ?_
  refine ⟨?_, rfl⟩
  obtain ⟨e1, e2, e3⟩ := akH a x
  unfold u3 w3
  rw [e1, e2, e3]
  rfl
 ·refine XTwo.s rfl rfl (zG Tryz.zeroValue149 (zr149)) ?_
  rintro _ _ ⟨b6, hb6, rfl, hH⟩
  obtain rfl := hH.symm
  have hn4_6 := Heap.ne_of (Heap.objs_set_same _ _ _) hb6
  refine .s rfl rfl (zG Tryz.zeroValue149 (zr149)) ?_
  rintro _ _ ⟨b5, hb5, rfl, hH⟩
  obtain rfl := hH.symm
  have hn4_5 := Heap.ne_of (Heap.objs_set_same _ _ _) hb5
  have hn6_5 := Heap.ne_of (Heap.objs_set_same _ _ _) hb5
  refine .s0 rfl (zB Tryz.sizeOf149 (tm rfl) (tm rfl) rfl rfl (.inr ⟨_, rfl⟩) (Heap.objs_set_same _ _ _) (Nat.le_of_ble_eq_true rfl)) ?_
  rintro _ _ ⟨rfl, hH⟩
  obtain rfl := hH.symm
  try first | rw [Heap.set_set] | rw [Heap.set_under (by assumption)]
  refine .s0 rfl (zB Tryz.sizeOf149 (tm rfl) (tm rfl) rfl rfl (.inr ⟨_, rfl⟩) ((Heap.objs_set_ne _ _ (by assumption)).trans (Heap.objs_set_same _ _ _)) (Nat.le_of_ble_eq_true rfl)) ?_
  rintro _ _ ⟨rfl, hH⟩
  obtain rfl := hH.symm
  try first | rw [Heap.set_set] | rw [Heap.set_under (by assumption)]
  iterate 2 refine AX ?_
  refine AWP.frz (t := 5) rfl (Heap.fresh_set hb5 _) ?_
  refine AWP.frz (t := 6) rfl (hb6) ?_
  iterate 2 refine AX ?_
  refine .p rfl (zA Tryz.underlying149 rfl Tryz.sizeOf22 (tm rfl)) ?_
  refine AX ?_
  refine .p rfl (zA Tryz.underlying149 rfl Tryz.sizeOf22 (tm rfl)) ?_
  refine AX ?_
  refine AList.ext rfl ext291 (.cons (tm rfl) (.cons (tm rfl) (.cons (zE 0) .nil))) (aiK) ?_
  iterate 9 refine AX ?_
  refine .p rfl (zA Tryz.underlying149 rfl Tryz.sizeOf22 (tm rfl)) ?_
  iterate 2 refine AX ?_
  refine .p rfl (qB (tm rfl) (tm rfl) (hfit)) ?_
  refine AX ?_
  refine .p rfl (zA Tryz.underlying149 rfl Tryz.sizeOf22 (tm rfl)) ?_
  refine AX ?_
  refine .p rfl (zL [(0, 1), (1, 1), (2, 1)] Tryz.underlying247 Tryz.zeroValue247 (zr247) rfl (pl247 _ Tryz.underlying247) (.cons (tm rfl) (.inl rfl) (.cons (tm rfl) (.inl rfl) (.cons (tm rfl) (.inl rfl) .nil))) rfl) ?_
  refine .e0 (zB Tryz.sizeOf247 (tm rfl) (tm rfl) rfl rfl (.inr ⟨_, rfl⟩) (Heap.objs_set_same _ _ _) (Nat.le_of_ble_eq_true rfl)) ?_
  try first | rw [Heap.set_set] | rw [Heap.set_under (by assumption)]
  iterate 2 refine AX ?_
  refine AWP.frz (t := 4) rfl (hb4) ?_
  refine AX ?_
  refine Ret.go (.cons (.cellI _ _ _ _ rfl Tryz.isAgg247 Tryz.sizeOf247 rfl) .nil) _ (Heap.le.refl _) ?_
  refine ⟨?_, rfl⟩
  obtain ⟨e1, e2, e3⟩ := akH a x
  unfold u3 w3
  rw [e1, e2, e3]
  rfl

end
end Go.Proofs.YtmmgbnolccpjoaaGreatDoor
