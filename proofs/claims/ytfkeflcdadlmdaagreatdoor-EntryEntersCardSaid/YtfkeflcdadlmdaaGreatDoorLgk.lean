import Derived.Test.YtfkeflcdadlmdaaGreatDoorYd
import Derived.Test.YtfkeflcdadlmdaaGreatDoorSsk
import Derived.Test.YtfkeflcdadlmdaaGreatDoorX2
namespace Go.Proofs.YtfkeflcdadlmdaaGreatDoor
open Go Go.RowKit

theorem zr25 : ∀ g, RelCells g [.str [], .str [], .str [], .str [], .str [], .str [], .str [], .bool false, .bool false, .slice 1 [] .full] (Value.cells (Go.Value.agg #[Go.Value.string { data := #[] }, Go.Value.string { data := #[] }, Go.Value.string { data := #[] }, Go.Value.string { data := #[] }, Go.Value.string { data := #[] }, Go.Value.string { data := #[] }, Go.Value.string { data := #[] }, Go.Value.bool false, Go.Value.bool false, Go.Value.slice none 0 0])) := fun g => RelL.cells (.cons ((.str [] (Nat.zero_le _))) (.cons ((.str [] (Nat.zero_le _))) (.cons ((.str [] (Nat.zero_le _))) (.cons ((.str [] (Nat.zero_le _))) (.cons ((.str [] (Nat.zero_le _))) (.cons ((.str [] (Nat.zero_le _))) (.cons ((.str [] (Nat.zero_le _))) (.cons (.bool _) (.cons (.bool _) (.cons (.nilSlice _ _) .nil))))))))))
theorem pl25 (fs : Array Field) (hfs : Tryz.prog.underlying 25 = some (.struct fs)) : ∀ (i : Nat) f p, fs[i]? = some f → [(0, 1), (1, 1), (2, 1), (3, 1), (4, 1), (5, 1), (6, 1), (7, 1), (8, 1), (9, 1)][i]? = some p → ∀ w, (sizeOf f.type).run Tryz.prog w = .ok p.2 w := by
 have e := (Option.some.inj (hfs.symm.trans Tryz.underlying25))
 cases e
 intro i f p hf hp w
 match i with
 | 0 => cases hf; cases hp; exact Tryz.sizeOf9 w
 | 1 => cases hf; cases hp; exact Tryz.sizeOf9 w
 | 2 => cases hf; cases hp; exact Tryz.sizeOf9 w
 | 3 => cases hf; cases hp; exact Tryz.sizeOf9 w
 | 4 => cases hf; cases hp; exact Tryz.sizeOf9 w
 | 5 => cases hf; cases hp; exact Tryz.sizeOf9 w
 | 6 => cases hf; cases hp; exact Tryz.sizeOf9 w
 | 7 => cases hf; cases hp; exact Tryz.sizeOf4 w
 | 8 => cases hf; cases hp; exact Tryz.sizeOf4 w
 | 9 => cases hf; cases hp; exact Tryz.sizeOf23 w
 | i + 10 => simp at hp
theorem zr27 : ∀ g, RelCells g [.str [], .str [], .str [], .str [], .str [], .str [], .str [], .bool false, .bool false, .int .i64 0] (Value.cells (Go.Value.agg #[Go.Value.string { data := #[] }, Go.Value.string { data := #[] }, Go.Value.string { data := #[] }, Go.Value.string { data := #[] }, Go.Value.string { data := #[] }, Go.Value.string { data := #[] }, Go.Value.string { data := #[] }, Go.Value.bool false, Go.Value.bool false, Go.Value.int Go.IntKind.i64 0])) := fun g => RelL.cells (.cons ((.str [] (Nat.zero_le _))) (.cons ((.str [] (Nat.zero_le _))) (.cons ((.str [] (Nat.zero_le _))) (.cons ((.str [] (Nat.zero_le _))) (.cons ((.str [] (Nat.zero_le _))) (.cons ((.str [] (Nat.zero_le _))) (.cons ((.str [] (Nat.zero_le _))) (.cons (.bool _) (.cons (.bool _) (.cons (.int _ _) .nil))))))))))
theorem pl27 (fs : Array Field) (hfs : Tryz.prog.underlying 27 = some (.struct fs)) : ∀ (i : Nat) f p, fs[i]? = some f → [(0, 1), (1, 1), (2, 1), (3, 1), (4, 1), (5, 1), (6, 1), (7, 1), (8, 1), (9, 1)][i]? = some p → ∀ w, (sizeOf f.type).run Tryz.prog w = .ok p.2 w := by
 have e := (Option.some.inj (hfs.symm.trans Tryz.underlying27))
 cases e
 intro i f p hf hp w
 match i with
 | 0 => cases hf; cases hp; exact Tryz.sizeOf9 w
 | 1 => cases hf; cases hp; exact Tryz.sizeOf9 w
 | 2 => cases hf; cases hp; exact Tryz.sizeOf9 w
 | 3 => cases hf; cases hp; exact Tryz.sizeOf9 w
 | 4 => cases hf; cases hp; exact Tryz.sizeOf9 w
 | 5 => cases hf; cases hp; exact Tryz.sizeOf9 w
 | 6 => cases hf; cases hp; exact Tryz.sizeOf9 w
 | 7 => cases hf; cases hp; exact Tryz.sizeOf4 w
 | 8 => cases hf; cases hp; exact Tryz.sizeOf4 w
 | 9 => cases hf; cases hp; exact Tryz.sizeOf3 w
 | i + 10 => simp at hp

theorem baP {W : World} (h : Inv W) {n : Nat} {d : DataW Unit} {xs : List Value} (hn : (n, d) ∈ anG) (hx : agB 4 d = some xs) {i : Nat} {v : Value} (hi : xs[i]? = some v) : W.cell? ⟨n, i, none⟩ = some v := by
 obtain ⟨T, fz, hh⟩ := h.rows n d hn xs hx
 unfold World.cell?
 rw [hh]
 simpa using hi
def strV (l : List UInt8) : Value := .string ⟨l.toArray⟩
def namesL : List (List UInt8) := [[99, 104], [100, 101], [101, 110], [102, 114], [104, 105], [115, 118]]
def signsL : List (List UInt8) := [[46], [226, 128, 153], [59], [45], [67, 72, 70], [44], [46], [59], [45], [226, 130, 172], [46], [44], [44], [45], [36], [44], [226, 128, 175], [59], [45], [226, 130, 172], [46], [44], [44], [45], [226, 130, 185], [44], [194, 160], [59], [226, 136, 146], [107, 114]]
set_option maxRecDepth 100000 in
theorem beA : agB 4 Rows.laid_tabard_locale_names = some (namesL.map strV) := by kernel_rfl
set_option maxRecDepth 100000 in
theorem bdZ : agB 4 Rows.laid_tabard_locale_signs = some (signsL.map strV) := by kernel_rfl
def akO (i : Nat) : List UInt8 := namesL.getD i []
def akG (i : Nat) : List UInt8 := signsL.getD i []
theorem bhW {l : List (List UInt8)} {i : Nat} (h : i < l.length) : (l.map strV)[i]? = some (strV (l.getD i [])) := by
 rw [List.getElem?_map, List.getD_eq_getElem?_getD, List.getElem?_eq_getElem h]; rfl
theorem awK : ∀ i, (akO i).length ≤ maxLen := fun i => by
 have : ∀ l ∈ namesL, l.length ≤ 10 := by decide
 unfold akO
 rw [List.getD_eq_getElem?_getD, zP]
 cases h : namesL[i]? with
 | none => simp
 | some l => have := this l (List.mem_of_getElem? h); simp only [Option.getD_some]; omega
theorem awI : ∀ i, (akG i).length ≤ maxLen := fun i => by
 have : ∀ l ∈ signsL, l.length ≤ 10 := by decide
 unfold akG
 rw [List.getD_eq_getElem?_getD, zP]
 cases h : signsL[i]? with
 | none => simp
 | some l => have := this l (List.mem_of_getElem? h); simp only [Option.getD_some]; omega
theorem inv_name {i : Nat} (hi : i < 6) : ∀ W, Inv W → ∃ v, W.cell? ⟨0, 0 + ((i : Nat) : Int).toNat * 1, none⟩ = some v ∧ ∀ g, RelV g (.str (akO i)) v := by
 intro W h
 rw [show 0 + ((i : Nat) : Int).toNat * 1 = i by omega]
 exact ⟨_, baP h (by simp [anG]) beA (bhW (by simpa [namesL] using hi)), fun g => .str _ (awK i)⟩
theorem aiV {i : Nat} (hi : i < 6) (j : Nat) (hj : j < 5) (o : Nat) (ho : o = i * 5 + j) : ∀ W, Inv W → ∃ v, W.cell? ⟨1, o, none⟩ = some v ∧ ∀ g, RelV g (.str (akG (i * 5 + j))) v := by
 intro W h
 subst ho
 exact ⟨_, baP h (by simp [anG]) bdZ (bhW (by simp [signsL]; omega)), fun g => .str _ (awI _)⟩
structure FLoc where
 name : List UInt8
 dec : List UInt8
 grp : List UInt8
 lst : List UInt8
 minus : List UInt8
 pct : List UInt8
 cur : List UInt8
 first : Bool
 space : Bool
 sizes : List Int
def FLoc.cs (l : FLoc) : List AV := [.str l.name, .str l.dec, .str l.grp, .str l.lst, .str l.minus, .str l.pct, .str l.cur, .bool l.first, .bool l.space, .slice 1 (l.sizes.map (.int .i64)) .full]
def FLoc.none : FLoc := ⟨[], [], [], [], [], [], [], false, false, []⟩
def biF (i : Nat) (s : List UInt8) : FLoc :=
 ⟨s, akG (i * 5), akG (i * 5 + 1), akG (i * 5 + 2), akG (i * 5 + 3), [37], akG (i * 5 + 4), decide (s = [99, 104]) || (decide (s = [104, 105]) || decide (s = [101, 110])), !(decide (s = [104, 105]) || decide (s = [101, 110])), if s = [104, 105] then [3, 2] else [3]⟩
def aoK (s : List UInt8) : Option Nat := (List.range 6).find? fun i => decide (akO i = s)
theorem agU {s : List UInt8} {i : Nat} (hi : i < 6) (h : akO i = s) (hl : ∀ j, j < i → akO j ≠ s) : aoK s = some i := by
 unfold aoK
 rw [List.find?_eq_some_iff_append]
 refine ⟨by simp [h], List.range i, (List.range' (i + 1) (5 - i)), ?_, fun j hj => by simpa using hl j (by simpa using hj)⟩
 have : i = 0 ∨ i = 1 ∨ i = 2 ∨ i = 3 ∨ i = 4 ∨ i = 5 := by omega
 rcases this with rfl | rfl | rfl | rfl | rfl | rfl <;> rfl
theorem beC {s : List UInt8} (hl : ∀ j, j < 6 → akO j ≠ s) : aoK s = none := by
 unfold aoK
 rw [List.find?_eq_none]
 intro j hj
 simpa using hl j (by simpa using hj)
def afK (s : List UInt8) : FLoc × Int := match aoK s with | some i => (biF i s, 0) | none => (FLoc.none, 8)
def locs : List Loc := [⟨[99, 104], [46], [226, 128, 153], [59], [45], [37], [67, 72, 70], true, true, 3⟩, ⟨[100, 101], [44], [46], [59], [45], [37], [226, 130, 172], false, true, 3⟩, ⟨[101, 110], [46], [44], [44], [45], [37], [36], true, false, 3⟩,
  ⟨[102, 114], [44], [226, 128, 175], [59], [45], [37], [226, 130, 172], false, true, 3⟩, ⟨[104, 105], [46], [44], [44], [45], [37], [226, 130, 185], true, false, 2⟩, ⟨[115, 118], [44], [194, 160], [59], [226, 136, 146], [37], [107, 114], false, true, 3⟩]
def szA (l : Loc) : AV := .slice 1 ((if l.second = 2 then [3, 2] else [3] : List Int).map (.int .i64)) .full
theorem afG : ∀ l ∈ locs, l.ok := by
 intro l hl
 simp only [locs, List.mem_cons, List.not_mem_nil, or_false] at hl
 rcases hl with rfl | rfl | rfl | rfl | rfl | rfl <;> (unfold Loc.ok; simp)
theorem biT : ∀ l ∈ locs, (.agg (afK l.name).1.cs : AV) = pL l (szA l) ∧ (afK l.name).2 = 0 := by
 intro l hl
 simp only [locs, List.mem_cons, List.not_mem_nil, or_false] at hl
 rcases hl with rfl | rfl | rfl | rfl | rfl | rfl <;> exact ⟨rfl, rfl⟩

def find_J (s : List UInt8) (b2 : Nat) (H : Heap) : Nat → Env → Heap → Prop := fun k env H1 => ∃ i : Nat, i ≤ 6 ∧ (∀ j, j < i → akO j ≠ s) ∧ env = [(0, .str s), (2, .ptr (some ⟨b2, 0, none⟩)), (6, .int .i64 i)] ∧ H1 = H.set b2 (.box 25 [.str [], .str [], .str [], .str [], .str [], .str [], .str [], .bool false, .bool false, .slice 1 [] .full]) ∧ k = 6 - i

set_option maxRecDepth 100000 in
theorem beV (s : List UInt8) (H : Heap) : ACall Tryz.prog 22 [.str s] H (fun y H' => y = .tuple [.agg (afK s).1.cs, .int .i64 (afK s).2] ∧ H' = H) := by
 refine ACall.of_body Tryz.func22 rfl Tryz.ntmps22 Tryz.results22 rfl ?_
 iterate 2 refine AX ?_
 refine .s rfl (zL Tryz.zeroValue25 (zr25)) ?_
 rintro _ _ ⟨b2, hb2, rfl, hH⟩
 obtain rfl := hH.symm
 iterate 10 refine AX ?_
 refine AWP.loopW (find_J s b2 H) (6) ⟨0, Nat.zero_le _, fun j h => absurd h (Nat.not_lt_zero _), rfl, rfl, rfl⟩ sX (Heap.le.refl _) ?_
 rintro _ _ _ ⟨i, hi, hl, rfl, rfl, rfl⟩
 iterate 6 refine AX ?_
 refine AWP.cx rfl (fun hc7 => ?_) (fun hc7 => ?_)
 ·have hi6 : i < 6 := by omega
  iterate 14 refine AX ?_
  refine .p rfl (qL Tryz.underlying106 Tryz.sizeOf9 (.global _) (tm rfl) (by omega) (by omega)) (.e rfl (adJ Tryz.isAgg9 (tm rfl) (inv_name hi6)) ?_)
  iterate 4 refine AX ?_
  refine AWP.cx rfl (fun hc13 => ?_) (fun hc13 => ?_)
  ·iterate 5 refine AX ?_
   refine .p rfl (zK (tm rfl) zF (by omega)) ?_
   iterate 3 refine AX ?_
   refine Round.mk (J := find_J s b2 H) ⟨i + 1, by omega, fun j hj => by rcases Nat.lt_or_ge j i with h | h; exact hl j h; rw [show j = i by omega]; exact hc13, rfl, rfl, rfl⟩ sX (Heap.le.refl _) (by omega)
  ·iterate 3 refine AX ?_
   refine AWP.draw [(0, true), (1, true), (2, true), (3, true), (4, true), (5, true), (6, true), (7, true), (8, true), (9, true), (10, true), (11, true), (12, true), (13, true), (14, true), (15, true), (16, true), (17, true), (18, true), (19, true), (20, true), (21, true), (22, true), (23, false), (24, false)] rfl (by decide +kernel) ?_
   iterate 2 refine AX ?_
   refine .p rfl rfl (qL Tryz.underlying108 Tryz.sizeOf107 (.global _) (tm rfl) (by omega) (by omega)) (.p rfl rfl (qL Tryz.underlying107 Tryz.sizeOf9 (tm rfl) zF (by omega) (by omega)) ?_)
   refine APlan.f rfl rfl (fun _ => adJ Tryz.isAgg9 (tm rfl) (aiV hi6 0 (by decide) _ (by omega))) ?_
   refine AX ?_
   refine .p rfl rfl (qL Tryz.underlying108 Tryz.sizeOf107 (.global _) (tm rfl) (by omega) (by omega)) (.p rfl rfl (qL Tryz.underlying107 Tryz.sizeOf9 (tm rfl) zF (by omega) (by omega)) ?_)
   refine APlan.f rfl rfl (fun _ => adJ Tryz.isAgg9 (tm rfl) (aiV hi6 1 (by decide) _ (by omega))) ?_
   refine AX ?_
   refine .p rfl rfl (qL Tryz.underlying108 Tryz.sizeOf107 (.global _) (tm rfl) (by omega) (by omega)) (.p rfl rfl (qL Tryz.underlying107 Tryz.sizeOf9 (tm rfl) zF (by omega) (by omega)) ?_)
   refine APlan.f rfl rfl (fun _ => adJ Tryz.isAgg9 (tm rfl) (aiV hi6 2 (by decide) _ (by omega))) ?_
   refine AX ?_
   refine .p rfl rfl (qL Tryz.underlying108 Tryz.sizeOf107 (.global _) (tm rfl) (by omega) (by omega)) (.p rfl rfl (qL Tryz.underlying107 Tryz.sizeOf9 (tm rfl) zF (by omega) (by omega)) ?_)
   refine APlan.f rfl rfl (fun _ => adJ Tryz.isAgg9 (tm rfl) (aiV hi6 3 (by decide) _ (by omega))) ?_
   refine AX ?_
   refine .p rfl rfl (qL Tryz.underlying108 Tryz.sizeOf107 (.global _) (tm rfl) (by omega) (by omega)) (.p rfl rfl (qL Tryz.underlying107 Tryz.sizeOf9 (tm rfl) zF (by omega) (by omega)) ?_)
   refine APlan.f rfl rfl (fun _ => adJ Tryz.isAgg9 (tm rfl) (aiV hi6 4 (by decide) _ (by omega))) ?_
   refine APlan.f rfl rfl (fun _ => aaL Tryz.underlying23 Tryz.sizeOf3 Tryz.zeroValue3 rfl zF (.inl rfl) ⟨rfl, rfl⟩) ?_
   refine .p rfl rfl (abS [(0, 1), (1, 1), (2, 1), (3, 1), (4, 1), (5, 1), (6, 1), (7, 1), (8, 1), (9, 1)] Tryz.underlying25 Tryz.zeroValue25 (zr25) rfl (pl25 _ Tryz.underlying25) (.cons (tm rfl) (.inl rfl) (.cons (tm rfl) (.inl rfl) (.cons (tm rfl) (.inl rfl) (.cons (tm rfl) (.inl rfl) (.cons (tm rfl) (.inl rfl) (.cons (zR rfl) (.inl rfl) (.cons (tm rfl) (.inl rfl) (.cons yN (.inl rfl) (.cons yN (.inl rfl) (.cons (tm rfl) (.inl rfl) .nil)))))))))) rfl rfl) ?_
   refine .s rfl rfl (zL Tryz.zeroValue25 (zr25)) ?_
   rintro _ _ ⟨b5, hb5, rfl, hH⟩
   obtain rfl := hH.symm
   have hn2_5 := Heap.ne_of (Heap.objs_set_same _ _ _) hb5
   refine .s0 rfl (zB Tryz.sizeOf25 (tm rfl) (tm rfl) rfl rfl (.inr ⟨_, rfl⟩) (Heap.objs_set_same _ _ _) (Nat.le_of_ble_eq_true rfl)) ?_
   rintro _ _ ⟨rfl, hH⟩
   obtain rfl := hH.symm
   try first | rw [Heap.set_set] | rw [Heap.set_under (by assumption)]
   iterate 23 refine AX ?_
   refine AWP.cx rfl (fun hc38 => ?_) (fun hc38 => ?_)
   ·iterate 7 refine AX ?_
    refine .p rfl (zD Tryz.underlying25 rfl Tryz.sizeOf4 (tm rfl)) (.e0 (zB Tryz.sizeOf4 (tm rfl) yN rfl rfl (.inl rfl) (Heap.objs_set_same _ _ _) (Nat.le_of_ble_eq_true rfl)) ?_)
    try first | rw [Heap.set_set] | rw [Heap.set_under (by assumption)]
    iterate 11 refine AX ?_
    refine .e rfl (yJ Tryz.isAgg25 Tryz.sizeOf25 (tm rfl) (Heap.objs_set_same _ _ _) (Nat.le_of_ble_eq_true rfl)) (.e0 (zB Tryz.sizeOf25 (tm rfl) (tm rfl) rfl rfl (.inr ⟨_, rfl⟩) ((Heap.objs_set_ne _ _ (by assumption)).trans (Heap.objs_set_same _ _ _)) (Nat.le_of_ble_eq_true rfl)) ?_)
    try first | rw [Heap.set_set] | rw [Heap.set_under (by assumption)]
    iterate 3 refine AX ?_
    refine AWP.dropb (Heap.fresh_set hb5 _) ?_
    refine AWP.frz (t := 2) rfl (hb2) ?_
    iterate 6 refine AX ?_
    refine Ret.go (.cons (.cellI _ _ _ _ rfl Tryz.isAgg25 Tryz.sizeOf25 rfl) (.cons (.tmp _ _ rfl) .nil)) _ (Heap.le.refl _) ?_
    refine ⟨?_, rfl⟩
    have hf : aoK s = some i := agU hi6 hc13 hl
    simp only [yP, afK, hf]
    simp_all [biF, FLoc.cs]
    all_goals rfl
   ·iterate 9 refine AX ?_
    refine AWP.cx rfl (fun hc40 => ?_) (fun hc40 => ?_)
    ·iterate 8 refine AX ?_
     refine .e rfl (agI Tryz.underlying23 Tryz.sizeOf3 Tryz.zeroValue3 rfl zF (.inl rfl) ⟨rfl, rfl⟩ zF (.inl rfl) ⟨rfl, rfl⟩) (.p rfl (zD Tryz.underlying25 rfl Tryz.sizeOf23 (tm rfl)) (.e0 (zB Tryz.sizeOf23 (tm rfl) (tm rfl) rfl rfl (.inl rfl) (Heap.objs_set_same _ _ _) (Nat.le_of_ble_eq_true rfl)) ?_))
     try first | rw [Heap.set_set] | rw [Heap.set_under (by assumption)]
     iterate 5 refine AX ?_
     refine .p rfl (zD Tryz.underlying25 rfl Tryz.sizeOf4 (tm rfl)) (.e0 (zB Tryz.sizeOf4 (tm rfl) yN rfl rfl (.inl rfl) (Heap.objs_set_same _ _ _) (Nat.le_of_ble_eq_true rfl)) ?_)
     try first | rw [Heap.set_set] | rw [Heap.set_under (by assumption)]
     refine .p rfl (zD Tryz.underlying25 rfl Tryz.sizeOf4 (tm rfl)) (.e0 (zB Tryz.sizeOf4 (tm rfl) yN rfl rfl (.inl rfl) (Heap.objs_set_same _ _ _) (Nat.le_of_ble_eq_true rfl)) ?_)
     try first | rw [Heap.set_set] | rw [Heap.set_under (by assumption)]
     iterate 7 refine AX ?_
     refine .e rfl (yJ Tryz.isAgg25 Tryz.sizeOf25 (tm rfl) (Heap.objs_set_same _ _ _) (Nat.le_of_ble_eq_true rfl)) (.e0 (zB Tryz.sizeOf25 (tm rfl) (tm rfl) rfl rfl (.inr ⟨_, rfl⟩) ((Heap.objs_set_ne _ _ (by assumption)).trans (Heap.objs_set_same _ _ _)) (Nat.le_of_ble_eq_true rfl)) ?_)
     try first | rw [Heap.set_set] | rw [Heap.set_under (by assumption)]
     iterate 3 refine AX ?_
     refine AWP.dropb (Heap.fresh_set hb5 _) ?_
     refine AWP.frz (t := 2) rfl (hb2) ?_
     iterate 6 refine AX ?_
     refine Ret.go (.cons (.cellI _ _ _ _ rfl Tryz.isAgg25 Tryz.sizeOf25 rfl) (.cons (.tmp _ _ rfl) .nil)) _ (Heap.le.refl _) ?_
     refine ⟨?_, rfl⟩
     have hf : aoK s = some i := agU hi6 hc13 hl
     simp only [yP, afK, hf]
     simp_all [biF, FLoc.cs]
     all_goals rfl
    ·iterate 8 refine AX ?_
     refine AWP.cx rfl (fun hc42 => ?_) (fun hc42 => ?_)
     ·iterate 10 refine AX ?_
      refine .p rfl (zD Tryz.underlying25 rfl Tryz.sizeOf4 (tm rfl)) (.e0 (zB Tryz.sizeOf4 (tm rfl) yN rfl rfl (.inl rfl) (Heap.objs_set_same _ _ _) (Nat.le_of_ble_eq_true rfl)) ?_)
      try first | rw [Heap.set_set] | rw [Heap.set_under (by assumption)]
      refine .p rfl (zD Tryz.underlying25 rfl Tryz.sizeOf4 (tm rfl)) (.e0 (zB Tryz.sizeOf4 (tm rfl) yN rfl rfl (.inl rfl) (Heap.objs_set_same _ _ _) (Nat.le_of_ble_eq_true rfl)) ?_)
      try first | rw [Heap.set_set] | rw [Heap.set_under (by assumption)]
      iterate 7 refine AX ?_
      refine .e rfl (yJ Tryz.isAgg25 Tryz.sizeOf25 (tm rfl) (Heap.objs_set_same _ _ _) (Nat.le_of_ble_eq_true rfl)) (.e0 (zB Tryz.sizeOf25 (tm rfl) (tm rfl) rfl rfl (.inr ⟨_, rfl⟩) ((Heap.objs_set_ne _ _ (by assumption)).trans (Heap.objs_set_same _ _ _)) (Nat.le_of_ble_eq_true rfl)) ?_)
      try first | rw [Heap.set_set] | rw [Heap.set_under (by assumption)]
      iterate 3 refine AX ?_
      refine AWP.dropb (Heap.fresh_set hb5 _) ?_
      refine AWP.frz (t := 2) rfl (hb2) ?_
      iterate 6 refine AX ?_
      refine Ret.go (.cons (.cellI _ _ _ _ rfl Tryz.isAgg25 Tryz.sizeOf25 rfl) (.cons (.tmp _ _ rfl) .nil)) _ (Heap.le.refl _) ?_
      refine ⟨?_, rfl⟩
      have hf : aoK s = some i := agU hi6 hc13 hl
      simp only [yP, afK, hf]
      simp_all [biF, FLoc.cs]
      all_goals rfl
     ·iterate 13 refine AX ?_
      refine .e rfl (yJ Tryz.isAgg25 Tryz.sizeOf25 (tm rfl) (Heap.objs_set_same _ _ _) (Nat.le_of_ble_eq_true rfl)) (.e0 (zB Tryz.sizeOf25 (tm rfl) (tm rfl) rfl rfl (.inr ⟨_, rfl⟩) ((Heap.objs_set_ne _ _ (by assumption)).trans (Heap.objs_set_same _ _ _)) (Nat.le_of_ble_eq_true rfl)) ?_)
      try first | rw [Heap.set_set] | rw [Heap.set_under (by assumption)]
      iterate 3 refine AX ?_
      refine AWP.dropb (Heap.fresh_set hb5 _) ?_
      refine AWP.frz (t := 2) rfl (hb2) ?_
      iterate 6 refine AX ?_
      refine Ret.go (.cons (.cellI _ _ _ _ rfl Tryz.isAgg25 Tryz.sizeOf25 rfl) (.cons (.tmp _ _ rfl) .nil)) _ (Heap.le.refl _) ?_
      refine ⟨?_, rfl⟩
      have hf : aoK s = some i := agU hi6 hc13 hl
      simp only [yP, afK, hf]
      simp_all [biF, FLoc.cs]
      all_goals rfl
 ·iterate 7 refine AX ?_
  refine .p rfl (zU [(0, 1), (1, 1), (2, 1), (3, 1), (4, 1), (5, 1), (6, 1), (7, 1), (8, 1), (9, 1)] Tryz.underlying25 Tryz.zeroValue25 (zr25) rfl (pl25 _ Tryz.underlying25) .nil rfl) (.e0 (zB Tryz.sizeOf25 (tm rfl) (tm rfl) rfl rfl (.inr ⟨_, rfl⟩) (Heap.objs_set_same _ _ _) (Nat.le_of_ble_eq_true rfl)) ?_)
  try first | rw [Heap.set_set] | rw [Heap.set_under (by assumption)]
  iterate 3 refine AX ?_
  refine AWP.frz (t := 2) rfl (hb2) ?_
  refine AX ?_
  refine Ret.go (.cons (.cellI _ _ _ _ rfl Tryz.isAgg25 Tryz.sizeOf25 rfl) (.cons (.tmp _ _ rfl) .nil)) _ (Heap.le.refl _) ?_
  refine ⟨?_, rfl⟩
  have hf : aoK s = none := beC fun j hj => hl j (by omega)
  simp only [yP, afK, hf]
  rfl

theorem agT {l : Loc} (hl : l ∈ locs) (H : Heap) : ACall Tryz.prog 22 [.str l.name] H (fun y H' => y = .tuple [pL l (szA l), .int .i64 0] ∧ H' = H) := by
 have h := beV l.name H
 obtain ⟨h1, h2⟩ := biT l hl
 rw [h1, h2] at h
 exact h

set_option maxRecDepth 100000 in
theorem bkE (H : Heap) : ACall Tryz.prog 24 [] H (fun y H' => y = .slice 10 (locs.map rL) .full ∧ H' = H) := by
 refine ACall.of_body Tryz.func24 rfl Tryz.ntmps24 Tryz.results24 rfl ?_
 iterate 2 refine AX ?_
 refine .p rfl (zC (qB (sz := 10) (tl := .full))) ?_
 iterate 4 refine AX ?_
 refine .p rfl (abS [(0, 1), (1, 1), (2, 1), (3, 1), (4, 1), (5, 1), (6, 1), (7, 1), (8, 1), (9, 1)] Tryz.underlying27 Tryz.zeroValue27 (zr27) rfl (pl27 _ Tryz.underlying27) (.cons (zR rfl) (.inl rfl) (.cons (zR rfl) (.inl rfl) (.cons (zR rfl) (.inl rfl) (.cons (zR rfl) (.inl rfl) (.cons (zR rfl) (.inl rfl) (.cons (zR rfl) (.inl rfl) (.cons (zR rfl) (.inl rfl) (.cons yN (.inl rfl) (.cons yN (.inl rfl) (.cons zF (.inl rfl) .nil)))))))))) rfl rfl) ?_
 refine .p rfl (abS [(0, 1), (1, 1), (2, 1), (3, 1), (4, 1), (5, 1), (6, 1), (7, 1), (8, 1), (9, 1)] Tryz.underlying27 Tryz.zeroValue27 (zr27) rfl (pl27 _ Tryz.underlying27) (.cons (zR rfl) (.inl rfl) (.cons (zR rfl) (.inl rfl) (.cons (zR rfl) (.inl rfl) (.cons (zR rfl) (.inl rfl) (.cons (zR rfl) (.inl rfl) (.cons (zR rfl) (.inl rfl) (.cons (zR rfl) (.inl rfl) (.cons yN (.inl rfl) (.cons yN (.inl rfl) (.cons zF (.inl rfl) .nil)))))))))) rfl rfl) ?_
 refine .p rfl (abS [(0, 1), (1, 1), (2, 1), (3, 1), (4, 1), (5, 1), (6, 1), (7, 1), (8, 1), (9, 1)] Tryz.underlying27 Tryz.zeroValue27 (zr27) rfl (pl27 _ Tryz.underlying27) (.cons (zR rfl) (.inl rfl) (.cons (zR rfl) (.inl rfl) (.cons (zR rfl) (.inl rfl) (.cons (zR rfl) (.inl rfl) (.cons (zR rfl) (.inl rfl) (.cons (zR rfl) (.inl rfl) (.cons (zR rfl) (.inl rfl) (.cons yN (.inl rfl) (.cons yN (.inl rfl) (.cons zF (.inl rfl) .nil)))))))))) rfl rfl) ?_
 refine .p rfl (abS [(0, 1), (1, 1), (2, 1), (3, 1), (4, 1), (5, 1), (6, 1), (7, 1), (8, 1), (9, 1)] Tryz.underlying27 Tryz.zeroValue27 (zr27) rfl (pl27 _ Tryz.underlying27) (.cons (zR rfl) (.inl rfl) (.cons (zR rfl) (.inl rfl) (.cons (zR rfl) (.inl rfl) (.cons (zR rfl) (.inl rfl) (.cons (zR rfl) (.inl rfl) (.cons (zR rfl) (.inl rfl) (.cons (zR rfl) (.inl rfl) (.cons yN (.inl rfl) (.cons yN (.inl rfl) (.cons zF (.inl rfl) .nil)))))))))) rfl rfl) ?_
 refine .p rfl (abS [(0, 1), (1, 1), (2, 1), (3, 1), (4, 1), (5, 1), (6, 1), (7, 1), (8, 1), (9, 1)] Tryz.underlying27 Tryz.zeroValue27 (zr27) rfl (pl27 _ Tryz.underlying27) (.cons (zR rfl) (.inl rfl) (.cons (zR rfl) (.inl rfl) (.cons (zR rfl) (.inl rfl) (.cons (zR rfl) (.inl rfl) (.cons (zR rfl) (.inl rfl) (.cons (zR rfl) (.inl rfl) (.cons (zR rfl) (.inl rfl) (.cons yN (.inl rfl) (.cons yN (.inl rfl) (.cons zF (.inl rfl) .nil)))))))))) rfl rfl) ?_
 refine .p rfl (abS [(0, 1), (1, 1), (2, 1), (3, 1), (4, 1), (5, 1), (6, 1), (7, 1), (8, 1), (9, 1)] Tryz.underlying27 Tryz.zeroValue27 (zr27) rfl (pl27 _ Tryz.underlying27) (.cons (zR rfl) (.inl rfl) (.cons (zR rfl) (.inl rfl) (.cons (zR rfl) (.inl rfl) (.cons (zR rfl) (.inl rfl) (.cons (zR rfl) (.inl rfl) (.cons (zR rfl) (.inl rfl) (.cons (zR rfl) (.inl rfl) (.cons yN (.inl rfl) (.cons yN (.inl rfl) (.cons zF (.inl rfl) .nil)))))))))) rfl rfl) ?_
 refine .e rfl (afA Tryz.underlying62 Tryz.sizeOf27 Tryz.zeroValue27 rfl rfl rfl (.cons (tm rfl) (.inr ⟨_, rfl⟩) (.cons (tm rfl) (.inr ⟨_, rfl⟩) (.cons (tm rfl) (.inr ⟨_, rfl⟩) (.cons (tm rfl) (.inr ⟨_, rfl⟩) (.cons (tm rfl) (.inr ⟨_, rfl⟩) (.cons (tm rfl) (.inr ⟨_, rfl⟩) .nil)))))) (yS ⟨rfl, rfl⟩ (yS ⟨rfl, rfl⟩ (yS ⟨rfl, rfl⟩ (yS ⟨rfl, rfl⟩ (yS ⟨rfl, rfl⟩ (yS ⟨rfl, rfl⟩ amA))))))) ?_
 iterate 4 refine AX ?_
 refine Ret.go (.cons (.tmp _ _ rfl) .nil) _ (Heap.le.refl _) ?_
 exact ⟨rfl, rfl⟩

set_option maxRecDepth 100000 in
theorem bdF (c : Int) (hc : -9223372036854775808 ≤ c ∧ c ≤ 9223372036854775807) (H : Heap) : ACall Tryz.prog 25 [.int .i64 c, .int .i64 6] H (fun y H' => (∃ k : Nat, k < 6 ∧ y = .int .i64 (k : Int)) ∧ H' = H) := by
 refine ACall.of_body Tryz.func25 rfl Tryz.ntmps25 Tryz.results25 rfl ?_
 iterate 5 refine AX ?_
 refine AWP.seqToL [(0, .int .i64 (if c < 0 then -(c + 1) else c))] [1, 4] ?_ ?_
 ·iterate 6 refine AX ?_
  refine AWP.cx rfl (fun hc6 => ?_) (fun hc6 => ?_)
  ·iterate 2 refine AX ?_
   refine .p rfl (zK (tm rfl) zF (by omega)) (.p rfl (aaE (tm rfl) (by omega)) ?_)
   iterate 2 refine AX ?_
   exact ⟨rfl, (zW rfl (by (rw [if_pos (by assumption)]; done)) sX), rfl⟩
  ·refine AX ?_
   exact ⟨rfl, (zW rfl (by (rw [if_neg (by omega)]; done)) sX), rfl⟩
 ·refine AWP.sub [(0, _), (1, _), (4, _)] sX ?_
  generalize hq : (if c < 0 then -(c + 1) else c) = q
  have hq0 : 0 ≤ q := by rw [← hq]; split <;> omega
  iterate 4 refine AX ?_
  refine .p rfl (akW (tm rfl) (tm rfl) (by omega)) ?_
  iterate 4 refine AX ?_
  refine Ret.go (.cons (.tmp _ _ rfl) .nil) _ (Heap.le.refl _) ?_
  refine ⟨⟨(q.tmod 6).toNat, ?_, ?_⟩, rfl⟩
  ·rw [Int.tmod_eq_emod_of_nonneg hq0]; omega
  ·rw [Int.tmod_eq_emod_of_nonneg hq0]
   show AV.int .i64 _ = _
   congr 1
   try rw [Int.tmod_eq_emod_of_nonneg hq0]
   omega

set_option maxRecDepth 100000 in
theorem axZ (c : Int) (hc : -9223372036854775808 ≤ c ∧ c ≤ 9223372036854775807) (H : Heap) : ACall Tryz.prog 9 [.int .i64 c] H (fun y H' => (∃ l, l ∈ locs ∧ y = .tuple [pL l (szA l), rL l]) ∧ H' = H) := by
 refine ACall.of_body Tryz.func9 rfl Tryz.ntmps9 Tryz.results9 rfl ?_
 iterate 2 refine AX ?_
 refine .s rfl (zL Tryz.zeroValue25 (zr25)) ?_
 rintro _ _ ⟨b2, hb2, rfl, hH⟩
 obtain rfl := hH.symm
 refine .s rfl (zL Tryz.zeroValue27 (zr27)) ?_
 rintro _ _ ⟨b3, hb3, rfl, hH⟩
 obtain rfl := hH.symm
 have hn2_3 := Heap.ne_of (Heap.objs_set_same _ _ _) hb3
 iterate 4 refine AX ?_
 refine .cl rfl Tryz.call24 .nil (bkE _) ?_
 refine AX ?_
 refine .s rfl (zH Tryz.call25 (.cons (tm rfl) (.cons zF .nil)) (bdF c hc _)) ?_
 rintro _ _ ⟨⟨k, hk6, rfl⟩, hH⟩
 obtain rfl := hH.symm
 have hkl : k < locs.length := hk6
 have hlm : locs[k] ∈ locs := List.getElem_mem hkl
 refine .p rfl (aaN Tryz.underlying62 Tryz.sizeOf27 (tm rfl) (tm rfl) (by omega) (by omega)) ?_
 refine AX ?_
 refine .s rfl (zL Tryz.zeroValue27 (zr27)) ?_
 rintro _ _ ⟨b4, hb4, rfl, hH⟩
 obtain rfl := hH.symm
 have hn2_4 := Heap.ne_of (Heap.objs_set_same _ _ _) hb4
 have hn3_4 := Heap.ne_of (Heap.objs_set_same _ _ _) hb4
 refine .e0 (zB Tryz.sizeOf27 (tm rfl) (tm rfl) rfl rfl (.inr ⟨_, rfl⟩) (Heap.objs_set_same _ _ _) (Nat.le_of_ble_eq_true rfl)) ?_
 try first | rw [Heap.set_set] | rw [Heap.set_under (by assumption)]
 iterate 2 refine AX ?_
 refine AWP.frz (t := 4) rfl (hb4) ?_
 iterate 2 refine AX ?_
 refine .p rfl (zA Tryz.underlying27 rfl Tryz.sizeOf9 (tm rfl)) ?_
 refine AX ?_
 refine .cl rfl Tryz.call22 (evs1 rfl) (agT hlm _) ?_
 iterate 3 refine AX ?_
 refine .s rfl (zL Tryz.zeroValue25 (zr25)) ?_
 rintro _ _ ⟨b5, hb5, rfl, hH⟩
 obtain rfl := hH.symm
 have hn2_5 := Heap.ne_of (Heap.objs_set_same _ _ _) hb5
 have hn3_5 := Heap.ne_of (Heap.objs_set_same _ _ _) hb5
 refine .e0 (zB Tryz.sizeOf25 (tm rfl) (tm rfl) rfl rfl (.inr ⟨_, rfl⟩) (Heap.objs_set_same _ _ _) (Nat.le_of_ble_eq_true rfl)) ?_
 try first | rw [Heap.set_set] | rw [Heap.set_under (by assumption)]
 iterate 3 refine AX ?_
 refine AWP.frz (t := 5) rfl (hb5) ?_
 refine AX ?_
 refine AWP.draw [(0, true), (1, true), (2, false), (3, false)] rfl (by decide +kernel) ?_
 iterate 2 refine AX ?_
 refine .s0 rfl (zB Tryz.sizeOf25 (tm rfl) (tm rfl) rfl rfl (.inr ⟨_, rfl⟩) ((Heap.objs_set_ne _ _ (by assumption)).trans (Heap.objs_set_same _ _ _)) (Nat.le_of_ble_eq_true rfl)) ?_
 rintro _ _ ⟨rfl, hH⟩
 obtain rfl := hH.symm
 try first | rw [Heap.set_set] | rw [Heap.set_under (by assumption)]
 refine .s0 rfl (zB Tryz.sizeOf27 (tm rfl) (tm rfl) rfl rfl (.inr ⟨_, rfl⟩) (Heap.objs_set_same _ _ _) (Nat.le_of_ble_eq_true rfl)) ?_
 rintro _ _ ⟨rfl, hH⟩
 obtain rfl := hH.symm
 try first | rw [Heap.set_set] | rw [Heap.set_under (by assumption)]
 iterate 2 refine AX ?_
 refine AWP.frz (t := 3) rfl (Heap.fresh_set hb3 _) ?_
 refine AWP.frz (t := 2) rfl (hb2) ?_
 refine AX ?_
 refine Ret.go (.cons (.cellI _ _ _ _ rfl Tryz.isAgg25 Tryz.sizeOf25 rfl) (.cons (.cellI _ _ _ _ rfl Tryz.isAgg27 Tryz.sizeOf27 rfl) .nil)) _ (Heap.le.refl _) ?_
 exact ⟨⟨locs[k], hlm, rfl⟩, rfl⟩

end Go.Proofs.YtfkeflcdadlmdaaGreatDoor
