import Derived.Test.YtmmgbnolccpjoaaGreatDoorYd
import Derived.Test.YtmmgbnolccpjoaaGreatDoorSsk
import Derived.Test.YtmmgbnolccpjoaaGreatDoorX2
namespace Go.Proofs.YtmmgbnolccpjoaaGreatDoor
open Go Go.RowKit

theorem zr29 : ∀ g, RelCells g [.str [], .str [], .str [], .str [], .str [], .str [], .str [], .bool false, .bool false, .slice 1 [] .full] (Value.cells (Go.Value.agg #[Go.Value.string { data := #[] }, Go.Value.string { data := #[] }, Go.Value.string { data := #[] }, Go.Value.string { data := #[] }, Go.Value.string { data := #[] }, Go.Value.string { data := #[] }, Go.Value.string { data := #[] }, Go.Value.bool false, Go.Value.bool false, Go.Value.slice none 0 0])) := fun g => RelL.cells (.cons ((.str [] (Nat.zero_le _))) (.cons ((.str [] (Nat.zero_le _))) (.cons ((.str [] (Nat.zero_le _))) (.cons ((.str [] (Nat.zero_le _))) (.cons ((.str [] (Nat.zero_le _))) (.cons ((.str [] (Nat.zero_le _))) (.cons ((.str [] (Nat.zero_le _))) (.cons (.bool _) (.cons (.bool _) (.cons (.nilSlice _ _) .nil))))))))))
theorem pl29 (fs : Array Field) (hfs : Tryz.prog.underlying 29 = some (.struct fs)) : ∀ (i : Nat) f p, fs[i]? = some f → [(0, 1), (1, 1), (2, 1), (3, 1), (4, 1), (5, 1), (6, 1), (7, 1), (8, 1), (9, 1)][i]? = some p → ∀ w, (sizeOf f.type).run Tryz.prog w = .ok p.2 w := by
 have e := (Option.some.inj (hfs.symm.trans Tryz.underlying29))
 cases e
 intro i f p hf hp w
 match i with
 | 0 => cases hf; cases hp; exact Tryz.sizeOf9 w
 | 1 => cases hf; cases hp; exact Tryz.sizeOf9 w
 | 2 => cases hf; cases hp; exact Tryz.sizeOf9 w
 | 3 => cases hf; cases hp; exact Tryz.sizeOf9 w
 | 4 => cases hf; cases hp; exact Tryz.sizeOf9 w
 | 5 => cases hf; cases hp; exact Tryz.sizeOf9 w
 | 6 => cases hf; cases hp; exact Tryz.sizeOf9 w
 | 7 => cases hf; cases hp; exact Tryz.sizeOf4 w
 | 8 => cases hf; cases hp; exact Tryz.sizeOf4 w
 | 9 => cases hf; cases hp; exact Tryz.sizeOf27 w
 | i + 10 => simp at hp
theorem zr31 : ∀ g, RelCells g [.str [], .str [], .str [], .str [], .str [], .str [], .str [], .bool false, .bool false, .int .i64 0] (Value.cells (Go.Value.agg #[Go.Value.string { data := #[] }, Go.Value.string { data := #[] }, Go.Value.string { data := #[] }, Go.Value.string { data := #[] }, Go.Value.string { data := #[] }, Go.Value.string { data := #[] }, Go.Value.string { data := #[] }, Go.Value.bool false, Go.Value.bool false, Go.Value.int Go.IntKind.i64 0])) := fun g => RelL.cells (.cons ((.str [] (Nat.zero_le _))) (.cons ((.str [] (Nat.zero_le _))) (.cons ((.str [] (Nat.zero_le _))) (.cons ((.str [] (Nat.zero_le _))) (.cons ((.str [] (Nat.zero_le _))) (.cons ((.str [] (Nat.zero_le _))) (.cons ((.str [] (Nat.zero_le _))) (.cons (.bool _) (.cons (.bool _) (.cons (.int _ _) .nil))))))))))
theorem pl31 (fs : Array Field) (hfs : Tryz.prog.underlying 31 = some (.struct fs)) : ∀ (i : Nat) f p, fs[i]? = some f → [(0, 1), (1, 1), (2, 1), (3, 1), (4, 1), (5, 1), (6, 1), (7, 1), (8, 1), (9, 1)][i]? = some p → ∀ w, (sizeOf f.type).run Tryz.prog w = .ok p.2 w := by
 have e := (Option.some.inj (hfs.symm.trans Tryz.underlying31))
 cases e
 intro i f p hf hp w
 match i with
 | 0 => cases hf; cases hp; exact Tryz.sizeOf9 w
 | 1 => cases hf; cases hp; exact Tryz.sizeOf9 w
 | 2 => cases hf; cases hp; exact Tryz.sizeOf9 w
 | 3 => cases hf; cases hp; exact Tryz.sizeOf9 w
 | 4 => cases hf; cases hp; exact Tryz.sizeOf9 w
 | 5 => cases hf; cases hp; exact Tryz.sizeOf9 w
 | 6 => cases hf; cases hp; exact Tryz.sizeOf9 w
 | 7 => cases hf; cases hp; exact Tryz.sizeOf4 w
 | 8 => cases hf; cases hp; exact Tryz.sizeOf4 w
 | 9 => cases hf; cases hp; exact Tryz.sizeOf3 w
 | i + 10 => simp at hp

theorem axU {W : World} (h : Inv W) {n : Nat} {d : DataW Unit} {xs : List Value} (hn : (n, d) ∈ alP) (hx : adI 4 d = some xs) {i : Nat} {v : Value} (hi : xs[i]? = some v) : W.cell? ⟨n, i, none⟩ = some v := by
 obtain ⟨T, fz, hh⟩ := h.rows n d hn xs hx
 unfold World.cell?
 rw [hh]
 simpa using hi
def strV (l : List UInt8) : Value := .string ⟨l.toArray⟩
def namesL : List (List UInt8) := [[99, 104], [100, 101], [101, 110], [102, 114], [104, 105], [115, 118]]
def signsL : List (List UInt8) := [[46], [226, 128, 153], [59], [45], [67, 72, 70], [44], [46], [59], [45], [226, 130, 172], [46], [44], [44], [45], [36], [44], [226, 128, 175], [59], [45], [226, 130, 172], [46], [44], [44], [45], [226, 130, 185], [44], [194, 160], [59], [226, 136, 146], [107, 114]]
set_option maxRecDepth 100000 in
theorem baV : adI 4 Rows.laid_tabard_locale_names = some (namesL.map strV) := by kernel_rfl
set_option maxRecDepth 100000 in
theorem baU : adI 4 Rows.laid_tabard_locale_signs = some (signsL.map strV) := by kernel_rfl
def ajE (i : Nat) : List UInt8 := namesL.getD i []
def aiW (i : Nat) : List UInt8 := signsL.getD i []
theorem beX {l : List (List UInt8)} {i : Nat} (h : i < l.length) : (l.map strV)[i]? = some (strV (l.getD i [])) := by
 rw [List.getElem?_map, List.getD_eq_getElem?_getD, List.getElem?_eq_getElem h]; rfl
theorem auN : ∀ i, (ajE i).length ≤ maxLen := fun i => by
 have : ∀ l ∈ namesL, l.length ≤ 10 := by decide
 unfold ajE
 rw [List.getD_eq_getElem?_getD, zN]
 cases h : namesL[i]? with
 | none => simp
 | some l => have := this l (List.mem_of_getElem? h); simp only [Option.getD_some]; omega
theorem auL : ∀ i, (aiW i).length ≤ maxLen := fun i => by
 have : ∀ l ∈ signsL, l.length ≤ 10 := by decide
 unfold aiW
 rw [List.getD_eq_getElem?_getD, zN]
 cases h : signsL[i]? with
 | none => simp
 | some l => have := this l (List.mem_of_getElem? h); simp only [Option.getD_some]; omega
theorem inv_name {i : Nat} (hi : i < 6) : ∀ W, Inv W → ∃ v, W.cell? ⟨0, 0 + ((i : Nat) : Int).toNat * 1, none⟩ = some v ∧ ∀ g, RelV g (.str (ajE i)) v := by
 intro W h
 rw [show 0 + ((i : Nat) : Int).toNat * 1 = i by omega]
 exact ⟨_, axU h (by simp [alP]) baV (beX (by simpa [namesL] using hi)), fun g => .str _ (auN i)⟩
theorem ahK {i : Nat} (hi : i < 6) (j : Nat) (hj : j < 5) (o : Nat) (ho : o = i * 5 + j) : ∀ W, Inv W → ∃ v, W.cell? ⟨1, o, none⟩ = some v ∧ ∀ g, RelV g (.str (aiW (i * 5 + j))) v := by
 intro W h
 subst ho
 exact ⟨_, axU h (by simp [alP]) baU (beX (by simp [signsL]; omega)), fun g => .str _ (auL _)⟩
structure FLoc where
 name : List UInt8
 dec : List UInt8
 grp : List UInt8
 lst : List UInt8
 minus : List UInt8
 pct : List UInt8
 cur : List UInt8
 first : Bool
 space : Bool
 sizes : List Int
def FLoc.cs (l : FLoc) : List AV := [.str l.name, .str l.dec, .str l.grp, .str l.lst, .str l.minus, .str l.pct, .str l.cur, .bool l.first, .bool l.space, .slice 1 (l.sizes.map (.int .i64)) .full]
def FLoc.none : FLoc := ⟨[], [], [], [], [], [], [], false, false, []⟩
def bfE (i : Nat) (s : List UInt8) : FLoc :=
 ⟨s, aiW (i * 5), aiW (i * 5 + 1), aiW (i * 5 + 2), aiW (i * 5 + 3), [37], aiW (i * 5 + 4), decide (s = [99, 104]) || (decide (s = [104, 105]) || decide (s = [101, 110])), !(decide (s = [104, 105]) || decide (s = [101, 110])), if s = [104, 105] then [3, 2] else [3]⟩
def amW (s : List UInt8) : Option Nat := (List.range 6).find? fun i => decide (ajE i = s)
theorem afV {s : List UInt8} {i : Nat} (hi : i < 6) (h : ajE i = s) (hl : ∀ j, j < i → ajE j ≠ s) : amW s = some i := by
 unfold amW
 rw [List.find?_eq_some_iff_append]
 refine ⟨by simp [h], List.range i, (List.range' (i + 1) (5 - i)), ?_, fun j hj => by simpa using hl j (by simpa using hj)⟩
 have : i = 0 ∨ i = 1 ∨ i = 2 ∨ i = 3 ∨ i = 4 ∨ i = 5 := by omega
 rcases this with rfl | rfl | rfl | rfl | rfl | rfl <;> rfl
theorem baX {s : List UInt8} (hl : ∀ j, j < 6 → ajE j ≠ s) : amW s = none := by
 unfold amW
 rw [List.find?_eq_none]
 intro j hj
 simpa using hl j (by simpa using hj)
def aeT (s : List UInt8) : FLoc × Int := match amW s with | some i => (bfE i s, 0) | none => (FLoc.none, 8)
def locs : List Loc := [⟨[99, 104], [46], [226, 128, 153], [59], [45], [37], [67, 72, 70], true, true, 3⟩, ⟨[100, 101], [44], [46], [59], [45], [37], [226, 130, 172], false, true, 3⟩, ⟨[101, 110], [46], [44], [44], [45], [37], [36], true, false, 3⟩,
  ⟨[102, 114], [44], [226, 128, 175], [59], [45], [37], [226, 130, 172], false, true, 3⟩, ⟨[104, 105], [46], [44], [44], [45], [37], [226, 130, 185], true, false, 2⟩, ⟨[115, 118], [44], [194, 160], [59], [226, 136, 146], [37], [107, 114], false, true, 3⟩]
def szA (l : Loc) : AV := .slice 1 ((if l.second = 2 then [3, 2] else [3] : List Int).map (.int .i64)) .full
theorem aaB : ∀ l ∈ locs, l.ok := by
 intro l hl
 simp only [locs, List.mem_cons, List.not_mem_nil, or_false] at hl
 rcases hl with rfl | rfl | rfl | rfl | rfl | rfl <;> (unfold Loc.ok; simp)
theorem bfZ : ∀ l ∈ locs, (.agg (aeT l.name).1.cs : AV) = pL l (szA l) ∧ (aeT l.name).2 = 0 := by
 intro l hl
 simp only [locs, List.mem_cons, List.not_mem_nil, or_false] at hl
 rcases hl with rfl | rfl | rfl | rfl | rfl | rfl <;> exact ⟨rfl, rfl⟩

def find_J (s : List UInt8) (b2 : Nat) (H : Heap) : Nat → Env → Heap → Prop := fun k env H1 => ∃ i : Nat, i ≤ 6 ∧ (∀ j, j < i → ajE j ≠ s) ∧ env = [(0, .str s), (2, .ptr (some ⟨b2, 0, none⟩)), (6, .int .i64 i)] ∧ H1 = H.set b2 (.box 29 [.str [], .str [], .str [], .str [], .str [], .str [], .str [], .bool false, .bool false, .slice 1 [] .full]) ∧ k = 6 - i

set_option maxRecDepth 100000 in
theorem bcF (s : List UInt8) (H : Heap) : ACall Tryz.prog 31 [.str s] H (fun y H' => y = .tuple [.agg (aeT s).1.cs, .int .i64 (aeT s).2] ∧ H' = H) := by
 refine ACall.of_body Tryz.func31 rfl Tryz.ntmps31 Tryz.results31 rfl ?_
 refine .seq (.region (.s rfl (zG Tryz.zeroValue29 (zr29)) ?_))
 rintro _ _ ⟨b2, hb2, rfl, hH⟩
 obtain rfl := hH.symm
 refine .p rfl (zD zI) (.nil ?_)
 refine Next.go ?_
 refine .seq (.seq (.region (.p rfl (zT zI) (.nil ?_))))
 refine Next.go ?_
 refine .block ?_
 refine AWP.loopW (find_J s b2 H) (6) ⟨0, Nat.zero_le _, fun j h => absurd h (Nat.not_lt_zero _), rfl, rfl, rfl⟩ sX (Heap.le.refl _) ?_
 rintro _ _ _ ⟨i, hi, hl, rfl, rfl, rfl⟩
 refine .seq (.region (.p rfl (adN (tm rfl) zI) (.nil ?_)))
 refine Next.go ?_
 refine .seq ?_
 refine AWP.cond (tm rfl) (fun hc7 => ?_) (fun hc7 => ?_)
 ·try simp only [decide_eq_true_eq, decide_eq_false_iff_not, Bool.not_eq_true', Bool.not_eq_false', Int.not_lt, Int.not_le, ne_eq, Decidable.not_not] at hc7
  have hi6 : i < 6 := by omega
  refine .skip ?_
  refine Next.go ?_
  refine .seq (.block (.seq (.region (.mv rfl rfl (.as rfl rfl (.nil ?_))))))
  refine Next.go ?_
  refine .seq (.seq (.region (.mv rfl rfl (.p rfl (qA Tryz.underlying117 Tryz.sizeOf9 (.global _) (tm rfl) (by omega) (by omega)) (.e rfl (acQ Tryz.isAgg9 (tm rfl) (inv_name hi6)) (.mv rfl rfl (.p rfl (akZ (tm rfl) (tm rfl)) (.nil ?_))))))))
  refine Next.go ?_
  refine AWP.cond (tm rfl) (fun hc13 => ?_) (fun hc13 => ?_)
  ·try simp only [decide_eq_true_eq, decide_eq_false_iff_not, Bool.not_eq_true', Bool.not_eq_false', Int.not_lt, Int.not_le, ne_eq, Decidable.not_not] at hc13
   refine .exit ?_
   refine Next.ex ?_
   refine Block.hit ?_
   refine Next.go ?_
   refine .region (.p rfl (aeP (tm rfl) zI (by omega)) (.mv rfl rfl (.nil ?_)))
   refine Next.go ?_
   refine Round.mk (J := find_J s b2 H) ⟨i + 1, by omega, fun j hj => by rcases Nat.lt_or_ge j i with h | h; exact hl j h; rw [show j = i by omega]; exact hc13, rfl, rfl, rfl⟩ sX (Heap.le.refl _) (by omega)
  ·try simp only [decide_eq_true_eq, decide_eq_false_iff_not, Bool.not_eq_true', Bool.not_eq_false', Int.not_lt, Int.not_le, ne_eq, Decidable.not_not] at hc13
   refine .skip ?_
   refine Next.go ?_
   refine .seq ?_
   refine AWP.draw [(0, true), (1, true), (2, true), (3, true), (4, true), (5, true), (6, true), (7, true), (8, true), (9, true), (10, true), (11, true), (12, true), (13, true), (14, true), (15, true), (16, true), (17, true), (18, true), (19, true), (20, true), (21, true), (22, true), (23, false), (24, false)] rfl (by decide +kernel) ?_
   refine .p rfl rfl (zT (tm rfl)) (.p rfl rfl (zT (tm rfl)) (.p rfl rfl (qA Tryz.underlying119 Tryz.sizeOf118 (.global _) (tm rfl) (by omega) (by omega)) (.p rfl rfl (qA Tryz.underlying118 Tryz.sizeOf9 (tm rfl) zI (by omega) (by omega)) ?_)))
   refine APlan.f rfl rfl (fun _ => acQ Tryz.isAgg9 (tm rfl) (ahK hi6 0 (by decide) _ (by omega))) ?_
   refine .p rfl rfl (zT (tm rfl)) (.p rfl rfl (qA Tryz.underlying119 Tryz.sizeOf118 (.global _) (tm rfl) (by omega) (by omega)) (.p rfl rfl (qA Tryz.underlying118 Tryz.sizeOf9 (tm rfl) zI (by omega) (by omega)) ?_))
   refine APlan.f rfl rfl (fun _ => acQ Tryz.isAgg9 (tm rfl) (ahK hi6 1 (by decide) _ (by omega))) ?_
   refine .p rfl rfl (zT (tm rfl)) (.p rfl rfl (qA Tryz.underlying119 Tryz.sizeOf118 (.global _) (tm rfl) (by omega) (by omega)) (.p rfl rfl (qA Tryz.underlying118 Tryz.sizeOf9 (tm rfl) zI (by omega) (by omega)) ?_))
   refine APlan.f rfl rfl (fun _ => acQ Tryz.isAgg9 (tm rfl) (ahK hi6 2 (by decide) _ (by omega))) ?_
   refine .p rfl rfl (zT (tm rfl)) (.p rfl rfl (qA Tryz.underlying119 Tryz.sizeOf118 (.global _) (tm rfl) (by omega) (by omega)) (.p rfl rfl (qA Tryz.underlying118 Tryz.sizeOf9 (tm rfl) zI (by omega) (by omega)) ?_))
   refine APlan.f rfl rfl (fun _ => acQ Tryz.isAgg9 (tm rfl) (ahK hi6 3 (by decide) _ (by omega))) ?_
   refine .p rfl rfl (zT (tm rfl)) (.p rfl rfl (qA Tryz.underlying119 Tryz.sizeOf118 (.global _) (tm rfl) (by omega) (by omega)) (.p rfl rfl (qA Tryz.underlying118 Tryz.sizeOf9 (tm rfl) zI (by omega) (by omega)) ?_))
   refine APlan.f rfl rfl (fun _ => acQ Tryz.isAgg9 (tm rfl) (ahK hi6 4 (by decide) _ (by omega))) ?_
   refine APlan.f rfl rfl (fun _ => agZ Tryz.underlying27 Tryz.sizeOf3 Tryz.zeroValue3 rfl zI (.inl rfl) ⟨rfl, rfl⟩) ?_
   refine .p rfl rfl (abI [(0, 1), (1, 1), (2, 1), (3, 1), (4, 1), (5, 1), (6, 1), (7, 1), (8, 1), (9, 1)] Tryz.underlying29 Tryz.zeroValue29 (zr29) rfl (pl29 _ Tryz.underlying29) (.cons (tm rfl) (.inl rfl) (.cons (tm rfl) (.inl rfl) (.cons (tm rfl) (.inl rfl) (.cons (tm rfl) (.inl rfl) (.cons (tm rfl) (.inl rfl) (.cons (zM rfl) (.inl rfl) (.cons (tm rfl) (.inl rfl) (.cons yF (.inl rfl) (.cons yF (.inl rfl) (.cons (tm rfl) (.inl rfl) .nil)))))))))) rfl rfl) ?_
   refine .s rfl rfl (zG Tryz.zeroValue29 (zr29)) ?_
   rintro _ _ ⟨b5, hb5, rfl, hH⟩
   obtain rfl := hH.symm
   have hn2_5 := Heap.ne_of (Heap.objs_set_same _ _ _) hb5
   refine .s0 rfl (zB Tryz.sizeOf29 (tm rfl) (tm rfl) rfl rfl (.inr ⟨_, rfl⟩) (Heap.objs_set_same _ _ _) (Nat.le_of_ble_eq_true rfl)) ?_
   rintro _ _ ⟨rfl, hH⟩
   obtain rfl := hH.symm
   try first | rw [Heap.set_set] | rw [Heap.set_under (by assumption)]
   iterate 23 refine AX ?_
   refine AWP.cond (tm rfl) (fun hc38 => ?_) (fun hc38 => ?_)
   ·try simp only [decide_eq_true_eq, decide_eq_false_iff_not, Bool.not_eq_true', Bool.not_eq_false', Int.not_lt, Int.not_le, ne_eq, Decidable.not_not] at hc38
    iterate 7 refine AX ?_
    refine .p rfl (zJ Tryz.underlying29 rfl Tryz.sizeOf4 (tm rfl)) (.e0 (zB Tryz.sizeOf4 (tm rfl) yF rfl rfl (.inl rfl) (Heap.objs_set_same _ _ _) (Nat.le_of_ble_eq_true rfl)) ?_)
    try first | rw [Heap.set_set] | rw [Heap.set_under (by assumption)]
    iterate 11 refine AX ?_
    refine .e rfl (zV Tryz.isAgg29 Tryz.sizeOf29 (tm rfl) (Heap.objs_set_same _ _ _) (Nat.le_of_ble_eq_true rfl)) (.e0 (zB Tryz.sizeOf29 (tm rfl) (tm rfl) rfl rfl (.inr ⟨_, rfl⟩) ((Heap.objs_set_ne _ _ (by assumption)).trans (Heap.objs_set_same _ _ _)) (Nat.le_of_ble_eq_true rfl)) ?_)
    try first | rw [Heap.set_set] | rw [Heap.set_under (by assumption)]
    iterate 3 refine AX ?_
    refine AWP.dropb (Heap.fresh_set hb5 _) ?_
    refine AWP.frz (t := 2) rfl (hb2) ?_
    iterate 6 refine AX ?_
    refine Ret.go (.cons (.cellI _ _ _ _ rfl Tryz.isAgg29 Tryz.sizeOf29 rfl) (.cons (.tmp _ _ rfl) .nil)) _ (Heap.le.refl _) ?_
    refine ⟨?_, rfl⟩
    have hf : amW s = some i := afV hi6 hc13 hl
    simp only [zU, aeT, hf]
    simp_all [bfE, FLoc.cs]
    all_goals rfl
   ·try simp only [decide_eq_true_eq, decide_eq_false_iff_not, Bool.not_eq_true', Bool.not_eq_false', Int.not_lt, Int.not_le, ne_eq, Decidable.not_not] at hc38
    iterate 9 refine AX ?_
    refine AWP.cond (tm rfl) (fun hc40 => ?_) (fun hc40 => ?_)
    ·try simp only [decide_eq_true_eq, decide_eq_false_iff_not, Bool.not_eq_true', Bool.not_eq_false', Int.not_lt, Int.not_le, ne_eq, Decidable.not_not] at hc40
     iterate 8 refine AX ?_
     refine .e rfl (afO Tryz.underlying27 Tryz.sizeOf3 Tryz.zeroValue3 rfl zI (.inl rfl) ⟨rfl, rfl⟩ zI (.inl rfl) ⟨rfl, rfl⟩) (.p rfl (zJ Tryz.underlying29 rfl Tryz.sizeOf27 (tm rfl)) (.e0 (zB Tryz.sizeOf27 (tm rfl) (tm rfl) rfl rfl (.inl rfl) (Heap.objs_set_same _ _ _) (Nat.le_of_ble_eq_true rfl)) ?_))
     try first | rw [Heap.set_set] | rw [Heap.set_under (by assumption)]
     iterate 5 refine AX ?_
     refine .p rfl (zJ Tryz.underlying29 rfl Tryz.sizeOf4 (tm rfl)) (.e0 (zB Tryz.sizeOf4 (tm rfl) yF rfl rfl (.inl rfl) (Heap.objs_set_same _ _ _) (Nat.le_of_ble_eq_true rfl)) ?_)
     try first | rw [Heap.set_set] | rw [Heap.set_under (by assumption)]
     refine .p rfl (zJ Tryz.underlying29 rfl Tryz.sizeOf4 (tm rfl)) (.e0 (zB Tryz.sizeOf4 (tm rfl) yF rfl rfl (.inl rfl) (Heap.objs_set_same _ _ _) (Nat.le_of_ble_eq_true rfl)) ?_)
     try first | rw [Heap.set_set] | rw [Heap.set_under (by assumption)]
     iterate 7 refine AX ?_
     refine .e rfl (zV Tryz.isAgg29 Tryz.sizeOf29 (tm rfl) (Heap.objs_set_same _ _ _) (Nat.le_of_ble_eq_true rfl)) (.e0 (zB Tryz.sizeOf29 (tm rfl) (tm rfl) rfl rfl (.inr ⟨_, rfl⟩) ((Heap.objs_set_ne _ _ (by assumption)).trans (Heap.objs_set_same _ _ _)) (Nat.le_of_ble_eq_true rfl)) ?_)
     try first | rw [Heap.set_set] | rw [Heap.set_under (by assumption)]
     iterate 3 refine AX ?_
     refine AWP.dropb (Heap.fresh_set hb5 _) ?_
     refine AWP.frz (t := 2) rfl (hb2) ?_
     iterate 6 refine AX ?_
     refine Ret.go (.cons (.cellI _ _ _ _ rfl Tryz.isAgg29 Tryz.sizeOf29 rfl) (.cons (.tmp _ _ rfl) .nil)) _ (Heap.le.refl _) ?_
     refine ⟨?_, rfl⟩
     have hf : amW s = some i := afV hi6 hc13 hl
     simp only [zU, aeT, hf]
     simp_all [bfE, FLoc.cs]
     all_goals rfl
    ·try simp only [decide_eq_true_eq, decide_eq_false_iff_not, Bool.not_eq_true', Bool.not_eq_false', Int.not_lt, Int.not_le, ne_eq, Decidable.not_not] at hc40
     iterate 8 refine AX ?_
     refine AWP.cond (tm rfl) (fun hc42 => ?_) (fun hc42 => ?_)
     ·try simp only [decide_eq_true_eq, decide_eq_false_iff_not, Bool.not_eq_true', Bool.not_eq_false', Int.not_lt, Int.not_le, ne_eq, Decidable.not_not] at hc42
      iterate 10 refine AX ?_
      refine .p rfl (zJ Tryz.underlying29 rfl Tryz.sizeOf4 (tm rfl)) (.e0 (zB Tryz.sizeOf4 (tm rfl) yF rfl rfl (.inl rfl) (Heap.objs_set_same _ _ _) (Nat.le_of_ble_eq_true rfl)) ?_)
      try first | rw [Heap.set_set] | rw [Heap.set_under (by assumption)]
      refine .p rfl (zJ Tryz.underlying29 rfl Tryz.sizeOf4 (tm rfl)) (.e0 (zB Tryz.sizeOf4 (tm rfl) yF rfl rfl (.inl rfl) (Heap.objs_set_same _ _ _) (Nat.le_of_ble_eq_true rfl)) ?_)
      try first | rw [Heap.set_set] | rw [Heap.set_under (by assumption)]
      iterate 7 refine AX ?_
      refine .e rfl (zV Tryz.isAgg29 Tryz.sizeOf29 (tm rfl) (Heap.objs_set_same _ _ _) (Nat.le_of_ble_eq_true rfl)) (.e0 (zB Tryz.sizeOf29 (tm rfl) (tm rfl) rfl rfl (.inr ⟨_, rfl⟩) ((Heap.objs_set_ne _ _ (by assumption)).trans (Heap.objs_set_same _ _ _)) (Nat.le_of_ble_eq_true rfl)) ?_)
      try first | rw [Heap.set_set] | rw [Heap.set_under (by assumption)]
      iterate 3 refine AX ?_
      refine AWP.dropb (Heap.fresh_set hb5 _) ?_
      refine AWP.frz (t := 2) rfl (hb2) ?_
      iterate 6 refine AX ?_
      refine Ret.go (.cons (.cellI _ _ _ _ rfl Tryz.isAgg29 Tryz.sizeOf29 rfl) (.cons (.tmp _ _ rfl) .nil)) _ (Heap.le.refl _) ?_
      refine ⟨?_, rfl⟩
      have hf : amW s = some i := afV hi6 hc13 hl
      simp only [zU, aeT, hf]
      simp_all [bfE, FLoc.cs]
      all_goals rfl
     ·try simp only [decide_eq_true_eq, decide_eq_false_iff_not, Bool.not_eq_true', Bool.not_eq_false', Int.not_lt, Int.not_le, ne_eq, Decidable.not_not] at hc42
      iterate 13 refine AX ?_
      refine .e rfl (zV Tryz.isAgg29 Tryz.sizeOf29 (tm rfl) (Heap.objs_set_same _ _ _) (Nat.le_of_ble_eq_true rfl)) (.e0 (zB Tryz.sizeOf29 (tm rfl) (tm rfl) rfl rfl (.inr ⟨_, rfl⟩) ((Heap.objs_set_ne _ _ (by assumption)).trans (Heap.objs_set_same _ _ _)) (Nat.le_of_ble_eq_true rfl)) ?_)
      try first | rw [Heap.set_set] | rw [Heap.set_under (by assumption)]
      iterate 3 refine AX ?_
      refine AWP.dropb (Heap.fresh_set hb5 _) ?_
      refine AWP.frz (t := 2) rfl (hb2) ?_
      iterate 6 refine AX ?_
      refine Ret.go (.cons (.cellI _ _ _ _ rfl Tryz.isAgg29 Tryz.sizeOf29 rfl) (.cons (.tmp _ _ rfl) .nil)) _ (Heap.le.refl _) ?_
      refine ⟨?_, rfl⟩
      have hf : amW s = some i := afV hi6 hc13 hl
      simp only [zU, aeT, hf]
      simp_all [bfE, FLoc.cs]
      all_goals rfl
 ·try simp only [decide_eq_true_eq, decide_eq_false_iff_not, Bool.not_eq_true', Bool.not_eq_false', Int.not_lt, Int.not_le, ne_eq, Decidable.not_not] at hc7
  iterate 7 refine AX ?_
  refine .p rfl (zL [(0, 1), (1, 1), (2, 1), (3, 1), (4, 1), (5, 1), (6, 1), (7, 1), (8, 1), (9, 1)] Tryz.underlying29 Tryz.zeroValue29 (zr29) rfl (pl29 _ Tryz.underlying29) .nil rfl) (.e0 (zB Tryz.sizeOf29 (tm rfl) (tm rfl) rfl rfl (.inr ⟨_, rfl⟩) (Heap.objs_set_same _ _ _) (Nat.le_of_ble_eq_true rfl)) ?_)
  try first | rw [Heap.set_set] | rw [Heap.set_under (by assumption)]
  iterate 3 refine AX ?_
  refine AWP.frz (t := 2) rfl (hb2) ?_
  refine AX ?_
  refine Ret.go (.cons (.cellI _ _ _ _ rfl Tryz.isAgg29 Tryz.sizeOf29 rfl) (.cons (.tmp _ _ rfl) .nil)) _ (Heap.le.refl _) ?_
  refine ⟨?_, rfl⟩
  have hf : amW s = none := baX fun j hj => hl j (by omega)
  simp only [zU, aeT, hf]
  rfl

theorem aoI {l : Loc} (hl : l ∈ locs) (H : Heap) : ACall Tryz.prog 31 [.str l.name] H (fun y H' => y = .tuple [pL l (szA l), .int .i64 0] ∧ H' = H) := by
 have h := bcF l.name H
 obtain ⟨h1, h2⟩ := bfZ l hl
 rw [h1, h2] at h
 exact h

set_option maxRecDepth 100000 in
theorem bhF (H : Heap) : ACall Tryz.prog 36 [] H (fun y H' => y = .slice 10 (locs.map rL) .full ∧ H' = H) := by
 refine ACall.of_body Tryz.func36 rfl Tryz.ntmps36 Tryz.results36 rfl ?_
 iterate 2 refine AX ?_
 refine .p rfl (zD (aaO (sz := 10) (tl := .full))) ?_
 iterate 4 refine AX ?_
 refine .p rfl (abI [(0, 1), (1, 1), (2, 1), (3, 1), (4, 1), (5, 1), (6, 1), (7, 1), (8, 1), (9, 1)] Tryz.underlying31 Tryz.zeroValue31 (zr31) rfl (pl31 _ Tryz.underlying31) (.cons (zM rfl) (.inl rfl) (.cons (zM rfl) (.inl rfl) (.cons (zM rfl) (.inl rfl) (.cons (zM rfl) (.inl rfl) (.cons (zM rfl) (.inl rfl) (.cons (zM rfl) (.inl rfl) (.cons (zM rfl) (.inl rfl) (.cons yF (.inl rfl) (.cons yF (.inl rfl) (.cons zI (.inl rfl) .nil)))))))))) rfl rfl) ?_
 refine .p rfl (abI [(0, 1), (1, 1), (2, 1), (3, 1), (4, 1), (5, 1), (6, 1), (7, 1), (8, 1), (9, 1)] Tryz.underlying31 Tryz.zeroValue31 (zr31) rfl (pl31 _ Tryz.underlying31) (.cons (zM rfl) (.inl rfl) (.cons (zM rfl) (.inl rfl) (.cons (zM rfl) (.inl rfl) (.cons (zM rfl) (.inl rfl) (.cons (zM rfl) (.inl rfl) (.cons (zM rfl) (.inl rfl) (.cons (zM rfl) (.inl rfl) (.cons yF (.inl rfl) (.cons yF (.inl rfl) (.cons zI (.inl rfl) .nil)))))))))) rfl rfl) ?_
 refine .p rfl (abI [(0, 1), (1, 1), (2, 1), (3, 1), (4, 1), (5, 1), (6, 1), (7, 1), (8, 1), (9, 1)] Tryz.underlying31 Tryz.zeroValue31 (zr31) rfl (pl31 _ Tryz.underlying31) (.cons (zM rfl) (.inl rfl) (.cons (zM rfl) (.inl rfl) (.cons (zM rfl) (.inl rfl) (.cons (zM rfl) (.inl rfl) (.cons (zM rfl) (.inl rfl) (.cons (zM rfl) (.inl rfl) (.cons (zM rfl) (.inl rfl) (.cons yF (.inl rfl) (.cons yF (.inl rfl) (.cons zI (.inl rfl) .nil)))))))))) rfl rfl) ?_
 refine .p rfl (abI [(0, 1), (1, 1), (2, 1), (3, 1), (4, 1), (5, 1), (6, 1), (7, 1), (8, 1), (9, 1)] Tryz.underlying31 Tryz.zeroValue31 (zr31) rfl (pl31 _ Tryz.underlying31) (.cons (zM rfl) (.inl rfl) (.cons (zM rfl) (.inl rfl) (.cons (zM rfl) (.inl rfl) (.cons (zM rfl) (.inl rfl) (.cons (zM rfl) (.inl rfl) (.cons (zM rfl) (.inl rfl) (.cons (zM rfl) (.inl rfl) (.cons yF (.inl rfl) (.cons yF (.inl rfl) (.cons zI (.inl rfl) .nil)))))))))) rfl rfl) ?_
 refine .p rfl (abI [(0, 1), (1, 1), (2, 1), (3, 1), (4, 1), (5, 1), (6, 1), (7, 1), (8, 1), (9, 1)] Tryz.underlying31 Tryz.zeroValue31 (zr31) rfl (pl31 _ Tryz.underlying31) (.cons (zM rfl) (.inl rfl) (.cons (zM rfl) (.inl rfl) (.cons (zM rfl) (.inl rfl) (.cons (zM rfl) (.inl rfl) (.cons (zM rfl) (.inl rfl) (.cons (zM rfl) (.inl rfl) (.cons (zM rfl) (.inl rfl) (.cons yF (.inl rfl) (.cons yF (.inl rfl) (.cons zI (.inl rfl) .nil)))))))))) rfl rfl) ?_
 refine .p rfl (abI [(0, 1), (1, 1), (2, 1), (3, 1), (4, 1), (5, 1), (6, 1), (7, 1), (8, 1), (9, 1)] Tryz.underlying31 Tryz.zeroValue31 (zr31) rfl (pl31 _ Tryz.underlying31) (.cons (zM rfl) (.inl rfl) (.cons (zM rfl) (.inl rfl) (.cons (zM rfl) (.inl rfl) (.cons (zM rfl) (.inl rfl) (.cons (zM rfl) (.inl rfl) (.cons (zM rfl) (.inl rfl) (.cons (zM rfl) (.inl rfl) (.cons yF (.inl rfl) (.cons yF (.inl rfl) (.cons zI (.inl rfl) .nil)))))))))) rfl rfl) ?_
 refine .e rfl (aoV Tryz.underlying69 Tryz.sizeOf31 Tryz.zeroValue31 rfl rfl rfl (.cons (tm rfl) (.inr ⟨_, rfl⟩) (.cons (tm rfl) (.inr ⟨_, rfl⟩) (.cons (tm rfl) (.inr ⟨_, rfl⟩) (.cons (tm rfl) (.inr ⟨_, rfl⟩) (.cons (tm rfl) (.inr ⟨_, rfl⟩) (.cons (tm rfl) (.inr ⟨_, rfl⟩) .nil)))))) (aaH ⟨rfl, rfl⟩ (aaH ⟨rfl, rfl⟩ (aaH ⟨rfl, rfl⟩ (aaH ⟨rfl, rfl⟩ (aaH ⟨rfl, rfl⟩ (aaH ⟨rfl, rfl⟩ bdP))))))) ?_
 iterate 4 refine AX ?_
 refine Ret.go (.cons (.tmp _ _ rfl) .nil) _ (Heap.le.refl _) ?_
 exact ⟨rfl, rfl⟩

set_option maxRecDepth 100000 in
theorem anW (n : Nat) (hn : 0 < n ∧ n ≤ 100) (c : Int) (hc : -9223372036854775808 ≤ c ∧ c ≤ 9223372036854775807) (H : Heap) : ACall Tryz.prog 24 [.int .i64 c, .int .i64 (n : Int)] H (fun y H' => (∃ k : Nat, k < n ∧ y = .int .i64 (k : Int)) ∧ H' = H) := by
 refine ACall.of_body Tryz.func24 rfl Tryz.ntmps24 Tryz.results24 rfl ?_
 iterate 5 refine AX ?_
 refine AWP.seqToL [(0, .int .i64 (if c < 0 then -(c + 1) else c))] [1, 4] ?_ ?_
 ·iterate 6 refine AX ?_
  refine AWP.cx rfl (fun hc6 => ?_) (fun hc6 => ?_)
  ·iterate 6 refine AX ?_
   exact ⟨rfl, (zZ rfl (by (rw [if_pos (by assumption)]; done)) sX), rfl⟩
  ·refine AX ?_
   exact ⟨rfl, (zZ rfl (by (rw [if_neg (by omega)]; done)) sX), rfl⟩
 ·refine AWP.sub [(0, _), (1, _), (4, _)] sX ?_
  generalize hq : (if c < 0 then -(c + 1) else c) = q
  have hq0 : 0 ≤ q := by rw [← hq]; split <;> omega
  have hm1 := Int.emod_nonneg q (show (n : Int) ≠ 0 by omega)
  have hm2 := Int.emod_lt_of_pos q (show 0 < (n : Int) by omega)
  iterate 4 refine AX ?_
  refine .p rfl (apK (tm rfl) (tm rfl) (by omega)) ?_
  iterate 4 refine AX ?_
  refine Ret.go (.cons (.tmp _ _ rfl) .nil) _ (Heap.le.refl _) ?_
  refine ⟨⟨(q % (n : Int)).toNat, by omega, ?_⟩, rfl⟩
  show AV.int .i64 _ = _
  congr 1
  rw [Int.tmod_eq_emod_of_nonneg hq0]
  omega

set_option maxRecDepth 100000 in
theorem avR (c : Int) (hc : -9223372036854775808 ≤ c ∧ c ≤ 9223372036854775807) (H : Heap) : ACall Tryz.prog 10 [.int .i64 c] H (fun y H' => (∃ l, l ∈ locs ∧ y = .tuple [pL l (szA l), rL l]) ∧ H' = H) := by
 refine ACall.of_body Tryz.func10 rfl Tryz.ntmps10 Tryz.results10 rfl ?_
 iterate 2 refine AX ?_
 refine .s rfl (zG Tryz.zeroValue29 (zr29)) ?_
 rintro _ _ ⟨b2, hb2, rfl, hH⟩
 obtain rfl := hH.symm
 refine .s rfl (zG Tryz.zeroValue31 (zr31)) ?_
 rintro _ _ ⟨b3, hb3, rfl, hH⟩
 obtain rfl := hH.symm
 have hn2_3 := Heap.ne_of (Heap.objs_set_same _ _ _) hb3
 iterate 4 refine AX ?_
 refine .cl rfl Tryz.call36 .nil (bhF _) ?_
 refine AX ?_
 refine .s rfl (zC Tryz.call24 (.cons (tm rfl) (.cons zI .nil)) (anW 6 (by decide) c hc _)) ?_
 rintro _ _ ⟨⟨k, hk6, rfl⟩, hH⟩
 obtain rfl := hH.symm
 have hkl : k < locs.length := hk6
 have hlm : locs[k] ∈ locs := List.getElem_mem hkl
 iterate 2 refine AX ?_
 refine .s rfl (zG Tryz.zeroValue31 (zr31)) ?_
 rintro _ _ ⟨b4, hb4, rfl, hH⟩
 obtain rfl := hH.symm
 have hn2_4 := Heap.ne_of (Heap.objs_set_same _ _ _) hb4
 have hn3_4 := Heap.ne_of (Heap.objs_set_same _ _ _) hb4
 refine .e0 (zB Tryz.sizeOf31 (tm rfl) (tm rfl) rfl rfl (.inr ⟨_, rfl⟩) (Heap.objs_set_same _ _ _) (Nat.le_of_ble_eq_true rfl)) ?_
 try first | rw [Heap.set_set] | rw [Heap.set_under (by assumption)]
 iterate 2 refine AX ?_
 refine AWP.frz (t := 4) rfl (hb4) ?_
 iterate 2 refine AX ?_
 refine .p rfl (zA Tryz.underlying31 rfl Tryz.sizeOf9 (tm rfl)) ?_
 refine AX ?_
 refine .cl rfl Tryz.call31 (evs1 rfl) (aoI hlm _) ?_
 iterate 3 refine AX ?_
 refine .s rfl (zG Tryz.zeroValue29 (zr29)) ?_
 rintro _ _ ⟨b5, hb5, rfl, hH⟩
 obtain rfl := hH.symm
 have hn2_5 := Heap.ne_of (Heap.objs_set_same _ _ _) hb5
 have hn3_5 := Heap.ne_of (Heap.objs_set_same _ _ _) hb5
 refine .e0 (zB Tryz.sizeOf29 (tm rfl) (tm rfl) rfl rfl (.inr ⟨_, rfl⟩) (Heap.objs_set_same _ _ _) (Nat.le_of_ble_eq_true rfl)) ?_
 try first | rw [Heap.set_set] | rw [Heap.set_under (by assumption)]
 iterate 3 refine AX ?_
 refine AWP.frz (t := 5) rfl (hb5) ?_
 refine AX ?_
 refine AWP.draw [(0, true), (1, true), (2, false), (3, false)] rfl (by decide +kernel) ?_
 iterate 2 refine AX ?_
 refine .s0 rfl (zB Tryz.sizeOf29 (tm rfl) (tm rfl) rfl rfl (.inr ⟨_, rfl⟩) ((Heap.objs_set_ne _ _ (by assumption)).trans (Heap.objs_set_same _ _ _)) (Nat.le_of_ble_eq_true rfl)) ?_
 rintro _ _ ⟨rfl, hH⟩
 obtain rfl := hH.symm
 try first | rw [Heap.set_set] | rw [Heap.set_under (by assumption)]
 refine .s0 rfl (zB Tryz.sizeOf31 (tm rfl) (tm rfl) rfl rfl (.inr ⟨_, rfl⟩) (Heap.objs_set_same _ _ _) (Nat.le_of_ble_eq_true rfl)) ?_
 rintro _ _ ⟨rfl, hH⟩
 obtain rfl := hH.symm
 try first | rw [Heap.set_set] | rw [Heap.set_under (by assumption)]
 iterate 2 refine AX ?_
 refine AWP.frz (t := 3) rfl (Heap.fresh_set hb3 _) ?_
 refine AWP.frz (t := 2) rfl (hb2) ?_
 refine AX ?_
 refine Ret.go (.cons (.cellI _ _ _ _ rfl Tryz.isAgg29 Tryz.sizeOf29 rfl) (.cons (.cellI _ _ _ _ rfl Tryz.isAgg31 Tryz.sizeOf31 rfl) .nil)) _ (Heap.le.refl _) ?_
 exact ⟨⟨locs[k], hlm, rfl⟩, rfl⟩

end Go.Proofs.YtmmgbnolccpjoaaGreatDoor
