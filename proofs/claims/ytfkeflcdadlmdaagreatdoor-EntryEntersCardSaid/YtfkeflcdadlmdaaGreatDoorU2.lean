import Derived.Test.YtfkeflcdadlmdaaGreatDoorYd
import Derived.Test.YtfkeflcdadlmdaaGreatDoorSsk
import Derived.Test.YtfkeflcdadlmdaaGreatDoorU1
namespace Go.Proofs.YtfkeflcdadlmdaaGreatDoor
open Go Go.RowKit

theorem zr32 : ∀ g, RelCells g [.int .u64 0, .int .i64 0, .int .i64 0, .bool false, .bool false] (Value.cells (Go.Value.agg #[Go.Value.int Go.IntKind.u64 0, Go.Value.int Go.IntKind.i64 0, Go.Value.int Go.IntKind.i64 0, Go.Value.bool false, Go.Value.bool false])) := fun g => RelL.cells (.cons (.int _ _) (.cons (.int _ _) (.cons (.int _ _) (.cons (.bool _) (.cons (.bool _) .nil)))))
theorem pl32 (fs : Array Field) (hfs : Tryz.prog.underlying 32 = some (.struct fs)) : ∀ (i : Nat) f p, fs[i]? = some f → [(0, 1), (1, 1), (2, 1), (3, 1), (4, 1)][i]? = some p → ∀ w, (sizeOf f.type).run Tryz.prog w = .ok p.2 w := by
 have e := (Option.some.inj (hfs.symm.trans Tryz.underlying32))
 cases e
 intro i f p hf hp w
 match i with
 | 0 => cases hf; cases hp; exact Tryz.sizeOf30 w
 | 1 => cases hf; cases hp; exact Tryz.sizeOf3 w
 | 2 => cases hf; cases hp; exact Tryz.sizeOf3 w
 | 3 => cases hf; cases hp; exact Tryz.sizeOf4 w
 | 4 => cases hf; cases hp; exact Tryz.sizeOf4 w
 | i + 5 => simp at hp
theorem zr75 : ∀ g, RelCells g [.str [], .int .i64 0] (Value.cells (Go.Value.agg #[Go.Value.string { data := #[] }, Go.Value.int Go.IntKind.i64 0])) := fun g => RelL.cells (.cons ((.str [] (Nat.zero_le _))) (.cons (.int _ _) .nil))
structure EntN where
 bits : Nat
 kind : Int
 places : Int
 grouped : Bool
 exp : Bool
def EntN.cs (o : EntN) : List AV := [.int .u64 (o.bits : Int), .int .i64 o.kind, .int .i64 o.places, .bool o.grouped, .bool o.exp]
structure PartN where
 digits : List UInt8
 exp : Int
def PartN.av (p : PartN) : AV := .agg [.str p.digits, .int .i64 p.exp]
def eAt (s : List UInt8) : Int := Lib.indexByte (Lib.replaceAll s [69] [101]) 101
def ahB (l : Loc) (s : List UInt8) : Option (List UInt8 × Int × Bool) :=
 if 0 ≤ eAt s then (match auX l (s.drop ((eAt s).toNat + 1)) with | some n => some (s.take (eAt s).toNat, n, true) | none => none) else some (s, 0, false)
def abI (l : Loc) (w : List UInt8) : Option (List UInt8 × Bool) :=
 if w = [] then some ([], false) else match abX l w with | none => none | some d => some (d, !decide (d = w))
def badB (a b : List UInt8) : Bool := (decide (a = []) && decide (b = [])) || decide (qE adD b.length b ≠ [])
def ajA (l : Loc) (s : List UInt8) : Option (List UInt8 × Nat × Bool) :=
 if badB (Lib.cut s l.dc).1 (Lib.cut s l.dc).2.1 = true then none
 else match abI l (Lib.cut s l.dc).1 with | none => none | some (d, g) => some (d ++ (Lib.cut s l.dc).2.1, (Lib.cut s l.dc).2.1.length, g)
def alA (l : Loc) (s : List UInt8) : Option (List UInt8 × Int × Nat × Bool × Bool) :=
 match ahB l s with
 | none => none
 | some (t, n, x) => match ajA l t with | none => none | some (d, k, g) => some (d, n - k, k, g, x)
theorem beE {l : Loc} {s : List UInt8} {n : Int} (h : auX l s = some n) : -1000000000 < n ∧ n < 1000000000 := by
 unfold auX at h
 split at h
 ·rename_i hc
  have h9 := num_9 (acW.1 hc.2.1) hc.2.2
  injection h with h
  subst h
  split <;> omega
 ·cases h
theorem amW {l : Loc} {s d : List UInt8} (h : abX l s = some d) : Digs d ∧ d.length ≤ s.length ∧ d ≠ [] := by
 unfold abX at h
 split at h
 ·cases h
 ·rename_i hc
  split at h
  ·cases h
  ·injection h with h
   subst h
   refine ⟨?_, azO _ _, fun q => hc (.inl q)⟩
   rcases Bool.eq_false_or_eq_true (aqC (Lib.replaceAll s l.grp [])) with q | q
   ·exact acW.1 q
   ·exact absurd (.inr q) hc
theorem alJ {l : Loc} {w d : List UInt8} {gr : Bool} (h : abI l w = some (d, gr)) : Digs d ∧ d.length ≤ w.length := by
 unfold abI at h
 split at h
 ·injection h with h
  injection h with h1 h2
  subst h1
  exact ⟨fun b hb => by simp at hb, Nat.zero_le _⟩
 ·cases hp : abX l w with
  | none => rw [hp] at h; cases h
  | some q =>
   rw [hp] at h
   injection h with h
   injection h with h1 h2
   subst h1
   have := amW hp
   exact ⟨this.1, this.2.1⟩
theorem aqH {a b : List UInt8} (h : badB a b = false) : Digs b := by
 unfold badB at h
 simp only [Bool.or_eq_false_iff, decide_eq_false_iff_not, Decidable.not_not] at h
 exact (adP _ _ (Nat.le_refl _)).1 h.2
theorem beO {l : Loc} {s d : List UInt8} {k : Nat} {gr : Bool} (h : ajA l s = some (d, k, gr)) : Digs d ∧ d.length ≤ 2 * s.length ∧ k ≤ s.length := by
 have hl := ayG s l.dc
 unfold ajA at h
 split at h
 ·cases h
 ·rename_i hb
  cases hw : abI l (Lib.cut s l.dc).1 with
  | none => rw [hw] at h; cases h
  | some q =>
   obtain ⟨q, g2⟩ := q
   rw [hw] at h
   injection h with h
   injection h with h1 h2
   injection h2 with h2 h3
   subst h1; subst h2
   have := alJ hw
   refine ⟨Digs.app this.1 (aqH (by simpa using hb)), ?_, hl.2⟩
   rw [List.length_append]; omega
theorem apV {l : Loc} {s t : List UInt8} {n : Int} {x : Bool} (h : ahB l s = some (t, n, x)) : t.length ≤ s.length ∧ -1000000000 < n ∧ n < 1000000000 := by
 unfold ahB at h
 split at h
 ·cases he : auX l (s.drop ((eAt s).toNat + 1)) with
  | none => rw [he] at h; cases h
  | some m =>
   rw [he] at h
   injection h with h
   injection h with h1 h2
   injection h2 with h2 h3
   subst h1; subst h2
   have := beE he
   exact ⟨by rw [List.length_take]; omega, this⟩
 ·injection h with h
  injection h with h1 h2
  injection h2 with h2 h3
  subst h1; subst h2
  exact ⟨Nat.le_refl _, by decide, by decide⟩
theorem eAtA (s : List UInt8) (H : Heap) : ACall Tryz.prog 100 [.str (Lib.replaceAll s [69] [101]), .int .u8 101] H (fun y H' => y = .int .i64 (eAt s) ∧ H' = H) := indexByteA _ 101 H
theorem aiH {old new : List UInt8} (h : new.length = old.length) : ∀ (k : Nat) (s : List UInt8), (Lib.replaceK old new k s).length = s.length
 | 0, s => rfl
 | k + 1, s => by
  rw [Lib.replaceK]
  split
  ·rfl
  ·rename_i hc
   have hg := Lib.index_ge s old
   have hne : Lib.index s old ≠ -1 := fun q => hc (by simp [q])
   have hr := Lib.index_room s old (by omega)
   simp only [List.length_append, List.length_take, aiH h k, List.length_drop]
   omega
theorem atG {s old new : List UInt8} (h : new.length = old.length) : (Lib.replaceAll s old new).length = s.length := by
 unfold Lib.replaceAll Lib.replace
 split
 ·rfl
 ·exact aiH h _ _
theorem eAt_lt (s : List UInt8) : eAt s < s.length := by
 have h := atG (s := s) (old := [69]) (new := [101]) rfl
 unfold eAt
 rcases Int.lt_or_le (Lib.indexByte (Lib.replaceAll s [69] [101]) 101) 0 with h0 | h0
 ·omega
 ·obtain ⟨o, ho⟩ : ∃ o : Nat, Lib.indexByte (Lib.replaceAll s [69] [101]) 101 = o := ⟨(Lib.indexByte (Lib.replaceAll s [69] [101]) 101).toNat, by omega⟩
  have h1 := (Lib.indexByte_some ho).1
  have h2 := (List.getElem?_eq_some_iff.1 h1).1
  omega

set_option maxRecDepth 100000 in
theorem aeG (l : Loc) (hk : l.ok) (hg : l.grp ≠ []) (b : Nat) (s : List UInt8) (hs : s.length ≤ 1000) (o : EntN) (ho : o.exp = false ∧ o.grouped = false) (bo : Nat) (H : Heap) (hbo : H.objs bo = some (.box 32 (EntN.cs o))) : ACall Tryz.prog 66 [erA l b, .str s, .ptr (some ⟨bo, 0, none⟩)] H (fun y H' => ∃ (p : PartN) (o' : EntN), y = .tuple [p.av, .bool (alA l s).isSome] ∧ H' = H.set bo (.box 32 (EntN.cs o')) ∧ (∀ r, alA l s = some r → p = ⟨r.1, r.2.1⟩ ∧ o' = { o with places := r.2.2.1, grouped := r.2.2.2.1, exp := r.2.2.2.2 }) ∧ -2000000000 ≤ p.exp ∧ p.exp ≤ 2000000000) := by
 have hel := eAt_lt s
 have hoe : ({ o with exp := false } : EntN) = o := by cases o; simp at ho; simp [ho]
 refine ACall.of_body Tryz.func66 rfl Tryz.ntmps66 Tryz.results66 rfl ?_
 iterate 2 refine AX ?_
 refine .s rfl (zL Tryz.zeroValue75 (zr75)) ?_
 rintro _ _ ⟨b6, hb6, rfl, hH⟩
 obtain rfl := hH.symm
 iterate 5 refine AX ?_
 refine .s rfl (zL Tryz.zeroValue75 (zr75)) ?_
 rintro _ _ ⟨b8, hb8, rfl, hH⟩
 obtain rfl := hH.symm
 have hn6_8 := Heap.ne_of (Heap.objs_set_same _ _ _) hb8
 iterate 2 refine AX ?_
 refine AWP.meet (fun env H2 => ∃ (s1 : List UInt8) (n : Int) (x : Bool), ahB l s = some (s1, n, x) ∧ env = [(0, erA l b), (1, .str s1), (2, .ptr (some ⟨bo, 0, none⟩)), (6, .ptr (some ⟨b6, 0, none⟩)), (7, .bool false), (8, .ptr (some ⟨b8, 0, none⟩))] ∧ H2 = ((H.set bo (.box 32 (EntN.cs { o with exp := x }))).set b6 (.box 75 [.str [], .int .i64 0])).set b8 (.box 75 [.str [], .int .i64 n])) ?_ ?_
 ·refine AX ?_
  have ho6 : bo ≠ b6 := by intro q; rw [q, hb6] at hbo; cases hbo
  have hbo6 := (Heap.objs_set_ne H (.box 75 [.str [], .int .i64 0]) ho6).trans hbo
  have ho8 : bo ≠ b8 := by intro q; rw [q, hb8] at hbo6; cases hbo6
  have ho6s := ho6.symm
  have ho8s := ho8.symm
  iterate 2 refine AX ?_
  refine .cl rfl Tryz.call101 (.cons (tm rfl) (.cons (zR rfl) (.cons (zR rfl) .nil))) (replaceA s [69] [101] (by omega) (by decide) (by decide) _) (.cl rfl Tryz.call100 (.cons (tm rfl) (.cons zF .nil)) (eAtA s _) ?_)
  iterate 9 refine AX ?_
  refine AWP.cx rfl (fun hc21 => ?_) (fun hc21 => ?_)
  ·have hdn : (eAt s + 1).toNat = (eAt s).toNat + 1 := by omega
   iterate 5 refine AX ?_
   refine .p rfl (zK (tm rfl) zF (by omega)) (.p rfl (yY Tryz.underlying9 (tm rfl) (tm rfl) (by omega) (by omega)) (.cl rfl Tryz.call102 (evs2 rfl rfl) (aoL l b _ (by simp only [List.length_drop]; omega) _) ?_))
   iterate 14 refine AX ?_
   refine AWP.cx rfl (fun hc32 => ?_) (fun hc32 => ?_)
   ·have hq2 : auX l (s.drop ((eAt s).toNat + 1)) = none := by rw [← hdn]; simpa using hc32
    have hnn : alA l s = none := by unfold alA ahB; rw [if_pos (by omega), hq2]
    iterate 2 refine AX ?_
    refine .e rfl (yJ Tryz.isAgg75 Tryz.sizeOf75 (tm rfl) (Heap.objs_set_same _ _ _) (Nat.le_of_ble_eq_true rfl)) (.e0 (zB Tryz.sizeOf75 (tm rfl) (tm rfl) rfl rfl (.inr ⟨_, rfl⟩) ((Heap.objs_set_ne _ _ (by assumption)).trans (Heap.objs_set_same _ _ _)) (Nat.le_of_ble_eq_true rfl)) ?_)
    try first | rw [Heap.set_set] | rw [Heap.set_under (by assumption)]
    iterate 3 refine AX ?_
    refine AWP.dropb (Heap.fresh_set hb8 _) ?_
    refine AWP.frz (t := 6) rfl hb6 ?_
    iterate 3 refine AX ?_
    refine Ret.go (.cons (.cellI _ _ _ _ rfl Tryz.isAgg75 Tryz.sizeOf75 rfl) (.cons (.tmp _ _ rfl) .nil)) _ (Heap.le.refl _) ?_
    refine ⟨⟨[], 0⟩, o, ?_, (Heap.set_self hbo).symm, fun r hr => ?_, by decide, by decide⟩
    ·rw [hnn]; rfl
    ·rw [hnn] at hr; cases hr
   ·obtain ⟨n0, hq2⟩ : ∃ n0, auX l (s.drop ((eAt s).toNat + 1)) = some n0 := by rw [← hdn]; exact Option.isSome_iff_exists.1 (by simpa using hc32)
    have hhead : ahB l s = some (s.take (eAt s).toNat, n0, true) := by unfold ahB; rw [if_pos (by omega), hq2]
    rw [hdn, hq2]
    iterate 6 refine AX ?_
    refine .p rfl (qP Tryz.underlying9 (tm rfl) (tm rfl) (by omega) (by omega)) ?_
    iterate 2 refine AX ?_
    refine .p rfl (zD Tryz.underlying75 rfl Tryz.sizeOf3 (tm rfl)) (.e0 (zB Tryz.sizeOf3 (tm rfl) (tm rfl) rfl rfl (.inl rfl) (Heap.objs_set_same _ _ _) (Nat.le_of_ble_eq_true rfl)) ?_)
    try first | rw [Heap.set_set] | rw [Heap.set_under (by assumption)]
    refine AX ?_
    refine .p rfl (zD Tryz.underlying32 rfl Tryz.sizeOf4 (tm rfl)) (.e0 (zB Tryz.sizeOf4 (tm rfl) yN rfl rfl (.inl rfl) ((Heap.objs_set_ne _ _ ho8).trans ((Heap.objs_set_ne _ _ ho6).trans hbo)) (Nat.le_of_ble_eq_true rfl)) ?_)
    try first | rw [Heap.set_set] | rw [Heap.set_under (by assumption)]
    iterate 2 refine AX ?_
    refine Meets.mk (M := fun env H2 => ∃ (s1 : List UInt8) (n : Int) (x : Bool), ahB l s = some (s1, n, x) ∧ env = [(0, erA l b), (1, .str s1), (2, .ptr (some ⟨bo, 0, none⟩)), (6, .ptr (some ⟨b6, 0, none⟩)), (7, .bool false), (8, .ptr (some ⟨b8, 0, none⟩))] ∧ H2 = ((H.set bo (.box 32 (EntN.cs { o with exp := x }))).set b6 (.box 75 [.str [], .int .i64 0])).set b8 (.box 75 [.str [], .int .i64 n])) ⟨_, _, true, hhead, rfl, rfl⟩ sX (by (rw [Heap.set_comm ho8s, Heap.set_comm ho6s]; exact Heap.le.refl _))
  ·have hhead : ahB l s = some (s, 0, false) := by unfold ahB; rw [if_neg (by omega)]
   iterate 2 refine AX ?_
   refine Meets.mk (M := fun env H2 => ∃ (s1 : List UInt8) (n : Int) (x : Bool), ahB l s = some (s1, n, x) ∧ env = [(0, erA l b), (1, .str s1), (2, .ptr (some ⟨bo, 0, none⟩)), (6, .ptr (some ⟨b6, 0, none⟩)), (7, .bool false), (8, .ptr (some ⟨b8, 0, none⟩))] ∧ H2 = ((H.set bo (.box 32 (EntN.cs { o with exp := x }))).set b6 (.box 75 [.str [], .int .i64 0])).set b8 (.box 75 [.str [], .int .i64 n])) ⟨s, 0, false, hhead, rfl, rfl⟩ sX (by (rw [hoe, Heap.set_self hbo]; exact Heap.le.refl _))
 ·rintro _ _ ⟨s1, n, x, hhp, rfl, rfl⟩
  have ho6 : bo ≠ b6 := by intro q; rw [q, hb6] at hbo; cases hbo
  have hbo6 := (Heap.objs_set_ne H (.box 75 [.str [], .int .i64 0]) ho6).trans hbo
  have ho8 : bo ≠ b8 := by intro q; rw [q, hb8] at hbo6; cases hbo6
  have ho6s := ho6.symm
  have ho8s := ho8.symm
  have hcl := ayG s1 l.dc
  have hh1 := apV hhp
  have hboN := Heap.objs_set_same H bo (.box 32 (EntN.cs { o with exp := x }))
  have hb80 := (Heap.objs_set_ne H (.box 75 [.str [], .int .i64 0]) hn6_8.symm).symm.trans hb8
  have hb6 := (Heap.objs_set_ne H (.box 32 (EntN.cs { o with exp := x })) ho6s).trans hb6
  have hb8 : ((H.set bo (.box 32 (EntN.cs { o with exp := x }))).set b6 (.box 75 [.str [], .int .i64 0])).objs b8 = none := (Heap.objs_set_ne _ _ hn6_8.symm).trans ((Heap.objs_set_ne _ _ ho8s).trans hb80)
  have hset : ∀ X, (H.set bo (.box 32 (EntN.cs { o with exp := x }))).set bo X = H.set bo X := fun X => Heap.set_set _ _ _ _
  generalize hH1 : H.set bo (.box 32 (EntN.cs { o with exp := x })) = HB at hboN hb6 hb8 hset ⊢
  have hbo0 := hbo
  have hbo := hboN
  have hoe2 : ({ o with exp := x, grouped := false } : EntN) = { o with exp := x } := by cases o; simp at ho; simp [ho]
  iterate 5 refine AX ?_
  refine .p rfl (zA Tryz.underlying68 rfl Tryz.sizeOf25 (tm rfl)) (.p rfl (zA Tryz.underlying25 rfl Tryz.sizeOf9 (tm rfl)) ?_)
  refine AX ?_
  refine .cl rfl Tryz.call103 (evs2 rfl rfl) (cutA s1 l.dc (by omega) _) ?_
  iterate 10 refine AX ?_
  refine AWP.seqTo 63 (.bool ((decide ((Lib.cut s1 l.dc).1 = []) && decide ((Lib.cut s1 l.dc).2.1 = [])) || decide (qE adD (Lib.cut s1 l.dc).2.1.length (Lib.cut s1 l.dc).2.1 ≠ []))) [0, 2, 6, 7, 8, 12, 13] ?_ ?_
  ·-- region 9
   iterate 4 refine AX ?_
   refine zI (t := 55) rfl (fun hg55 => ?_) (fun hg55 => ?_)
   ·iterate 4 refine AX ?_
    refine zI (t := 59) rfl (fun hg59 => ?_) (fun hg59 => ?_)
    ·iterate 5 refine AX ?_
     exact ⟨rfl, zZ rfl (by (rw [show decide ((Lib.cut s1 l.dc).1 = []) = _ from hg55, show decide ((Lib.cut s1 l.dc).2.1 = []) = _ from hg59]; rfl)) sX, rfl⟩
    ·refine AX ?_
     refine .gs rfl rfl rfl (by assumption) (zH Tryz.call32 (.cons (tm rfl) (.cons (.func _) .nil)) (trimDigitsA _ _)) ?_
     rintro _ _ ⟨rfl, hH⟩
     obtain rfl := hH.symm
     iterate 3 refine AX ?_
     exact ⟨rfl, zZ rfl (by (simp [*]; done)) sX, rfl⟩
   ·iterate 5 refine AX ?_
    refine .gs rfl rfl rfl (by rfl) (zH Tryz.call32 (.cons (tm rfl) (.cons (.func _) .nil)) (trimDigitsA _ _)) ?_
    rintro _ _ ⟨rfl, hH⟩
    obtain rfl := hH.symm
    iterate 3 refine AX ?_
    exact ⟨rfl, zZ rfl (by (simp [*]; done)) sX, rfl⟩
  ·refine AWP.sub [(63, _), (0, _), (2, _), (6, _), (7, _), (8, _), (12, _), (13, _)] sX ?_
   refine AWP.cx rfl (fun hc63 => ?_) (fun hc63 => ?_)
   ·have hbad : badB (Lib.cut s1 l.dc).1 (Lib.cut s1 l.dc).2.1 = true := hc63
    have hnn : alA l s = none := by
     have hb : ajA l s1 = none := by unfold ajA; rw [if_pos hbad]
     unfold alA; rw [hhp]; simp only [hb]
    iterate 2 refine AX ?_
    refine .e rfl (yJ Tryz.isAgg75 Tryz.sizeOf75 (tm rfl) (Heap.objs_set_same _ _ _) (Nat.le_of_ble_eq_true rfl)) (.e0 (zB Tryz.sizeOf75 (tm rfl) (tm rfl) rfl rfl (.inr ⟨_, rfl⟩) ((Heap.objs_set_ne _ _ (by assumption)).trans (Heap.objs_set_same _ _ _)) (Nat.le_of_ble_eq_true rfl)) ?_)
    try first | rw [Heap.set_set] | rw [Heap.set_under (by assumption)]
    iterate 3 refine AX ?_
    refine AWP.dropb (Heap.fresh_set hb8 _) ?_
    refine AWP.frz (t := 6) rfl hb6 ?_
    iterate 2 refine AX ?_
    refine Ret.go (.cons (.cellI _ _ _ _ rfl Tryz.isAgg75 Tryz.sizeOf75 rfl) (.cons (.tmp _ _ rfl) .nil)) _ (Heap.le.refl _) ?_
    refine ⟨⟨[], n⟩, { o with exp := x }, ?_, hH1.symm, fun r hr => ?_, by show -2000000000 ≤ n; omega, by show n ≤ 2000000000; omega⟩
    ·rw [hnn]; rfl
    ·rw [hnn] at hr; cases hr
   ·have hbad : badB (Lib.cut s1 l.dc).1 (Lib.cut s1 l.dc).2.1 = false := hc63
    iterate 2 refine AX ?_
    refine AWP.meet (fun env H2 => ∃ (d : List UInt8) (gr : Bool), abI l (Lib.cut s1 l.dc).1 = some (d, gr) ∧ env = [(2, .ptr (some ⟨bo, 0, none⟩)), (6, .ptr (some ⟨b6, 0, none⟩)), (7, .bool false), (8, .ptr (some ⟨b8, 0, none⟩)), (13, .str (Lib.cut s1 l.dc).2.1)] ∧ H2 = ((HB.set bo (.box 32 (EntN.cs { o with exp := x, grouped := gr }))).set b6 (.box 75 [.str [], .int .i64 0])).set b8 (.box 75 [.str d, .int .i64 n])) ?_ ?_
    ·iterate 6 refine AX ?_
     refine AWP.cx rfl (fun hc66 => ?_) (fun hc66 => ?_)
     ·have hwne : (Lib.cut s1 l.dc).1 ≠ [] := by simpa using hc66
      iterate 4 refine AX ?_
      refine .p rfl (zA Tryz.underlying68 rfl Tryz.sizeOf25 (tm rfl)) ?_
      iterate 2 refine AX ?_
      refine .cl rfl Tryz.call105 (evs2 rfl rfl) (ayX l hk hg _ (by omega) _) ?_
      iterate 14 refine AX ?_
      refine AWP.cx rfl (fun hc77 => ?_) (fun hc77 => ?_)
      ·have hq3 : abX l (Lib.cut s1 l.dc).1 = none := by simpa using hc77
       have hnn : alA l s = none := by
        have hw : abI l (Lib.cut s1 l.dc).1 = none := by unfold abI; rw [if_neg hwne, hq3]
        have hb : ajA l s1 = none := by unfold ajA; rw [if_neg (by rw [hbad]; decide), hw]
        unfold alA; rw [hhp]; simp only [hb]
       iterate 2 refine AX ?_
       refine .e rfl (yJ Tryz.isAgg75 Tryz.sizeOf75 (tm rfl) (Heap.objs_set_same _ _ _) (Nat.le_of_ble_eq_true rfl)) (.e0 (zB Tryz.sizeOf75 (tm rfl) (tm rfl) rfl rfl (.inr ⟨_, rfl⟩) ((Heap.objs_set_ne _ _ (by assumption)).trans (Heap.objs_set_same _ _ _)) (Nat.le_of_ble_eq_true rfl)) ?_)
       try first | rw [Heap.set_set] | rw [Heap.set_under (by assumption)]
       iterate 3 refine AX ?_
       refine AWP.dropb (Heap.fresh_set hb8 _) ?_
       refine AWP.frz (t := 6) rfl hb6 ?_
       iterate 3 refine AX ?_
       refine Ret.go (.cons (.cellI _ _ _ _ rfl Tryz.isAgg75 Tryz.sizeOf75 rfl) (.cons (.tmp _ _ rfl) .nil)) _ (Heap.le.refl _) ?_
       refine ⟨⟨[], n⟩, { o with exp := x }, ?_, hH1.symm, fun r hr => ?_, by show -2000000000 ≤ n; omega, by show n ≤ 2000000000; omega⟩
       ·rw [hnn]; rfl
       ·rw [hnn] at hr; cases hr
      ·obtain ⟨d0, hq3⟩ : ∃ d0, abX l (Lib.cut s1 l.dc).1 = some d0 := Option.isSome_iff_exists.1 (by simpa using hc77)
       have hwh : abI l (Lib.cut s1 l.dc).1 = some (d0, !decide (d0 = (Lib.cut s1 l.dc).1)) := by unfold abI; rw [if_neg hwne, hq3]
       rw [hq3]
       iterate 9 refine AX ?_
       refine .p rfl (zD Tryz.underlying32 rfl Tryz.sizeOf4 (tm rfl)) (.e0 (zB Tryz.sizeOf4 (tm rfl) (tm rfl) rfl rfl (.inl rfl) ((Heap.objs_set_ne _ _ ho8).trans ((Heap.objs_set_ne _ _ ho6).trans hbo)) (Nat.le_of_ble_eq_true rfl)) ?_)
       try first | rw [Heap.set_set] | rw [Heap.set_under (by assumption)]
       iterate 4 refine AX ?_
       refine .p rfl (zD Tryz.underlying75 rfl Tryz.sizeOf9 (tm rfl)) (.e0 (zB Tryz.sizeOf9 (tm rfl) (tm rfl) rfl rfl (.inl rfl) ((Heap.objs_set_ne _ _ (by assumption)).trans (Heap.objs_set_same _ _ _)) (Nat.le_of_ble_eq_true rfl)) ?_)
       try first | rw [Heap.set_set] | rw [Heap.set_under (by assumption)]
       iterate 2 refine AX ?_
       refine Meets.mk (M := fun env H2 => ∃ (d : List UInt8) (gr : Bool), abI l (Lib.cut s1 l.dc).1 = some (d, gr) ∧ env = [(2, .ptr (some ⟨bo, 0, none⟩)), (6, .ptr (some ⟨b6, 0, none⟩)), (7, .bool false), (8, .ptr (some ⟨b8, 0, none⟩)), (13, .str (Lib.cut s1 l.dc).2.1)] ∧ H2 = ((HB.set bo (.box 32 (EntN.cs { o with exp := x, grouped := gr }))).set b6 (.box 75 [.str [], .int .i64 0])).set b8 (.box 75 [.str d, .int .i64 n])) ⟨_, _, hwh, rfl, rfl⟩ sX (by (rw [Heap.set_comm ho8s, Heap.set_comm ho6s]; exact Heap.le.refl _))
     ·have hwh : abI l (Lib.cut s1 l.dc).1 = some ([], false) := by unfold abI; rw [if_pos (by simpa using hc66)]
      iterate 2 refine AX ?_
      refine Meets.mk (M := fun env H2 => ∃ (d : List UInt8) (gr : Bool), abI l (Lib.cut s1 l.dc).1 = some (d, gr) ∧ env = [(2, .ptr (some ⟨bo, 0, none⟩)), (6, .ptr (some ⟨b6, 0, none⟩)), (7, .bool false), (8, .ptr (some ⟨b8, 0, none⟩)), (13, .str (Lib.cut s1 l.dc).2.1)] ∧ H2 = ((HB.set bo (.box 32 (EntN.cs { o with exp := x, grouped := gr }))).set b6 (.box 75 [.str [], .int .i64 0])).set b8 (.box 75 [.str d, .int .i64 n])) ⟨[], false, hwh, rfl, rfl⟩ sX (by (rw [hoe2, Heap.set_self hbo]; exact Heap.le.refl _))
    ·rintro _ _ ⟨d, gr, hwp, rfl, rfl⟩
     have hwl := alJ hwp
     have hboM := Heap.objs_set_same HB bo (.box 32 (EntN.cs { o with exp := x, grouped := gr }))
     have hb80 := (Heap.objs_set_ne HB (.box 75 [.str [], .int .i64 0]) hn6_8.symm).symm.trans hb8
     have hb6 := (Heap.objs_set_ne HB (.box 32 (EntN.cs { o with exp := x, grouped := gr })) ho6s).trans hb6
     have hb8 : ((HB.set bo (.box 32 (EntN.cs { o with exp := x, grouped := gr }))).set b6 (.box 75 [.str [], .int .i64 0])).objs b8 = none := (Heap.objs_set_ne _ _ hn6_8.symm).trans ((Heap.objs_set_ne _ _ ho8s).trans hb80)
     have hset2 : ∀ X, (HB.set bo (.box 32 (EntN.cs { o with exp := x, grouped := gr }))).set bo X = H.set bo X := fun X => by rw [Heap.set_set, hset]
     generalize hH2 : HB.set bo (.box 32 (EntN.cs { o with exp := x, grouped := gr })) = HC at hboM hb6 hb8 hset2 ⊢
     have hbo := hboM
     have hb81 := (Heap.objs_set_ne HC (.box 75 [.str [], .int .i64 0]) hn6_8.symm).symm.trans hb8
     iterate 2 refine AX ?_
     refine .p rfl (zD Tryz.underlying75 rfl Tryz.sizeOf9 (tm rfl)) (.e rfl (zN Tryz.isAgg9 (tm rfl) (Heap.objs_set_same _ _ _) rfl) ?_)
     refine AX ?_
     refine .p rfl (yE (tm rfl) (tm rfl) (by rw [zP]; omega)) (.p rfl (zD Tryz.underlying75 rfl Tryz.sizeOf9 (tm rfl)) (.e0 (zB Tryz.sizeOf9 (tm rfl) (tm rfl) rfl rfl (.inl rfl) (Heap.objs_set_same _ _ _) (Nat.le_of_ble_eq_true rfl)) ?_))
     try first | rw [Heap.set_set] | rw [Heap.set_under (by assumption)]
     iterate 4 refine AX ?_
     refine .p rfl (zD Tryz.underlying75 rfl Tryz.sizeOf3 (tm rfl)) (.e rfl (zN Tryz.isAgg3 (tm rfl) (Heap.objs_set_same _ _ _) rfl) ?_)
     iterate 2 refine AX ?_
     refine .p rfl (zO (tm rfl) (tm rfl) (by omega)) (.p rfl (zD Tryz.underlying75 rfl Tryz.sizeOf3 (tm rfl)) (.e0 (zB Tryz.sizeOf3 (tm rfl) (tm rfl) rfl rfl (.inl rfl) (Heap.objs_set_same _ _ _) (Nat.le_of_ble_eq_true rfl)) ?_))
     try first | rw [Heap.set_set] | rw [Heap.set_under (by assumption)]
     iterate 8 refine AX ?_
     refine .p rfl (zD Tryz.underlying32 rfl Tryz.sizeOf3 (tm rfl)) (.e0 (zB Tryz.sizeOf3 (tm rfl) (tm rfl) rfl rfl (.inl rfl) ((Heap.objs_set_ne _ _ ho8).trans ((Heap.objs_set_ne _ _ ho6).trans hbo)) (Nat.le_of_ble_eq_true rfl)) ?_)
     try first | rw [Heap.set_set] | rw [Heap.set_under (by assumption)]
     iterate 3 refine AX ?_
     rw [Heap.set_comm ho8s, Heap.set_comm ho6s]
     have hb8g : ∀ X Z, ((HC.set bo X).set b6 Z).objs b8 = none := fun X Z => (Heap.objs_set_ne _ _ hn6_8.symm).trans ((Heap.objs_set_ne _ _ ho8s).trans hb81)
     have hb6g : ∀ X, (HC.set bo X).objs b6 = none := fun X => (Heap.objs_set_ne _ _ ho6s).trans hb6
     refine AX ?_
     refine .e rfl (yJ Tryz.isAgg75 Tryz.sizeOf75 (tm rfl) (Heap.objs_set_same _ _ _) (Nat.le_of_ble_eq_true rfl)) (.e0 (zB Tryz.sizeOf75 (tm rfl) (tm rfl) rfl rfl (.inr ⟨_, rfl⟩) ((Heap.objs_set_ne _ _ (by assumption)).trans (Heap.objs_set_same _ _ _)) (Nat.le_of_ble_eq_true rfl)) ?_)
     try first | rw [Heap.set_set] | rw [Heap.set_under (by assumption)]
     iterate 3 refine AX ?_
     refine AWP.dropb (hb8g _ _) ?_
     refine AWP.frz (t := 6) rfl (hb6g _) ?_
     refine AX ?_
     refine Ret.go (.cons (.cellI _ _ _ _ rfl Tryz.isAgg75 Tryz.sizeOf75 rfl) (.cons (.tmp _ _ rfl) .nil)) _ (Heap.le.refl _) ?_
     have hnum : alA l s = some (d ++ (Lib.cut s1 l.dc).2.1, n - ((Lib.cut s1 l.dc).2.1.length : Nat), (Lib.cut s1 l.dc).2.1.length, gr, x) := by
      have hb : ajA l s1 = some (d ++ (Lib.cut s1 l.dc).2.1, (Lib.cut s1 l.dc).2.1.length, gr) := by unfold ajA; rw [if_neg (by rw [hbad]; decide), hwp]
      unfold alA; rw [hhp]; simp only [hb]
     refine ⟨⟨d ++ (Lib.cut s1 l.dc).2.1, n - ((Lib.cut s1 l.dc).2.1.length : Nat)⟩, { o with places := ((Lib.cut s1 l.dc).2.1.length : Int), grouped := gr, exp := x }, ?_, ?_, fun r hr => ?_, by show -2000000000 ≤ n - ((Lib.cut s1 l.dc).2.1.length : Int); omega, by show n - ((Lib.cut s1 l.dc).2.1.length : Int) ≤ 2000000000; omega⟩
     ·rw [hnum]; rfl
     ·exact hset2 _
     ·rw [hnum] at hr; injection hr with hr; subst hr; exact ⟨rfl, rfl⟩
def acG (l : Loc) (s : List UInt8) : Int × List UInt8 × Int :=
 if Lib.hasPrefix s l.cur = true then (2, qE zQ (Lib.trimPrefix s l.cur).length (Lib.trimPrefix s l.cur), 0)
 else if Lib.hasSuffix s l.cur = true then (2, aaO zQ (Lib.trimSuffix s l.cur).length (Lib.trimSuffix s l.cur), 0)
 else if Lib.hasSuffix s l.pct = true then (1, aaO zQ (Lib.trimSuffix s l.pct).length (Lib.trimSuffix s l.pct), -2)
 else (0, s, 0)
theorem amtP_len (l : Loc) (s : List UInt8) : (acG l s).2.1.length ≤ s.length := by
 unfold acG
 repeat' split
 ·exact Nat.le_trans (abN _ _ _) (acK _ _)
 ·exact Nat.le_trans (adQ _ _ _) (acJ _ _)
 ·exact Nat.le_trans (adQ _ _ _) (acJ _ _)
 ·exact Nat.le_refl _

set_option maxRecDepth 100000 in
theorem avI (l : Loc) (hk : l.ok) (hg : l.grp ≠ []) (b : Nat) (s : List UInt8) (hs : s.length ≤ 1000) (o : EntN) (ho : o.exp = false ∧ o.grouped = false) (ho0 : o.kind = 0) (bo : Nat) (H : Heap) (hbo : H.objs bo = some (.box 32 (EntN.cs o))) : ACall Tryz.prog 33 [erA l b, .str s, .ptr (some ⟨bo, 0, none⟩)] H (fun y H' => ∃ (p : PartN) (o' : EntN), y = .tuple [p.av, .bool (alA l (acG l s).2.1).isSome] ∧ H' = H.set bo (.box 32 (EntN.cs o')) ∧ ∀ r, alA l (acG l s).2.1 = some r → p = ⟨r.1, r.2.1 + (acG l s).2.2⟩ ∧ o' = { o with kind := (acG l s).1, places := r.2.2.1, grouped := r.2.2.2.1, exp := r.2.2.2.2 }) := by
 have hl1 := acK s l.cur
 have hl2 := acJ s l.cur
 have hl3 := acJ s l.pct
 have hl4 := abN zQ (Lib.trimPrefix s l.cur).length (Lib.trimPrefix s l.cur)
 have hl5 := adQ zQ (Lib.trimSuffix s l.cur).length (Lib.trimSuffix s l.cur)
 have hl6 := adQ zQ (Lib.trimSuffix s l.pct).length (Lib.trimSuffix s l.pct)
 refine ACall.of_body Tryz.func33 rfl Tryz.ntmps33 Tryz.results33 rfl ?_
 iterate 2 refine AX ?_
 refine .s rfl (zL Tryz.zeroValue75 (zr75)) ?_
 rintro _ _ ⟨b6, hb6, rfl, hH⟩
 obtain rfl := hH.symm
 iterate 5 refine AX ?_
 have ho6 : bo ≠ b6 := by intro q; rw [q, hb6] at hbo; cases hbo
 have ho6s := ho6.symm
 iterate 4 refine AX ?_
 refine .p rfl (zA Tryz.underlying68 rfl Tryz.sizeOf25 (tm rfl)) (.p rfl (zA Tryz.underlying25 rfl Tryz.sizeOf9 (tm rfl)) ?_)
 refine AX ?_
 refine .cl rfl Tryz.call29 (evs2 rfl rfl) (cutPrefixA _ _ _) ?_
 iterate 12 refine AX ?_
 refine AWP.cx rfl (fun hc26 => ?_) (fun hc26 => ?_)
 ·have hamt : acG l s = (2, (qE zQ (Lib.trimPrefix s l.cur).length (Lib.trimPrefix s l.cur)), 0) := by unfold acG; rw [if_pos hc26]
  iterate 4 refine AX ?_
  refine .p rfl (zD Tryz.underlying32 rfl Tryz.sizeOf3 (tm rfl)) (.e0 (zB Tryz.sizeOf3 (tm rfl) zF rfl rfl (.inl rfl) ((Heap.objs_set_ne _ _ ho6).trans hbo) (Nat.le_of_ble_eq_true rfl)) ?_)
  try first | rw [Heap.set_set] | rw [Heap.set_under (by assumption)]
  iterate 6 refine AX ?_
  refine .cl rfl Tryz.call32 (.cons (tm rfl) (.cons (.func _) .nil)) (trimLeftFuncA _ _) ?_
  refine AX ?_
  refine .s rfl (zH Tryz.call66 (evs3 rfl rfl rfl) (aeG l hk hg b (qE zQ (Lib.trimPrefix s l.cur).length (Lib.trimPrefix s l.cur)) (by omega) { o with kind := 2 } ho bo _ (Heap.objs_set_same _ _ _))) ?_
  rintro _ _ ⟨p, o1, rfl, rfl, hp, hpe1, hpe2⟩
  try rw [Heap.set_set]
  iterate 2 refine AX ?_
  refine .e0 (zB Tryz.sizeOf75 (tm rfl) (tm rfl) rfl rfl (.inr ⟨_, rfl⟩) ((Heap.objs_set_ne _ _ (by assumption)).trans (Heap.objs_set_same _ _ _)) (Nat.le_of_ble_eq_true rfl)) ?_
  try first | rw [Heap.set_set] | rw [Heap.set_under (by assumption)]
  iterate 3 refine AX ?_
  rw [Heap.set_comm ho6s]
  refine AWP.frz (t := 6) rfl ((Heap.objs_set_ne _ _ ho6s).trans hb6) ?_
  iterate 2 refine AX ?_
  refine Ret.go (.cons (.cellI _ _ _ _ rfl Tryz.isAgg75 Tryz.sizeOf75 rfl) (.cons (.tmp _ _ rfl) .nil)) _ (Heap.le.refl _) ?_
  refine ⟨p, o1, ?_, rfl, fun r hr => ?_⟩
  ·rw [hamt]; rfl
  ·rw [hamt] at hr ⊢
   obtain ⟨rfl, rfl⟩ := hp r hr
   exact ⟨by simp, rfl⟩
 ·iterate 8 refine AX ?_
  refine .p rfl (zA Tryz.underlying68 rfl Tryz.sizeOf25 (tm rfl)) (.p rfl (zA Tryz.underlying25 rfl Tryz.sizeOf9 (tm rfl)) ?_)
  refine AX ?_
  refine .cl rfl Tryz.call30 (evs2 rfl rfl) (cutSuffixA _ _ _) ?_
  iterate 12 refine AX ?_
  refine AWP.cx rfl (fun hc47 => ?_) (fun hc47 => ?_)
  ·have hamt : acG l s = (2, (aaO zQ (Lib.trimSuffix s l.cur).length (Lib.trimSuffix s l.cur)), 0) := by unfold acG; rw [if_neg (by simp [hc26]), if_pos hc47]
   iterate 4 refine AX ?_
   refine .p rfl (zD Tryz.underlying32 rfl Tryz.sizeOf3 (tm rfl)) (.e0 (zB Tryz.sizeOf3 (tm rfl) zF rfl rfl (.inl rfl) ((Heap.objs_set_ne _ _ ho6).trans hbo) (Nat.le_of_ble_eq_true rfl)) ?_)
   try first | rw [Heap.set_set] | rw [Heap.set_under (by assumption)]
   iterate 6 refine AX ?_
   refine .cl rfl Tryz.call62 (.cons (tm rfl) (.cons (.func _) .nil)) (trimRightFuncA _ _) ?_
   refine AX ?_
   refine .s rfl (zH Tryz.call66 (evs3 rfl rfl rfl) (aeG l hk hg b (aaO zQ (Lib.trimSuffix s l.cur).length (Lib.trimSuffix s l.cur)) (by omega) { o with kind := 2 } ho bo _ (Heap.objs_set_same _ _ _))) ?_
   rintro _ _ ⟨p, o1, rfl, rfl, hp, hpe1, hpe2⟩
   try rw [Heap.set_set]
   iterate 2 refine AX ?_
   refine .e0 (zB Tryz.sizeOf75 (tm rfl) (tm rfl) rfl rfl (.inr ⟨_, rfl⟩) ((Heap.objs_set_ne _ _ (by assumption)).trans (Heap.objs_set_same _ _ _)) (Nat.le_of_ble_eq_true rfl)) ?_
   try first | rw [Heap.set_set] | rw [Heap.set_under (by assumption)]
   iterate 3 refine AX ?_
   rw [Heap.set_comm ho6s]
   refine AWP.frz (t := 6) rfl ((Heap.objs_set_ne _ _ ho6s).trans hb6) ?_
   iterate 2 refine AX ?_
   refine Ret.go (.cons (.cellI _ _ _ _ rfl Tryz.isAgg75 Tryz.sizeOf75 rfl) (.cons (.tmp _ _ rfl) .nil)) _ (Heap.le.refl _) ?_
   refine ⟨p, o1, ?_, rfl, fun r hr => ?_⟩
   ·rw [hamt]; rfl
   ·rw [hamt] at hr ⊢
    obtain ⟨rfl, rfl⟩ := hp r hr
    exact ⟨by simp, rfl⟩
  ·iterate 8 refine AX ?_
   refine .p rfl (zA Tryz.underlying68 rfl Tryz.sizeOf25 (tm rfl)) (.p rfl (zA Tryz.underlying25 rfl Tryz.sizeOf9 (tm rfl)) ?_)
   refine AX ?_
   refine .cl rfl Tryz.call30 (evs2 rfl rfl) (cutSuffixA _ _ _) ?_
   iterate 12 refine AX ?_
   refine AWP.cx rfl (fun hc68 => ?_) (fun hc68 => ?_)
   ·have hamt : acG l s = (1, (aaO zQ (Lib.trimSuffix s l.pct).length (Lib.trimSuffix s l.pct)), -2) := by unfold acG; rw [if_neg (by simp [hc26]), if_neg (by simp [hc47]), if_pos hc68]
    iterate 4 refine AX ?_
    refine .p rfl (zD Tryz.underlying32 rfl Tryz.sizeOf3 (tm rfl)) (.e0 (zB Tryz.sizeOf3 (tm rfl) zF rfl rfl (.inl rfl) ((Heap.objs_set_ne _ _ ho6).trans hbo) (Nat.le_of_ble_eq_true rfl)) ?_)
    try first | rw [Heap.set_set] | rw [Heap.set_under (by assumption)]
    iterate 6 refine AX ?_
    refine .cl rfl Tryz.call62 (.cons (tm rfl) (.cons (.func _) .nil)) (trimRightFuncA _ _) ?_
    refine AX ?_
    refine .s rfl (zH Tryz.call66 (evs3 rfl rfl rfl) (aeG l hk hg b (aaO zQ (Lib.trimSuffix s l.pct).length (Lib.trimSuffix s l.pct)) (by omega) { o with kind := 1 } ho bo _ (Heap.objs_set_same _ _ _))) ?_
    rintro _ _ ⟨p, o1, rfl, rfl, hp, hpe1, hpe2⟩
    try rw [Heap.set_set]
    iterate 3 refine AX ?_
    refine .s rfl (zL Tryz.zeroValue75 (zr75)) ?_
    rintro _ _ ⟨b14, hb14, rfl, hH⟩
    obtain rfl := hH.symm
    have hn6_14 := Heap.ne_of (Heap.objs_set_same _ _ _) hb14
    refine .e0 (zB Tryz.sizeOf75 (tm rfl) (tm rfl) rfl rfl (.inr ⟨_, rfl⟩) (Heap.objs_set_same _ _ _) (Nat.le_of_ble_eq_true rfl)) ?_
    try first | rw [Heap.set_set] | rw [Heap.set_under (by assumption)]
    iterate 4 refine AX ?_
    have h6e : b6 ≠ b14 := Heap.ne_of ((Heap.objs_set_ne _ _ ho6s).trans (Heap.objs_set_same _ _ _)) hb14
    have hoe14 : bo ≠ b14 := Heap.ne_of (Heap.objs_set_same _ _ _) hb14
    have h140 : H.objs b14 = none := by have q := hb14; rw [Heap.objs_set_ne _ _ hoe14.symm, Heap.objs_set_ne _ _ h6e.symm] at q; exact q
    refine AX ?_
    refine .p rfl (zD Tryz.underlying75 rfl Tryz.sizeOf3 (tm rfl)) (.e rfl (zN Tryz.isAgg3 (tm rfl) (Heap.objs_set_same _ _ _) rfl) (.p rfl (zO (tm rfl) zF (by omega)) (.p rfl (zD Tryz.underlying75 rfl Tryz.sizeOf3 (tm rfl)) (.e0 (zB Tryz.sizeOf3 (tm rfl) (tm rfl) rfl rfl (.inl rfl) (Heap.objs_set_same _ _ _) (Nat.le_of_ble_eq_true rfl)) ?_))))
    try first | rw [Heap.set_set] | rw [Heap.set_under (by assumption)]
    iterate 4 refine AX ?_
    refine .e rfl (yJ Tryz.isAgg75 Tryz.sizeOf75 (tm rfl) (Heap.objs_set_same _ _ _) (Nat.le_of_ble_eq_true rfl)) ?_
    refine AX ?_
    refine .e0 (zB Tryz.sizeOf75 (tm rfl) (tm rfl) rfl rfl (.inr ⟨_, rfl⟩) ((Heap.objs_set_ne _ _ (by assumption)).trans ((Heap.objs_set_ne _ _ (by assumption)).trans (Heap.objs_set_same _ _ _))) (Nat.le_of_ble_eq_true rfl)) ?_
    try first | rw [Heap.set_set] | rw [Heap.set_under (by assumption)]
    iterate 3 refine AX ?_
    rw [Heap.set_comm h6e.symm, Heap.set_under ho6s]
    refine AWP.dropb ((Heap.objs_set_ne _ _ hoe14.symm).trans ((Heap.objs_set_ne _ _ h6e.symm).trans h140)) ?_
    rw [Heap.set_comm ho6s]
    refine AWP.frz (t := 6) rfl ((Heap.objs_set_ne _ _ ho6s).trans hb6) ?_
    iterate 2 refine AX ?_
    refine Ret.go (.cons (.cellI _ _ _ _ rfl Tryz.isAgg75 Tryz.sizeOf75 rfl) (.cons (.tmp _ _ rfl) .nil)) _ (Heap.le.refl _) ?_
    refine ⟨⟨p.digits, p.exp - 2⟩, o1, ?_, rfl, fun r hr => ?_⟩
    ·rw [hamt]; rfl
    ·rw [hamt] at hr ⊢
     obtain ⟨rfl, rfl⟩ := hp r hr
     exact ⟨rfl, rfl⟩
   ·have hamt : acG l s = (0, s, 0) := by unfold acG; rw [if_neg (by simp [hc26]), if_neg (by simp [hc47]), if_neg (by simp [hc68])]
    iterate 7 refine AX ?_
    refine .s rfl (zH Tryz.call66 (evs3 rfl rfl rfl) (aeG l hk hg b s (by omega) { o with kind := o.kind } ho bo _ ((Heap.objs_set_ne _ _ ho6).trans hbo))) ?_
    rintro _ _ ⟨p, o1, rfl, rfl, hp, hpe1, hpe2⟩
    try rw [Heap.set_set]
    iterate 2 refine AX ?_
    refine .e0 (zB Tryz.sizeOf75 (tm rfl) (tm rfl) rfl rfl (.inr ⟨_, rfl⟩) ((Heap.objs_set_ne _ _ (by assumption)).trans (Heap.objs_set_same _ _ _)) (Nat.le_of_ble_eq_true rfl)) ?_
    try first | rw [Heap.set_set] | rw [Heap.set_under (by assumption)]
    iterate 3 refine AX ?_
    rw [Heap.set_comm ho6s]
    refine AWP.frz (t := 6) rfl ((Heap.objs_set_ne _ _ ho6s).trans hb6) ?_
    refine AX ?_
    refine Ret.go (.cons (.cellI _ _ _ _ rfl Tryz.isAgg75 Tryz.sizeOf75 rfl) (.cons (.tmp _ _ rfl) .nil)) _ (Heap.le.refl _) ?_
    refine ⟨p, o1, ?_, rfl, fun r hr => ?_⟩
    ·rw [hamt]; rfl
    ·rw [hamt] at hr ⊢
     obtain ⟨rfl, rfl⟩ := hp r hr
     exact ⟨by simp, by rw [ho0]⟩
end Go.Proofs.YtfkeflcdadlmdaaGreatDoor
