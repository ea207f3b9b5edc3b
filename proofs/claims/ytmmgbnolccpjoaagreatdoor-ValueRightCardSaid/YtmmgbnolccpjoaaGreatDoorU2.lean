import Derived.Test.YtmmgbnolccpjoaaGreatDoorYd
import Derived.Test.YtmmgbnolccpjoaaGreatDoorSsk
import Derived.Test.YtmmgbnolccpjoaaGreatDoorU1
namespace Go.Proofs.YtmmgbnolccpjoaaGreatDoor
open Go Go.RowKit

theorem zr76 : ∀ g, RelCells g [.int .u64 0, .int .i64 0, .int .i64 0, .bool false, .bool false] (Value.cells (Go.Value.agg #[Go.Value.int Go.IntKind.u64 0, Go.Value.int Go.IntKind.i64 0, Go.Value.int Go.IntKind.i64 0, Go.Value.bool false, Go.Value.bool false])) := fun g => RelL.cells (.cons (.int _ _) (.cons (.int _ _) (.cons (.int _ _) (.cons (.bool _) (.cons (.bool _) .nil)))))
theorem pl76 (fs : Array Field) (hfs : Tryz.prog.underlying 76 = some (.struct fs)) : ∀ (i : Nat) f p, fs[i]? = some f → [(0, 1), (1, 1), (2, 1), (3, 1), (4, 1)][i]? = some p → ∀ w, (sizeOf f.type).run Tryz.prog w = .ok p.2 w := by
 have e := (Option.some.inj (hfs.symm.trans Tryz.underlying76))
 cases e
 intro i f p hf hp w
 match i with
 | 0 => cases hf; cases hp; exact Tryz.sizeOf22 w
 | 1 => cases hf; cases hp; exact Tryz.sizeOf3 w
 | 2 => cases hf; cases hp; exact Tryz.sizeOf3 w
 | 3 => cases hf; cases hp; exact Tryz.sizeOf4 w
 | 4 => cases hf; cases hp; exact Tryz.sizeOf4 w
 | i + 5 => simp at hp
theorem zr130 : ∀ g, RelCells g [.str [], .int .i64 0] (Value.cells (Go.Value.agg #[Go.Value.string { data := #[] }, Go.Value.int Go.IntKind.i64 0])) := fun g => RelL.cells (.cons ((.str [] (Nat.zero_le _))) (.cons (.int _ _) .nil))
structure EntN where
 bits : Nat
 kind : Int
 places : Int
 grouped : Bool
 exp : Bool
def EntN.cs (o : EntN) : List AV := [.int .u64 (o.bits : Int), .int .i64 o.kind, .int .i64 o.places, .bool o.grouped, .bool o.exp]
structure PartN where
 digits : List UInt8
 exp : Int
def PartN.av (p : PartN) : AV := .agg [.str p.digits, .int .i64 p.exp]
def eAt (s : List UInt8) : Int := Lib.indexByte (Lib.replaceAll s [69] [101]) 101
def ajM (l : Loc) (s : List UInt8) : Option (List UInt8 × Int × Bool) :=
 if 0 ≤ eAt s then (match bcI l (s.drop ((eAt s).toNat + 1)) with | some n => some (s.take (eAt s).toNat, n, true) | none => none) else some (s, 0, false)
def adS (l : Loc) (w : List UInt8) : Option (List UInt8 × Bool) :=
 if w = [] then some ([], false) else match afD l w with | none => none | some d => some (d, !decide (d = w))
def badB (a b : List UInt8) : Bool := (decide (a = []) && decide (b = [])) || decide (aaD adC b.length b ≠ [])
def amY (l : Loc) (s : List UInt8) : Option (List UInt8 × Nat × Bool) :=
 if badB (Lib.cut s l.dc).1 (Lib.cut s l.dc).2.1 = true then none
 else match adS l (Lib.cut s l.dc).1 with | none => none | some (d, g) => some (d ++ (Lib.cut s l.dc).2.1, (Lib.cut s l.dc).2.1.length, g)
def aqS (l : Loc) (s : List UInt8) : Option (List UInt8 × Int × Nat × Bool × Bool) :=
 match ajM l s with
 | none => none
 | some (t, n, x) => match amY l t with | none => none | some (d, k, g) => some (d, n - k, k, g, x)
theorem bbC {l : Loc} {s : List UInt8} {n : Int} (h : bcI l s = some n) : -1000000000 < n ∧ n < 1000000000 := by
 unfold bcI at h
 split at h
 ·rename_i hc
  have h9 := num_9 (adP.1 hc.2.1) hc.2.2
  injection h with h
  subst h
  split <;> omega
 ·cases h
theorem avF {l : Loc} {s d : List UInt8} (h : afD l s = some d) : Digs d ∧ d.length ≤ s.length ∧ d ≠ [] := by
 unfold afD at h
 split at h
 ·cases h
 ·rename_i hc
  split at h
  ·cases h
  ·injection h with h
   subst h
   refine ⟨?_, axF _ _, fun q => hc (.inl q)⟩
   rcases Bool.eq_false_or_eq_true (bgO (Lib.replaceAll s l.grp [])) with q | q
   ·exact adP.1 q
   ·exact absurd (.inr q) hc
theorem ajZ {l : Loc} {w d : List UInt8} {gr : Bool} (h : adS l w = some (d, gr)) : Digs d ∧ d.length ≤ w.length := by
 unfold adS at h
 split at h
 ·injection h with h
  injection h with h1 h2
  subst h1
  exact ⟨fun b hb => by simp at hb, Nat.zero_le _⟩
 ·cases hp : afD l w with
  | none => rw [hp] at h; cases h
  | some q =>
   rw [hp] at h
   injection h with h
   injection h with h1 h2
   subst h1
   have := avF hp
   exact ⟨this.1, this.2.1⟩
theorem bbV {a b : List UInt8} (h : badB a b = false) : Digs b := by
 unfold badB at h
 simp only [Bool.or_eq_false_iff, decide_eq_false_iff_not, Decidable.not_not] at h
 exact (aeJ _ _ (Nat.le_refl _)).1 h.2
theorem bbT {l : Loc} {s d : List UInt8} {k : Nat} {gr : Bool} (h : amY l s = some (d, k, gr)) : Digs d ∧ d.length ≤ 2 * s.length ∧ k ≤ s.length := by
 have hl := avY s l.dc
 unfold amY at h
 split at h
 ·cases h
 ·rename_i hb
  cases hw : adS l (Lib.cut s l.dc).1 with
  | none => rw [hw] at h; cases h
  | some q =>
   obtain ⟨q, g2⟩ := q
   rw [hw] at h
   injection h with h
   injection h with h1 h2
   injection h2 with h2 h3
   subst h1; subst h2
   have := ajZ hw
   refine ⟨Digs.app this.1 (bbV (by simpa using hb)), ?_, hl.2⟩
   rw [List.length_append]; omega
theorem aoD {l : Loc} {s t : List UInt8} {n : Int} {x : Bool} (h : ajM l s = some (t, n, x)) : t.length ≤ s.length ∧ -1000000000 < n ∧ n < 1000000000 := by
 unfold ajM at h
 split at h
 ·cases he : bcI l (s.drop ((eAt s).toNat + 1)) with
  | none => rw [he] at h; cases h
  | some m =>
   rw [he] at h
   injection h with h
   injection h with h1 h2
   injection h2 with h2 h3
   subst h1; subst h2
   have := bbC he
   exact ⟨by rw [List.length_take]; omega, this⟩
 ·injection h with h
  injection h with h1 h2
  injection h2 with h2 h3
  subst h1; subst h2
  exact ⟨Nat.le_refl _, by decide, by decide⟩
theorem eAtA (s : List UInt8) (H : Heap) : ACall Tryz.prog 209 [.str (Lib.replaceAll s [69] [101]), .int .u8 101] H (fun y H' => y = .int .i64 (eAt s) ∧ H' = H) := indexByteA _ 101 H
theorem ahA {old new : List UInt8} (h : new.length = old.length) : ∀ (k : Nat) (s : List UInt8), (Lib.replaceK old new k s).length = s.length
 | 0, s => rfl
 | k + 1, s => by
  rw [Lib.replaceK]
  split
  ·rfl
  ·rename_i hc
   have hg := Lib.index_ge s old
   have hne : Lib.index s old ≠ -1 := fun q => hc (by simp [q])
   have hr := Lib.index_room s old (by omega)
   simp only [List.length_append, List.length_take, ahA h k, List.length_drop]
   omega
theorem arO {s old new : List UInt8} (h : new.length = old.length) : (Lib.replaceAll s old new).length = s.length := by
 unfold Lib.replaceAll Lib.replace
 split
 ·rfl
 ·exact ahA h _ _
theorem eAt_lt (s : List UInt8) : eAt s < s.length := by
 have h := arO (s := s) (old := [69]) (new := [101]) rfl
 unfold eAt
 rcases Int.lt_or_le (Lib.indexByte (Lib.replaceAll s [69] [101]) 101) 0 with h0 | h0
 ·omega
 ·obtain ⟨o, ho⟩ : ∃ o : Nat, Lib.indexByte (Lib.replaceAll s [69] [101]) 101 = o := ⟨(Lib.indexByte (Lib.replaceAll s [69] [101]) 101).toNat, by omega⟩
  have h1 := (Lib.indexByte_some ho).1
  have h2 := (List.getElem?_eq_some_iff.1 h1).1
  omega

set_option maxRecDepth 100000 in
theorem adO (l : Loc) (hk : l.ok) (hg : l.grp ≠ []) (b : Nat) (s : List UInt8) (hs : s.length ≤ 1000) (o : EntN) (ho : o.exp = false ∧ o.grouped = false) (bo : Nat) (H : Heap) (hbo : H.objs bo = some (.box 76 (EntN.cs o))) : ACall Tryz.prog 161 [erA l b, .str s, .ptr (some ⟨bo, 0, none⟩)] H (fun y H' => ∃ (p : PartN) (o' : EntN), y = .tuple [p.av, .bool (aqS l s).isSome] ∧ H' = H.set bo (.box 76 (EntN.cs o')) ∧ (∀ r, aqS l s = some r → p = ⟨r.1, r.2.1⟩ ∧ o' = { o with places := r.2.2.1, grouped := r.2.2.2.1, exp := r.2.2.2.2 }) ∧ -2000000000 ≤ p.exp ∧ p.exp ≤ 2000000000) := by
 have hel := eAt_lt s
 have hoe : ({ o with exp := false } : EntN) = o := by cases o; simp at ho; simp [ho]
 refine ACall.of_body Tryz.func161 rfl Tryz.ntmps161 Tryz.results161 rfl ?_
 iterate 2 refine AX ?_
 refine .s rfl (zG Tryz.zeroValue130 (zr130)) ?_
 rintro _ _ ⟨b6, hb6, rfl, hH⟩
 obtain rfl := hH.symm
 iterate 5 refine AX ?_
 refine .s rfl (zG Tryz.zeroValue130 (zr130)) ?_
 rintro _ _ ⟨b8, hb8, rfl, hH⟩
 obtain rfl := hH.symm
 have hn6_8 := Heap.ne_of (Heap.objs_set_same _ _ _) hb8
 iterate 2 refine AX ?_
 refine AWP.meet (fun env H2 => ∃ (s1 : List UInt8) (n : Int) (x : Bool), ajM l s = some (s1, n, x) ∧ env = [(0, erA l b), (1, .str s1), (2, .ptr (some ⟨bo, 0, none⟩)), (6, .ptr (some ⟨b6, 0, none⟩)), (7, .bool false), (8, .ptr (some ⟨b8, 0, none⟩))] ∧ H2 = ((H.set bo (.box 76 (EntN.cs { o with exp := x }))).set b6 (.box 130 [.str [], .int .i64 0])).set b8 (.box 130 [.str [], .int .i64 n])) ?_ ?_
 ·refine AX ?_
  have ho6 : bo ≠ b6 := by intro q; rw [q, hb6] at hbo; cases hbo
  have hbo6 := (Heap.objs_set_ne H (.box 130 [.str [], .int .i64 0]) ho6).trans hbo
  have ho8 : bo ≠ b8 := by intro q; rw [q, hb8] at hbo6; cases hbo6
  have ho6s := ho6.symm
  have ho8s := ho8.symm
  iterate 2 refine AX ?_
  refine .cl rfl Tryz.call210 (.cons (tm rfl) (.cons (zM rfl) (.cons (zM rfl) .nil))) (replaceA s [69] [101] (by omega) (by decide) (by decide) _) (.cl rfl Tryz.call209 (.cons (tm rfl) (.cons zI .nil)) (eAtA s _) ?_)
  iterate 9 refine AX ?_
  refine AWP.cx rfl (fun hc21 => ?_) (fun hc21 => ?_)
  ·have hdn : (eAt s + 1).toNat = (eAt s).toNat + 1 := by omega
   iterate 7 refine AX ?_
   refine .cl rfl Tryz.call211 (evs2 rfl rfl) (amX l b _ (by simp only [List.length_drop]; omega) _) ?_
   iterate 14 refine AX ?_
   refine AWP.cx rfl (fun hc32 => ?_) (fun hc32 => ?_)
   ·have hq2 : bcI l (s.drop ((eAt s).toNat + 1)) = none := by rw [← hdn]; simpa using hc32
    have hnn : aqS l s = none := by unfold aqS ajM; rw [if_pos (by omega), hq2]
    iterate 2 refine AX ?_
    refine .e rfl (zV Tryz.isAgg130 Tryz.sizeOf130 (tm rfl) (Heap.objs_set_same _ _ _) (Nat.le_of_ble_eq_true rfl)) (.e0 (zB Tryz.sizeOf130 (tm rfl) (tm rfl) rfl rfl (.inr ⟨_, rfl⟩) ((Heap.objs_set_ne _ _ (by assumption)).trans (Heap.objs_set_same _ _ _)) (Nat.le_of_ble_eq_true rfl)) ?_)
    try first | rw [Heap.set_set] | rw [Heap.set_under (by assumption)]
    iterate 3 refine AX ?_
    refine AWP.dropb (Heap.fresh_set hb8 _) ?_
    refine AWP.frz (t := 6) rfl hb6 ?_
    iterate 3 refine AX ?_
    refine Ret.go (.cons (.cellI _ _ _ _ rfl Tryz.isAgg130 Tryz.sizeOf130 rfl) (.cons (.tmp _ _ rfl) .nil)) _ (Heap.le.refl _) ?_
    refine ⟨⟨[], 0⟩, o, ?_, (Heap.set_self hbo).symm, fun r hr => ?_, by decide, by decide⟩
    ·rw [hnn]; rfl
    ·rw [hnn] at hr; cases hr
   ·obtain ⟨n0, hq2⟩ : ∃ n0, bcI l (s.drop ((eAt s).toNat + 1)) = some n0 := by rw [← hdn]; exact Option.isSome_iff_exists.1 (by simpa using hc32)
    have hhead : ajM l s = some (s.take (eAt s).toNat, n0, true) := by unfold ajM; rw [if_pos (by omega), hq2]
    rw [hdn, hq2]
    iterate 9 refine AX ?_
    refine .p rfl (zJ Tryz.underlying130 rfl Tryz.sizeOf3 (tm rfl)) (.e0 (zB Tryz.sizeOf3 (tm rfl) (tm rfl) rfl rfl (.inl rfl) (Heap.objs_set_same _ _ _) (Nat.le_of_ble_eq_true rfl)) ?_)
    try first | rw [Heap.set_set] | rw [Heap.set_under (by assumption)]
    refine AX ?_
    refine .p rfl (zJ Tryz.underlying76 rfl Tryz.sizeOf4 (tm rfl)) (.e0 (zB Tryz.sizeOf4 (tm rfl) yF rfl rfl (.inl rfl) ((Heap.objs_set_ne _ _ ho8).trans ((Heap.objs_set_ne _ _ ho6).trans hbo)) (Nat.le_of_ble_eq_true rfl)) ?_)
    try first | rw [Heap.set_set] | rw [Heap.set_under (by assumption)]
    iterate 2 refine AX ?_
    refine Meets.mk (M := fun env H2 => ∃ (s1 : List UInt8) (n : Int) (x : Bool), ajM l s = some (s1, n, x) ∧ env = [(0, erA l b), (1, .str s1), (2, .ptr (some ⟨bo, 0, none⟩)), (6, .ptr (some ⟨b6, 0, none⟩)), (7, .bool false), (8, .ptr (some ⟨b8, 0, none⟩))] ∧ H2 = ((H.set bo (.box 76 (EntN.cs { o with exp := x }))).set b6 (.box 130 [.str [], .int .i64 0])).set b8 (.box 130 [.str [], .int .i64 n])) ⟨_, _, true, hhead, rfl, rfl⟩ sX (by (rw [Heap.set_comm ho8s, Heap.set_comm ho6s]; exact Heap.le.refl _))
  ·have hhead : ajM l s = some (s, 0, false) := by unfold ajM; rw [if_neg (by omega)]
   iterate 2 refine AX ?_
   refine Meets.mk (M := fun env H2 => ∃ (s1 : List UInt8) (n : Int) (x : Bool), ajM l s = some (s1, n, x) ∧ env = [(0, erA l b), (1, .str s1), (2, .ptr (some ⟨bo, 0, none⟩)), (6, .ptr (some ⟨b6, 0, none⟩)), (7, .bool false), (8, .ptr (some ⟨b8, 0, none⟩))] ∧ H2 = ((H.set bo (.box 76 (EntN.cs { o with exp := x }))).set b6 (.box 130 [.str [], .int .i64 0])).set b8 (.box 130 [.str [], .int .i64 n])) ⟨s, 0, false, hhead, rfl, rfl⟩ sX (by (rw [hoe, Heap.set_self hbo]; exact Heap.le.refl _))
 ·rintro _ _ ⟨s1, n, x, hhp, rfl, rfl⟩
  have ho6 : bo ≠ b6 := by intro q; rw [q, hb6] at hbo; cases hbo
  have hbo6 := (Heap.objs_set_ne H (.box 130 [.str [], .int .i64 0]) ho6).trans hbo
  have ho8 : bo ≠ b8 := by intro q; rw [q, hb8] at hbo6; cases hbo6
  have ho6s := ho6.symm
  have ho8s := ho8.symm
  have hcl := avY s1 l.dc
  have hh1 := aoD hhp
  have hboN := Heap.objs_set_same H bo (.box 76 (EntN.cs { o with exp := x }))
  have hb80 := (Heap.objs_set_ne H (.box 130 [.str [], .int .i64 0]) hn6_8.symm).symm.trans hb8
  have hb6 := (Heap.objs_set_ne H (.box 76 (EntN.cs { o with exp := x })) ho6s).trans hb6
  have hb8 : ((H.set bo (.box 76 (EntN.cs { o with exp := x }))).set b6 (.box 130 [.str [], .int .i64 0])).objs b8 = none := (Heap.objs_set_ne _ _ hn6_8.symm).trans ((Heap.objs_set_ne _ _ ho8s).trans hb80)
  have hset : ∀ X, (H.set bo (.box 76 (EntN.cs { o with exp := x }))).set bo X = H.set bo X := fun X => Heap.set_set _ _ _ _
  generalize hH1 : H.set bo (.box 76 (EntN.cs { o with exp := x })) = HB at hboN hb6 hb8 hset ⊢
  have hbo0 := hbo
  have hbo := hboN
  have hoe2 : ({ o with exp := x, grouped := false } : EntN) = { o with exp := x } := by cases o; simp at ho; simp [ho]
  iterate 5 refine AX ?_
  refine .p rfl (zA Tryz.underlying123 rfl Tryz.sizeOf29 (tm rfl)) (.p rfl (zA Tryz.underlying29 rfl Tryz.sizeOf9 (tm rfl)) ?_)
  refine AX ?_
  refine .cl rfl Tryz.call212 (evs2 rfl rfl) (cutA s1 l.dc (by omega) _) ?_
  iterate 10 refine AX ?_
  refine AWP.seqTo 63 (.bool ((decide ((Lib.cut s1 l.dc).1 = []) && decide ((Lib.cut s1 l.dc).2.1 = [])) || decide (aaD adC (Lib.cut s1 l.dc).2.1.length (Lib.cut s1 l.dc).2.1 ≠ []))) [0, 2, 6, 7, 8, 12, 13] ?_ ?_
  ·-- region 9
   iterate 4 refine AX ?_
   refine zH (t := 55) rfl (fun hg55 => ?_) (fun hg55 => ?_)
   ·iterate 4 refine AX ?_
    refine zH (t := 59) rfl (fun hg59 => ?_) (fun hg59 => ?_)
    ·iterate 5 refine AX ?_
     exact ⟨rfl, zS rfl (by (rw [show decide ((Lib.cut s1 l.dc).1 = []) = _ from hg55, show decide ((Lib.cut s1 l.dc).2.1 = []) = _ from hg59]; rfl)) sX, rfl⟩
    ·refine AX ?_
     refine .gs rfl rfl rfl (by assumption) (zC Tryz.call96 (.cons (tm rfl) (.cons (.func _) .nil)) (trimDigitsA _ _)) ?_
     rintro _ _ ⟨rfl, hH⟩
     obtain rfl := hH.symm
     iterate 3 refine AX ?_
     exact ⟨rfl, zS rfl (by (simp [*]; done)) sX, rfl⟩
   ·iterate 5 refine AX ?_
    refine .gs rfl rfl rfl (by rfl) (zC Tryz.call96 (.cons (tm rfl) (.cons (.func _) .nil)) (trimDigitsA _ _)) ?_
    rintro _ _ ⟨rfl, hH⟩
    obtain rfl := hH.symm
    iterate 3 refine AX ?_
    exact ⟨rfl, zS rfl (by (simp [*]; done)) sX, rfl⟩
  ·refine AWP.sub [(63, _), (0, _), (2, _), (6, _), (7, _), (8, _), (12, _), (13, _)] sX ?_
   refine AWP.cx rfl (fun hc63 => ?_) (fun hc63 => ?_)
   ·have hbad : badB (Lib.cut s1 l.dc).1 (Lib.cut s1 l.dc).2.1 = true := hc63
    have hnn : aqS l s = none := by
     have hb : amY l s1 = none := by unfold amY; rw [if_pos hbad]
     unfold aqS; rw [hhp]; simp only [hb]
    iterate 2 refine AX ?_
    refine .e rfl (zV Tryz.isAgg130 Tryz.sizeOf130 (tm rfl) (Heap.objs_set_same _ _ _) (Nat.le_of_ble_eq_true rfl)) (.e0 (zB Tryz.sizeOf130 (tm rfl) (tm rfl) rfl rfl (.inr ⟨_, rfl⟩) ((Heap.objs_set_ne _ _ (by assumption)).trans (Heap.objs_set_same _ _ _)) (Nat.le_of_ble_eq_true rfl)) ?_)
    try first | rw [Heap.set_set] | rw [Heap.set_under (by assumption)]
    iterate 3 refine AX ?_
    refine AWP.dropb (Heap.fresh_set hb8 _) ?_
    refine AWP.frz (t := 6) rfl hb6 ?_
    iterate 2 refine AX ?_
    refine Ret.go (.cons (.cellI _ _ _ _ rfl Tryz.isAgg130 Tryz.sizeOf130 rfl) (.cons (.tmp _ _ rfl) .nil)) _ (Heap.le.refl _) ?_
    refine ⟨⟨[], n⟩, { o with exp := x }, ?_, hH1.symm, fun r hr => ?_, by show -2000000000 ≤ n; omega, by show n ≤ 2000000000; omega⟩
    ·rw [hnn]; rfl
    ·rw [hnn] at hr; cases hr
   ·have hbad : badB (Lib.cut s1 l.dc).1 (Lib.cut s1 l.dc).2.1 = false := hc63
    iterate 2 refine AX ?_
    refine AWP.meet (fun env H2 => ∃ (d : List UInt8) (gr : Bool), adS l (Lib.cut s1 l.dc).1 = some (d, gr) ∧ env = [(2, .ptr (some ⟨bo, 0, none⟩)), (6, .ptr (some ⟨b6, 0, none⟩)), (7, .bool false), (8, .ptr (some ⟨b8, 0, none⟩)), (13, .str (Lib.cut s1 l.dc).2.1)] ∧ H2 = ((HB.set bo (.box 76 (EntN.cs { o with exp := x, grouped := gr }))).set b6 (.box 130 [.str [], .int .i64 0])).set b8 (.box 130 [.str d, .int .i64 n])) ?_ ?_
    ·iterate 6 refine AX ?_
     refine AWP.cx rfl (fun hc66 => ?_) (fun hc66 => ?_)
     ·have hwne : (Lib.cut s1 l.dc).1 ≠ [] := by simpa using hc66
      iterate 4 refine AX ?_
      refine .p rfl (zA Tryz.underlying123 rfl Tryz.sizeOf29 (tm rfl)) ?_
      iterate 2 refine AX ?_
      refine .cl rfl Tryz.call214 (evs2 rfl rfl) (awM l hk hg _ (by omega) _) ?_
      iterate 14 refine AX ?_
      refine AWP.cx rfl (fun hc77 => ?_) (fun hc77 => ?_)
      ·have hq3 : afD l (Lib.cut s1 l.dc).1 = none := by simpa using hc77
       have hnn : aqS l s = none := by
        have hw : adS l (Lib.cut s1 l.dc).1 = none := by unfold adS; rw [if_neg hwne, hq3]
        have hb : amY l s1 = none := by unfold amY; rw [if_neg (by rw [hbad]; decide), hw]
        unfold aqS; rw [hhp]; simp only [hb]
       iterate 2 refine AX ?_
       refine .e rfl (zV Tryz.isAgg130 Tryz.sizeOf130 (tm rfl) (Heap.objs_set_same _ _ _) (Nat.le_of_ble_eq_true rfl)) (.e0 (zB Tryz.sizeOf130 (tm rfl) (tm rfl) rfl rfl (.inr ⟨_, rfl⟩) ((Heap.objs_set_ne _ _ (by assumption)).trans (Heap.objs_set_same _ _ _)) (Nat.le_of_ble_eq_true rfl)) ?_)
       try first | rw [Heap.set_set] | rw [Heap.set_under (by assumption)]
       iterate 3 refine AX ?_
       refine AWP.dropb (Heap.fresh_set hb8 _) ?_
       refine AWP.frz (t := 6) rfl hb6 ?_
       iterate 3 refine AX ?_
       refine Ret.go (.cons (.cellI _ _ _ _ rfl Tryz.isAgg130 Tryz.sizeOf130 rfl) (.cons (.tmp _ _ rfl) .nil)) _ (Heap.le.refl _) ?_
       refine ⟨⟨[], n⟩, { o with exp := x }, ?_, hH1.symm, fun r hr => ?_, by show -2000000000 ≤ n; omega, by show n ≤ 2000000000; omega⟩
       ·rw [hnn]; rfl
       ·rw [hnn] at hr; cases hr
      ·obtain ⟨d0, hq3⟩ : ∃ d0, afD l (Lib.cut s1 l.dc).1 = some d0 := Option.isSome_iff_exists.1 (by simpa using hc77)
       have hwh : adS l (Lib.cut s1 l.dc).1 = some (d0, !decide (d0 = (Lib.cut s1 l.dc).1)) := by unfold adS; rw [if_neg hwne, hq3]
       rw [hq3]
       iterate 9 refine AX ?_
       refine .p rfl (zJ Tryz.underlying76 rfl Tryz.sizeOf4 (tm rfl)) (.e0 (zB Tryz.sizeOf4 (tm rfl) (tm rfl) rfl rfl (.inl rfl) ((Heap.objs_set_ne _ _ ho8).trans ((Heap.objs_set_ne _ _ ho6).trans hbo)) (Nat.le_of_ble_eq_true rfl)) ?_)
       try first | rw [Heap.set_set] | rw [Heap.set_under (by assumption)]
       iterate 4 refine AX ?_
       refine .p rfl (zJ Tryz.underlying130 rfl Tryz.sizeOf9 (tm rfl)) (.e0 (zB Tryz.sizeOf9 (tm rfl) (tm rfl) rfl rfl (.inl rfl) ((Heap.objs_set_ne _ _ (by assumption)).trans (Heap.objs_set_same _ _ _)) (Nat.le_of_ble_eq_true rfl)) ?_)
       try first | rw [Heap.set_set] | rw [Heap.set_under (by assumption)]
       iterate 2 refine AX ?_
       refine Meets.mk (M := fun env H2 => ∃ (d : List UInt8) (gr : Bool), adS l (Lib.cut s1 l.dc).1 = some (d, gr) ∧ env = [(2, .ptr (some ⟨bo, 0, none⟩)), (6, .ptr (some ⟨b6, 0, none⟩)), (7, .bool false), (8, .ptr (some ⟨b8, 0, none⟩)), (13, .str (Lib.cut s1 l.dc).2.1)] ∧ H2 = ((HB.set bo (.box 76 (EntN.cs { o with exp := x, grouped := gr }))).set b6 (.box 130 [.str [], .int .i64 0])).set b8 (.box 130 [.str d, .int .i64 n])) ⟨_, _, hwh, rfl, rfl⟩ sX (by (rw [Heap.set_comm ho8s, Heap.set_comm ho6s]; exact Heap.le.refl _))
     ·have hwh : adS l (Lib.cut s1 l.dc).1 = some ([], false) := by unfold adS; rw [if_pos (by simpa using hc66)]
      iterate 2 refine AX ?_
      refine Meets.mk (M := fun env H2 => ∃ (d : List UInt8) (gr : Bool), adS l (Lib.cut s1 l.dc).1 = some (d, gr) ∧ env = [(2, .ptr (some ⟨bo, 0, none⟩)), (6, .ptr (some ⟨b6, 0, none⟩)), (7, .bool false), (8, .ptr (some ⟨b8, 0, none⟩)), (13, .str (Lib.cut s1 l.dc).2.1)] ∧ H2 = ((HB.set bo (.box 76 (EntN.cs { o with exp := x, grouped := gr }))).set b6 (.box 130 [.str [], .int .i64 0])).set b8 (.box 130 [.str d, .int .i64 n])) ⟨[], false, hwh, rfl, rfl⟩ sX (by (rw [hoe2, Heap.set_self hbo]; exact Heap.le.refl _))
    ·rintro _ _ ⟨d, gr, hwp, rfl, rfl⟩
     have hwl := ajZ hwp
     have hboM := Heap.objs_set_same HB bo (.box 76 (EntN.cs { o with exp := x, grouped := gr }))
     have hb80 := (Heap.objs_set_ne HB (.box 130 [.str [], .int .i64 0]) hn6_8.symm).symm.trans hb8
     have hb6 := (Heap.objs_set_ne HB (.box 76 (EntN.cs { o with exp := x, grouped := gr })) ho6s).trans hb6
     have hb8 : ((HB.set bo (.box 76 (EntN.cs { o with exp := x, grouped := gr }))).set b6 (.box 130 [.str [], .int .i64 0])).objs b8 = none := (Heap.objs_set_ne _ _ hn6_8.symm).trans ((Heap.objs_set_ne _ _ ho8s).trans hb80)
     have hset2 : ∀ X, (HB.set bo (.box 76 (EntN.cs { o with exp := x, grouped := gr }))).set bo X = H.set bo X := fun X => by rw [Heap.set_set, hset]
     generalize hH2 : HB.set bo (.box 76 (EntN.cs { o with exp := x, grouped := gr })) = HC at hboM hb6 hb8 hset2 ⊢
     have hbo := hboM
     have hb81 := (Heap.objs_set_ne HC (.box 130 [.str [], .int .i64 0]) hn6_8.symm).symm.trans hb8
     iterate 2 refine AX ?_
     refine .p rfl (zJ Tryz.underlying130 rfl Tryz.sizeOf9 (tm rfl)) (.e rfl (zQ Tryz.isAgg9 (tm rfl) (Heap.objs_set_same _ _ _) rfl) ?_)
     refine AX ?_
     refine .p rfl (yD (tm rfl) (tm rfl) (by rw [zN]; omega)) (.p rfl (zJ Tryz.underlying130 rfl Tryz.sizeOf9 (tm rfl)) (.e0 (zB Tryz.sizeOf9 (tm rfl) (tm rfl) rfl rfl (.inl rfl) (Heap.objs_set_same _ _ _) (Nat.le_of_ble_eq_true rfl)) ?_))
     try first | rw [Heap.set_set] | rw [Heap.set_under (by assumption)]
     iterate 4 refine AX ?_
     refine .p rfl (zJ Tryz.underlying130 rfl Tryz.sizeOf3 (tm rfl)) (.e rfl (zQ Tryz.isAgg3 (tm rfl) (Heap.objs_set_same _ _ _) rfl) ?_)
     iterate 3 refine AX ?_
     refine .p rfl (zJ Tryz.underlying130 rfl Tryz.sizeOf3 (tm rfl)) (.e0 (zB Tryz.sizeOf3 (tm rfl) (tm rfl) rfl rfl (.inl rfl) (Heap.objs_set_same _ _ _) (Nat.le_of_ble_eq_true rfl)) ?_)
     try first | rw [Heap.set_set] | rw [Heap.set_under (by assumption)]
     iterate 8 refine AX ?_
     refine .p rfl (zJ Tryz.underlying76 rfl Tryz.sizeOf3 (tm rfl)) (.e0 (zB Tryz.sizeOf3 (tm rfl) (tm rfl) rfl rfl (.inl rfl) ((Heap.objs_set_ne _ _ ho8).trans ((Heap.objs_set_ne _ _ ho6).trans hbo)) (Nat.le_of_ble_eq_true rfl)) ?_)
     try first | rw [Heap.set_set] | rw [Heap.set_under (by assumption)]
     iterate 3 refine AX ?_
     rw [Heap.set_comm ho8s, Heap.set_comm ho6s]
     have hb8g : ∀ X Z, ((HC.set bo X).set b6 Z).objs b8 = none := fun X Z => (Heap.objs_set_ne _ _ hn6_8.symm).trans ((Heap.objs_set_ne _ _ ho8s).trans hb81)
     have hb6g : ∀ X, (HC.set bo X).objs b6 = none := fun X => (Heap.objs_set_ne _ _ ho6s).trans hb6
     refine AX ?_
     refine .e rfl (zV Tryz.isAgg130 Tryz.sizeOf130 (tm rfl) (Heap.objs_set_same _ _ _) (Nat.le_of_ble_eq_true rfl)) (.e0 (zB Tryz.sizeOf130 (tm rfl) (tm rfl) rfl rfl (.inr ⟨_, rfl⟩) ((Heap.objs_set_ne _ _ (by assumption)).trans (Heap.objs_set_same _ _ _)) (Nat.le_of_ble_eq_true rfl)) ?_)
     try first | rw [Heap.set_set] | rw [Heap.set_under (by assumption)]
     iterate 3 refine AX ?_
     refine AWP.dropb (hb8g _ _) ?_
     refine AWP.frz (t := 6) rfl (hb6g _) ?_
     refine AX ?_
     refine Ret.go (.cons (.cellI _ _ _ _ rfl Tryz.isAgg130 Tryz.sizeOf130 rfl) (.cons (.tmp _ _ rfl) .nil)) _ (Heap.le.refl _) ?_
     have hnum : aqS l s = some (d ++ (Lib.cut s1 l.dc).2.1, n - ((Lib.cut s1 l.dc).2.1.length : Nat), (Lib.cut s1 l.dc).2.1.length, gr, x) := by
      have hb : amY l s1 = some (d ++ (Lib.cut s1 l.dc).2.1, (Lib.cut s1 l.dc).2.1.length, gr) := by unfold amY; rw [if_neg (by rw [hbad]; decide), hwp]
      unfold aqS; rw [hhp]; simp only [hb]
     refine ⟨⟨d ++ (Lib.cut s1 l.dc).2.1, n - ((Lib.cut s1 l.dc).2.1.length : Nat)⟩, { o with places := ((Lib.cut s1 l.dc).2.1.length : Int), grouped := gr, exp := x }, ?_, ?_, fun r hr => ?_, by show -2000000000 ≤ n - ((Lib.cut s1 l.dc).2.1.length : Int); omega, by show n - ((Lib.cut s1 l.dc).2.1.length : Int) ≤ 2000000000; omega⟩
     ·rw [hnum]; rfl
     ·exact hset2 _
     ·rw [hnum] at hr; injection hr with hr; subst hr; exact ⟨rfl, rfl⟩
def acA (l : Loc) (s : List UInt8) : Int × List UInt8 × Int :=
 if Lib.hasPrefix s l.cur = true then (2, aaD yA (Lib.trimPrefix s l.cur).length (Lib.trimPrefix s l.cur), 0)
 else if Lib.hasSuffix s l.cur = true then (2, abJ yA (Lib.trimSuffix s l.cur).length (Lib.trimSuffix s l.cur), 0)
 else if Lib.hasSuffix s l.pct = true then (1, abJ yA (Lib.trimSuffix s l.pct).length (Lib.trimSuffix s l.pct), -2)
 else (0, s, 0)
theorem amtP_len (l : Loc) (s : List UInt8) : (acA l s).2.1.length ≤ s.length := by
 unfold acA
 repeat' split
 ·exact Nat.le_trans (acB _ _ _) (acU _ _)
 ·exact Nat.le_trans (acT _ _ _) (abS _ _)
 ·exact Nat.le_trans (acT _ _ _) (abS _ _)
 ·exact Nat.le_refl _

set_option maxRecDepth 100000 in
theorem atL (l : Loc) (hk : l.ok) (hg : l.grp ≠ []) (b : Nat) (s : List UInt8) (hs : s.length ≤ 1000) (o : EntN) (ho : o.exp = false ∧ o.grouped = false) (ho0 : o.kind = 0) (bo : Nat) (H : Heap) (hbo : H.objs bo = some (.box 76 (EntN.cs o))) : ACall Tryz.prog 97 [erA l b, .str s, .ptr (some ⟨bo, 0, none⟩)] H (fun y H' => ∃ (p : PartN) (o' : EntN), y = .tuple [p.av, .bool (aqS l (acA l s).2.1).isSome] ∧ H' = H.set bo (.box 76 (EntN.cs o')) ∧ ∀ r, aqS l (acA l s).2.1 = some r → p = ⟨r.1, r.2.1 + (acA l s).2.2⟩ ∧ o' = { o with kind := (acA l s).1, places := r.2.2.1, grouped := r.2.2.2.1, exp := r.2.2.2.2 }) := by
 have hl1 := acU s l.cur
 have hl2 := abS s l.cur
 have hl3 := abS s l.pct
 have hl4 := acB yA (Lib.trimPrefix s l.cur).length (Lib.trimPrefix s l.cur)
 have hl5 := acT yA (Lib.trimSuffix s l.cur).length (Lib.trimSuffix s l.cur)
 have hl6 := acT yA (Lib.trimSuffix s l.pct).length (Lib.trimSuffix s l.pct)
 refine ACall.of_body Tryz.func97 rfl Tryz.ntmps97 Tryz.results97 rfl ?_
 iterate 2 refine AX ?_
 refine .s rfl (zG Tryz.zeroValue130 (zr130)) ?_
 rintro _ _ ⟨b6, hb6, rfl, hH⟩
 obtain rfl := hH.symm
 iterate 5 refine AX ?_
 have ho6 : bo ≠ b6 := by intro q; rw [q, hb6] at hbo; cases hbo
 have ho6s := ho6.symm
 iterate 4 refine AX ?_
 refine .p rfl (zA Tryz.underlying123 rfl Tryz.sizeOf29 (tm rfl)) (.p rfl (zA Tryz.underlying29 rfl Tryz.sizeOf9 (tm rfl)) ?_)
 refine AX ?_
 refine .cl rfl Tryz.call93 (evs2 rfl rfl) (cutPrefixA _ _ _) ?_
 iterate 12 refine AX ?_
 refine AWP.cx rfl (fun hc26 => ?_) (fun hc26 => ?_)
 ·have hamt : acA l s = (2, (aaD yA (Lib.trimPrefix s l.cur).length (Lib.trimPrefix s l.cur)), 0) := by unfold acA; rw [if_pos hc26]
  iterate 4 refine AX ?_
  refine .p rfl (zJ Tryz.underlying76 rfl Tryz.sizeOf3 (tm rfl)) (.e0 (zB Tryz.sizeOf3 (tm rfl) zI rfl rfl (.inl rfl) ((Heap.objs_set_ne _ _ ho6).trans hbo) (Nat.le_of_ble_eq_true rfl)) ?_)
  try first | rw [Heap.set_set] | rw [Heap.set_under (by assumption)]
  iterate 6 refine AX ?_
  refine .cl rfl Tryz.call96 (.cons (tm rfl) (.cons (.func _) .nil)) (trimLeftFuncA _ _) ?_
  refine AX ?_
  refine .s rfl (zC Tryz.call161 (evs3 rfl rfl rfl) (adO l hk hg b (aaD yA (Lib.trimPrefix s l.cur).length (Lib.trimPrefix s l.cur)) (by omega) { o with kind := 2 } ho bo _ (Heap.objs_set_same _ _ _))) ?_
  rintro _ _ ⟨p, o1, rfl, rfl, hp, hpe1, hpe2⟩
  try rw [Heap.set_set]
  iterate 2 refine AX ?_
  refine .e0 (zB Tryz.sizeOf130 (tm rfl) (tm rfl) rfl rfl (.inr ⟨_, rfl⟩) ((Heap.objs_set_ne _ _ (by assumption)).trans (Heap.objs_set_same _ _ _)) (Nat.le_of_ble_eq_true rfl)) ?_
  try first | rw [Heap.set_set] | rw [Heap.set_under (by assumption)]
  iterate 3 refine AX ?_
  rw [Heap.set_comm ho6s]
  refine AWP.frz (t := 6) rfl ((Heap.objs_set_ne _ _ ho6s).trans hb6) ?_
  iterate 2 refine AX ?_
  refine Ret.go (.cons (.cellI _ _ _ _ rfl Tryz.isAgg130 Tryz.sizeOf130 rfl) (.cons (.tmp _ _ rfl) .nil)) _ (Heap.le.refl _) ?_
  refine ⟨p, o1, ?_, rfl, fun r hr => ?_⟩
  ·rw [hamt]; rfl
  ·rw [hamt] at hr ⊢
   obtain ⟨rfl, rfl⟩ := hp r hr
   exact ⟨by simp, rfl⟩
 ·iterate 8 refine AX ?_
  refine .p rfl (zA Tryz.underlying123 rfl Tryz.sizeOf29 (tm rfl)) (.p rfl (zA Tryz.underlying29 rfl Tryz.sizeOf9 (tm rfl)) ?_)
  refine AX ?_
  refine .cl rfl Tryz.call94 (evs2 rfl rfl) (cutSuffixA _ _ _) ?_
  iterate 12 refine AX ?_
  refine AWP.cx rfl (fun hc47 => ?_) (fun hc47 => ?_)
  ·have hamt : acA l s = (2, (abJ yA (Lib.trimSuffix s l.cur).length (Lib.trimSuffix s l.cur)), 0) := by unfold acA; rw [if_neg (by simp [hc26]), if_pos hc47]
   iterate 4 refine AX ?_
   refine .p rfl (zJ Tryz.underlying76 rfl Tryz.sizeOf3 (tm rfl)) (.e0 (zB Tryz.sizeOf3 (tm rfl) zI rfl rfl (.inl rfl) ((Heap.objs_set_ne _ _ ho6).trans hbo) (Nat.le_of_ble_eq_true rfl)) ?_)
   try first | rw [Heap.set_set] | rw [Heap.set_under (by assumption)]
   iterate 6 refine AX ?_
   refine .cl rfl Tryz.call157 (.cons (tm rfl) (.cons (.func _) .nil)) (trimRightFuncA _ _) ?_
   refine AX ?_
   refine .s rfl (zC Tryz.call161 (evs3 rfl rfl rfl) (adO l hk hg b (abJ yA (Lib.trimSuffix s l.cur).length (Lib.trimSuffix s l.cur)) (by omega) { o with kind := 2 } ho bo _ (Heap.objs_set_same _ _ _))) ?_
   rintro _ _ ⟨p, o1, rfl, rfl, hp, hpe1, hpe2⟩
   try rw [Heap.set_set]
   iterate 2 refine AX ?_
   refine .e0 (zB Tryz.sizeOf130 (tm rfl) (tm rfl) rfl rfl (.inr ⟨_, rfl⟩) ((Heap.objs_set_ne _ _ (by assumption)).trans (Heap.objs_set_same _ _ _)) (Nat.le_of_ble_eq_true rfl)) ?_
   try first | rw [Heap.set_set] | rw [Heap.set_under (by assumption)]
   iterate 3 refine AX ?_
   rw [Heap.set_comm ho6s]
   refine AWP.frz (t := 6) rfl ((Heap.objs_set_ne _ _ ho6s).trans hb6) ?_
   iterate 2 refine AX ?_
   refine Ret.go (.cons (.cellI _ _ _ _ rfl Tryz.isAgg130 Tryz.sizeOf130 rfl) (.cons (.tmp _ _ rfl) .nil)) _ (Heap.le.refl _) ?_
   refine ⟨p, o1, ?_, rfl, fun r hr => ?_⟩
   ·rw [hamt]; rfl
   ·rw [hamt] at hr ⊢
    obtain ⟨rfl, rfl⟩ := hp r hr
    exact ⟨by simp, rfl⟩
  ·iterate 8 refine AX ?_
   refine .p rfl (zA Tryz.underlying123 rfl Tryz.sizeOf29 (tm rfl)) (.p rfl (zA Tryz.underlying29 rfl Tryz.sizeOf9 (tm rfl)) ?_)
   refine AX ?_
   refine .cl rfl Tryz.call94 (evs2 rfl rfl) (cutSuffixA _ _ _) ?_
   iterate 12 refine AX ?_
   refine AWP.cx rfl (fun hc68 => ?_) (fun hc68 => ?_)
   ·have hamt : acA l s = (1, (abJ yA (Lib.trimSuffix s l.pct).length (Lib.trimSuffix s l.pct)), -2) := by unfold acA; rw [if_neg (by simp [hc26]), if_neg (by simp [hc47]), if_pos hc68]
    iterate 4 refine AX ?_
    refine .p rfl (zJ Tryz.underlying76 rfl Tryz.sizeOf3 (tm rfl)) (.e0 (zB Tryz.sizeOf3 (tm rfl) zI rfl rfl (.inl rfl) ((Heap.objs_set_ne _ _ ho6).trans hbo) (Nat.le_of_ble_eq_true rfl)) ?_)
    try first | rw [Heap.set_set] | rw [Heap.set_under (by assumption)]
    iterate 6 refine AX ?_
    refine .cl rfl Tryz.call157 (.cons (tm rfl) (.cons (.func _) .nil)) (trimRightFuncA _ _) ?_
    refine AX ?_
    refine .s rfl (zC Tryz.call161 (evs3 rfl rfl rfl) (adO l hk hg b (abJ yA (Lib.trimSuffix s l.pct).length (Lib.trimSuffix s l.pct)) (by omega) { o with kind := 1 } ho bo _ (Heap.objs_set_same _ _ _))) ?_
    rintro _ _ ⟨p, o1, rfl, rfl, hp, hpe1, hpe2⟩
    try rw [Heap.set_set]
    iterate 3 refine AX ?_
    refine .s rfl (zG Tryz.zeroValue130 (zr130)) ?_
    rintro _ _ ⟨b14, hb14, rfl, hH⟩
    obtain rfl := hH.symm
    have hn6_14 := Heap.ne_of (Heap.objs_set_same _ _ _) hb14
    refine .e0 (zB Tryz.sizeOf130 (tm rfl) (tm rfl) rfl rfl (.inr ⟨_, rfl⟩) (Heap.objs_set_same _ _ _) (Nat.le_of_ble_eq_true rfl)) ?_
    try first | rw [Heap.set_set] | rw [Heap.set_under (by assumption)]
    iterate 4 refine AX ?_
    have h6e : b6 ≠ b14 := Heap.ne_of ((Heap.objs_set_ne _ _ ho6s).trans (Heap.objs_set_same _ _ _)) hb14
    have hoe14 : bo ≠ b14 := Heap.ne_of (Heap.objs_set_same _ _ _) hb14
    have h140 : H.objs b14 = none := by have q := hb14; rw [Heap.objs_set_ne _ _ hoe14.symm, Heap.objs_set_ne _ _ h6e.symm] at q; exact q
    refine AX ?_
    refine .p rfl (zJ Tryz.underlying130 rfl Tryz.sizeOf3 (tm rfl)) (.e rfl (zQ Tryz.isAgg3 (tm rfl) (Heap.objs_set_same _ _ _) rfl) ?_)
    refine AX ?_
    refine .p rfl (zJ Tryz.underlying130 rfl Tryz.sizeOf3 (tm rfl)) (.e0 (zB Tryz.sizeOf3 (tm rfl) (tm rfl) rfl rfl (.inl rfl) (Heap.objs_set_same _ _ _) (Nat.le_of_ble_eq_true rfl)) ?_)
    try first | rw [Heap.set_set] | rw [Heap.set_under (by assumption)]
    iterate 4 refine AX ?_
    refine .e rfl (zV Tryz.isAgg130 Tryz.sizeOf130 (tm rfl) (Heap.objs_set_same _ _ _) (Nat.le_of_ble_eq_true rfl)) ?_
    refine AX ?_
    refine .e0 (zB Tryz.sizeOf130 (tm rfl) (tm rfl) rfl rfl (.inr ⟨_, rfl⟩) ((Heap.objs_set_ne _ _ (by assumption)).trans ((Heap.objs_set_ne _ _ (by assumption)).trans (Heap.objs_set_same _ _ _))) (Nat.le_of_ble_eq_true rfl)) ?_
    try first | rw [Heap.set_set] | rw [Heap.set_under (by assumption)]
    iterate 3 refine AX ?_
    rw [Heap.set_comm h6e.symm, Heap.set_under ho6s]
    refine AWP.dropb ((Heap.objs_set_ne _ _ hoe14.symm).trans ((Heap.objs_set_ne _ _ h6e.symm).trans h140)) ?_
    rw [Heap.set_comm ho6s]
    refine AWP.frz (t := 6) rfl ((Heap.objs_set_ne _ _ ho6s).trans hb6) ?_
    iterate 2 refine AX ?_
    refine Ret.go (.cons (.cellI _ _ _ _ rfl Tryz.isAgg130 Tryz.sizeOf130 rfl) (.cons (.tmp _ _ rfl) .nil)) _ (Heap.le.refl _) ?_
    refine ⟨⟨p.digits, p.exp - 2⟩, o1, ?_, rfl, fun r hr => ?_⟩
    ·rw [hamt]; rfl
    ·rw [hamt] at hr ⊢
     obtain ⟨rfl, rfl⟩ := hp r hr
     exact ⟨rfl, rfl⟩
   ·have hamt : acA l s = (0, s, 0) := by unfold acA; rw [if_neg (by simp [hc26]), if_neg (by simp [hc47]), if_neg (by simp [hc68])]
    iterate 7 refine AX ?_
    refine .s rfl (zC Tryz.call161 (evs3 rfl rfl rfl) (adO l hk hg b s (by omega) { o with kind := o.kind } ho bo _ ((Heap.objs_set_ne _ _ ho6).trans hbo))) ?_
    rintro _ _ ⟨p, o1, rfl, rfl, hp, hpe1, hpe2⟩
    try rw [Heap.set_set]
    iterate 2 refine AX ?_
    refine .e0 (zB Tryz.sizeOf130 (tm rfl) (tm rfl) rfl rfl (.inr ⟨_, rfl⟩) ((Heap.objs_set_ne _ _ (by assumption)).trans (Heap.objs_set_same _ _ _)) (Nat.le_of_ble_eq_true rfl)) ?_
    try first | rw [Heap.set_set] | rw [Heap.set_under (by assumption)]
    iterate 3 refine AX ?_
    rw [Heap.set_comm ho6s]
    refine AWP.frz (t := 6) rfl ((Heap.objs_set_ne _ _ ho6s).trans hb6) ?_
    refine AX ?_
    refine Ret.go (.cons (.cellI _ _ _ _ rfl Tryz.isAgg130 Tryz.sizeOf130 rfl) (.cons (.tmp _ _ rfl) .nil)) _ (Heap.le.refl _) ?_
    refine ⟨p, o1, ?_, rfl, fun r hr => ?_⟩
    ·rw [hamt]; rfl
    ·rw [hamt] at hr ⊢
     obtain ⟨rfl, rfl⟩ := hp r hr
     exact ⟨by simp, by rw [ho0]⟩
end Go.Proofs.YtmmgbnolccpjoaaGreatDoor
