import Derived.Test.YtfkeflcdadlmdaaGreatDoorSsk
import Derived.Test.YtfkeflcdadlmdaaGreatDoorU1
namespace Go.Proofs.YtfkeflcdadlmdaaGreatDoor
open Go Go.RowKit

theorem zr32 : ∀ g, RelCells g [.int .u64 0, .int .i64 0, .int .i64 0, .bool false, .bool false] (Value.cells (Go.Value.agg #[Go.Value.int Go.IntKind.u64 0, Go.Value.int Go.IntKind.i64 0, Go.Value.int Go.IntKind.i64 0, Go.Value.bool false, Go.Value.bool false])) := fun g => RelL.cells (.cons (.int _ _) (.cons (.int _ _) (.cons (.int _ _) (.cons (.bool _) (.cons (.bool _) .nil)))))
theorem pl32 (fs : Array Field) (hfs : Tryz.prog.underlying 32 = some (.struct fs)) : ∀ (i : Nat) f p, fs[i]? = some f → [(0, 1), (1, 1), (2, 1), (3, 1), (4, 1)][i]? = some p → ∀ w, (sizeOf f.type).run Tryz.prog w = .ok p.2 w := by
 have e := (Option.some.inj (hfs.symm.trans Tryz.underlying32))
 cases e
 intro i f p hf hp w
 match i with
 | 0 => cases hf; cases hp; exact Tryz.sizeOf30 w
 | 1 => cases hf; cases hp; exact Tryz.sizeOf3 w
 | 2 => cases hf; cases hp; exact Tryz.sizeOf3 w
 | 3 => cases hf; cases hp; exact Tryz.sizeOf4 w
 | 4 => cases hf; cases hp; exact Tryz.sizeOf4 w
 | i + 5 => simp at hp
theorem zr75 : ∀ g, RelCells g [.str [], .int .i64 0] (Value.cells (Go.Value.agg #[Go.Value.string { data := #[] }, Go.Value.int Go.IntKind.i64 0])) := fun g => RelL.cells (.cons ((.str [] (Nat.zero_le _))) (.cons (.int _ _) .nil))
structure EntN where
 bits : Nat
 kind : Int
 places : Int
 grouped : Bool
 exp : Bool
def EntN.cs (o : EntN) : List AV := [.int .u64 (o.bits : Int), .int .i64 o.kind, .int .i64 o.places, .bool o.grouped, .bool o.exp]
structure PartN where
 digits : List UInt8
 exp : Int
def PartN.av (p : PartN) : AV := .agg [.str p.digits, .int .i64 p.exp]
def eAt (s : List UInt8) : Int := Lib.indexByte (Lib.replaceAll s [69] [101]) 101
def aiJ (l : Loc) (s : List UInt8) : Option (List UInt8 × Int × Bool) :=
 if 0 ≤ eAt s then (match baX l (s.drop ((eAt s).toNat + 1)) with | some n => some (s.take (eAt s).toNat, n, true) | none => none) else some (s, 0, false)
def adP (l : Loc) (w : List UInt8) : Option (List UInt8 × Bool) :=
 if w = [] then some ([], false) else match aeF l w with | none => none | some d => some (d, !decide (d = w))
def badB (a b : List UInt8) : Bool := (decide (a = []) && decide (b = [])) || decide (qZ acW b.length b ≠ [])
def ajI (l : Loc) (s : List UInt8) : Option (List UInt8 × Nat × Bool) :=
 if badB (Lib.cut s l.dc).1 (Lib.cut s l.dc).2.1 = true then none
 else match adP l (Lib.cut s l.dc).1 with | none => none | some (d, g) => some (d ++ (Lib.cut s l.dc).2.1, (Lib.cut s l.dc).2.1.length, g)
def alH (l : Loc) (s : List UInt8) : Option (List UInt8 × Int × Nat × Bool × Bool) :=
 match aiJ l s with
 | none => none
 | some (t, n, x) => match ajI l t with | none => none | some (d, k, g) => some (d, n - k, k, g, x)
theorem baC {l : Loc} {s : List UInt8} {n : Int} (h : baX l s = some n) : -1000000000 < n ∧ n < 1000000000 := by
 unfold baX at h
 split at h
 ·rename_i hc
  have h9 := num_9 (adA.1 hc.2.1) hc.2.2
  injection h with h
  subst h
  split <;> omega
 ·cases h
theorem atV {l : Loc} {s d : List UInt8} (h : aeF l s = some d) : Digs d ∧ d.length ≤ s.length ∧ d ≠ [] := by
 unfold aeF at h
 split at h
 ·cases h
 ·rename_i hc
  split at h
  ·cases h
  ·injection h with h
   subst h
   refine ⟨?_, avR _ _, fun q => hc (.inl q)⟩
   rcases Bool.eq_false_or_eq_true (anW (Lib.replaceAll s l.grp [])) with q | q
   ·exact adA.1 q
   ·exact absurd (.inr q) hc
theorem ajU {l : Loc} {w d : List UInt8} {gr : Bool} (h : adP l w = some (d, gr)) : Digs d ∧ d.length ≤ w.length := by
 unfold adP at h
 split at h
 ·injection h with h
  injection h with h1 h2
  subst h1
  exact ⟨fun b hb => by simp at hb, Nat.zero_le _⟩
 ·cases hp : aeF l w with
  | none => rw [hp] at h; cases h
  | some q =>
   rw [hp] at h
   injection h with h
   injection h with h1 h2
   subst h1
   have := atV hp
   exact ⟨this.1, this.2.1⟩
theorem baP {a b : List UInt8} (h : badB a b = false) : Digs b := by
 unfold badB at h
 simp only [Bool.or_eq_false_iff, decide_eq_false_iff_not, Decidable.not_not] at h
 exact (adF _ _ (Nat.le_refl _)).1 h.2
theorem baM {l : Loc} {s d : List UInt8} {k : Nat} {gr : Bool} (h : ajI l s = some (d, k, gr)) : Digs d ∧ d.length ≤ 2 * s.length ∧ k ≤ s.length := by
 have hl := auR s l.dc
 unfold ajI at h
 split at h
 ·cases h
 ·rename_i hb
  cases hw : adP l (Lib.cut s l.dc).1 with
  | none => rw [hw] at h; cases h
  | some q =>
   obtain ⟨q, g2⟩ := q
   rw [hw] at h
   injection h with h
   injection h with h1 h2
   injection h2 with h2 h3
   subst h1; subst h2
   have := ajU hw
   refine ⟨Digs.app this.1 (baP (by simpa using hb)), ?_, hl.2⟩
   rw [List.length_append]; omega
theorem anQ {l : Loc} {s t : List UInt8} {n : Int} {x : Bool} (h : aiJ l s = some (t, n, x)) : t.length ≤ s.length ∧ -1000000000 < n ∧ n < 1000000000 := by
 unfold aiJ at h
 split at h
 ·cases he : baX l (s.drop ((eAt s).toNat + 1)) with
  | none => rw [he] at h; cases h
  | some m =>
   rw [he] at h
   injection h with h
   injection h with h1 h2
   injection h2 with h2 h3
   subst h1; subst h2
   have := baC he
   exact ⟨by rw [List.length_take]; omega, this⟩
 ·injection h with h
  injection h with h1 h2
  injection h2 with h2 h3
  subst h1; subst h2
  exact ⟨Nat.le_refl _, by decide, by decide⟩
theorem eAtA (s : List UInt8) (H : Heap) : ACall Tryz.prog 100 [.str (Lib.replaceAll s [69] [101]), .int .u8 101] H (fun y H' => y = .int .i64 (eAt s) ∧ H' = H) := indexByteA _ 101 H
theorem agY {old new : List UInt8} (h : new.length = old.length) : ∀ (k : Nat) (s : List UInt8), (Lib.replaceK old new k s).length = s.length
 | 0, s => rfl
 | k + 1, s => by
  rw [Lib.replaceK]
  split
  ·rfl
  ·rename_i hc
   have hg := Lib.index_ge s old
   have hne : Lib.index s old ≠ -1 := fun q => hc (by simp [q])
   have hr := Lib.index_room s old (by omega)
   simp only [List.length_append, List.length_take, agY h k, List.length_drop]
   omega
theorem aqM {s old new : List UInt8} (h : new.length = old.length) : (Lib.replaceAll s old new).length = s.length := by
 unfold Lib.replaceAll Lib.replace
 split
 ·rfl
 ·exact agY h _ _
theorem eAt_lt (s : List UInt8) : eAt s < s.length := by
 have h := aqM (s := s) (old := [69]) (new := [101]) rfl
 unfold eAt
 rcases Int.lt_or_le (Lib.indexByte (Lib.replaceAll s [69] [101]) 101) 0 with h0 | h0
 ·omega
 ·obtain ⟨o, ho⟩ : ∃ o : Nat, Lib.indexByte (Lib.replaceAll s [69] [101]) 101 = o := ⟨(Lib.indexByte (Lib.replaceAll s [69] [101]) 101).toNat, by omega⟩
  have h1 := (Lib.indexByte_some ho).1
  have h2 := (List.getElem?_eq_some_iff.1 h1).1
  omega

set_option maxRecDepth 100000 in
theorem adT (l : Loc) (hk : l.ok) (hg : l.grp ≠ []) (b : Nat) (s : List UInt8) (hs : s.length ≤ 1000) (o : EntN) (ho : o.exp = false ∧ o.grouped = false) (bo : Nat) (H : Heap) (hbo : H.objs bo = some (.box 32 (EntN.cs o))) : ACall Tryz.prog 66 [erA l b, .str s, .ptr (some ⟨bo, 0, none⟩)] H (fun y H' => ∃ (p : PartN) (o' : EntN), y = .tuple [p.av, .bool (alH l s).isSome] ∧ H' = H.set bo (.box 32 (EntN.cs o')) ∧ (∀ r, alH l s = some r → p = ⟨r.1, r.2.1⟩ ∧ o' = { o with places := r.2.2.1, grouped := r.2.2.2.1, exp := r.2.2.2.2 }) ∧ -2000000000 ≤ p.exp ∧ p.exp ≤ 2000000000) := by
 have hel := eAt_lt s
 have hoe : ({ o with exp := false } : EntN) = o := by cases o; simp at ho; simp [ho]
 refine ACall.of_body Tryz.func66 rfl Tryz.ntmps66 Tryz.results66 rfl ?_
 refine .sr (.s rfl (zT Tryz.zeroValue75 (zr75)) ?_)
 rintro _ _ ⟨b6, hb6, rfl, hH⟩
 obtain rfl := hH.symm
 refine .p rfl (zB zK) (.nr (.s rfl (zT Tryz.zeroValue75 (zr75)) ?_))
 rintro _ _ ⟨b8, hb8, rfl, hH⟩
 obtain rfl := hH.symm
 have hn6_8 := Heap.ne_of (Heap.objs_set_same _ _ _) hb8
 refine .ng ?_
 refine AWP.meet (fun env H2 => ∃ (s1 : List UInt8) (n : Int) (x : Bool), aiJ l s = some (s1, n, x) ∧ env = [(0, erA l b), (1, .str s1), (2, .ptr (some ⟨bo, 0, none⟩)), (6, .ptr (some ⟨b6, 0, none⟩)), (7, .bool false), (8, .ptr (some ⟨b8, 0, none⟩))] ∧ H2 = ((H.set bo (.box 32 (EntN.cs { o with exp := x }))).set b6 (.box 75 [.str [], .int .i64 0])).set b8 (.box 75 [.str [], .int .i64 n])) ?_ ?_
 ·refine .seq ?_
  have ho6 : bo ≠ b6 := by intro q; rw [q, hb6] at hbo; cases hbo
  have hbo6 := (Heap.objs_set_ne H (.box 75 [.str [], .int .i64 0]) ho6).trans hbo
  have ho8 : bo ≠ b8 := by intro q; rw [q, hb8] at hbo6; cases hbo6
  have ho6s := ho6.symm
  have ho8s := ho8.symm
  refine .region (.mv rfl rfl (.cl rfl Tryz.call101 (.cons (tm rfl) (.cons (zS rfl) (.cons (zS rfl) .nil))) (replaceA s [69] [101] (by omega) (by decide) (by decide) _) (.cl rfl Tryz.call100 (.cons (tm rfl) (.cons zE .nil)) (eAtA s _) (.as rfl rfl (.nr (.mv rfl rfl (.p rfl (qH (tm rfl) zE) (.ng ?_))))))))
  refine AWP.cond (tm rfl) (fun hc21 => ?_) (fun hc21 => ?_)
  ·try simp only [decide_eq_true_eq] at hc21
   have hdn : (eAt s + 1).toNat = (eAt s).toNat + 1 := by omega
   refine .sr (.mv rfl rfl (.mv rfl rfl (.mv rfl rfl (.p rfl (zR (tm rfl) zE (by omega)) (.p rfl (abK Tryz.underlying9 (tm rfl) (tm rfl) (by omega) (by omega)) (.cl rfl Tryz.call102 (evs2 rfl rfl) (amN l b _ (by simp only [List.length_drop]; omega) _) (.mv rfl rfl (.p rfl (zD (tm rfl) rfl) ?_))))))))
   refine .p rfl (zD (tm rfl) rfl) (.as rfl rfl (.as rfl rfl (.ng (.seq (.sr (.mv rfl rfl (.p rfl (qY (tm rfl)) (.ng ?_))))))))
   refine AWP.cond (tm rfl) (fun hc32 => ?_) (fun hc32 => ?_)
   ·try simp only [Bool.not_eq_true'] at hc32
    have hq2 : baX l (s.drop ((eAt s).toNat + 1)) = none := by rw [← hdn]; simpa using hc32
    have hnn : alH l s = none := by unfold alH aiJ; rw [if_pos (by omega), hq2]
    refine .sr (.e rfl (yG Tryz.isAgg75 Tryz.sizeOf75 (tm rfl) (Heap.objs_set_same _ _ _) (Nat.le_of_ble_eq_true rfl)) (.e0 (zH Tryz.sizeOf75 (tm rfl) (tm rfl) rfl rfl (.inr ⟨_, rfl⟩) ((Heap.objs_set_ne _ _ (by assumption)).trans (Heap.objs_set_same _ _ _)) (Nat.le_of_ble_eq_true rfl)) ?_))
    try first | rw [Heap.set_set] | rw [Heap.set_under (by assumption)]
    refine .p rfl (zB zK) (.ng ?_)
    refine AWP.dropb (Heap.fresh_set hb8 _) ?_
    refine AWP.frz (t := 6) rfl hb6 ?_
    refine .ret ?_
    refine Next.rt ?_
    refine Next.rt ?_
    refine Ret.go (.cons (.cellI _ _ _ _ rfl Tryz.isAgg75 Tryz.sizeOf75 rfl) (.cons (.tmp _ _ rfl) .nil)) _ (Heap.le.refl _) ?_
    refine ⟨⟨[], 0⟩, o, ?_, (Heap.set_self hbo).symm, fun r hr => ?_, by decide, by decide⟩
    ·rw [hnn]; rfl
    ·rw [hnn] at hr; cases hr
   ·try simp only [Bool.not_eq_false'] at hc32
    obtain ⟨n0, hq2⟩ : ∃ n0, baX l (s.drop ((eAt s).toNat + 1)) = some n0 := by rw [← hdn]; exact Option.isSome_iff_exists.1 (by simpa using hc32)
    have hhead : aiJ l s = some (s.take (eAt s).toNat, n0, true) := by unfold aiJ; rw [if_pos (by omega), hq2]
    rw [hdn, hq2]
    refine .skip ?_
    refine Next.go ?_
    refine .region (.mv rfl rfl (.mv rfl rfl (.mv rfl rfl (.p rfl (aaV Tryz.underlying9 (tm rfl) (tm rfl) (by omega) (by omega)) (.mv rfl rfl (.as rfl rfl (.p rfl (yB Tryz.underlying75 rfl Tryz.sizeOf3 (tm rfl)) (.e0 (zH Tryz.sizeOf3 (tm rfl) (tm rfl) rfl rfl (.inl rfl) (Heap.objs_set_same _ _ _) (Nat.le_of_ble_eq_true rfl)) ?_))))))))
    try first | rw [Heap.set_set] | rw [Heap.set_under (by assumption)]
    refine .p rfl (qT (tm rfl)) (.p rfl (yB Tryz.underlying32 rfl Tryz.sizeOf4 (tm rfl)) (.e0 (zH Tryz.sizeOf4 (tm rfl) zK rfl rfl (.inl rfl) ((Heap.objs_set_ne _ _ ho8).trans ((Heap.objs_set_ne _ _ ho6).trans hbo)) (Nat.le_of_ble_eq_true rfl)) ?_))
    try first | rw [Heap.set_set] | rw [Heap.set_under (by assumption)]
    refine .ng ?_
    refine Meets.mk (M := fun env H2 => ∃ (s1 : List UInt8) (n : Int) (x : Bool), aiJ l s = some (s1, n, x) ∧ env = [(0, erA l b), (1, .str s1), (2, .ptr (some ⟨bo, 0, none⟩)), (6, .ptr (some ⟨b6, 0, none⟩)), (7, .bool false), (8, .ptr (some ⟨b8, 0, none⟩))] ∧ H2 = ((H.set bo (.box 32 (EntN.cs { o with exp := x }))).set b6 (.box 75 [.str [], .int .i64 0])).set b8 (.box 75 [.str [], .int .i64 n])) ⟨_, _, true, hhead, rfl, rfl⟩ (zA rfl (zA rfl (zA rfl (zA rfl (zA rfl (zA rfl zL)))))) (by (rw [Heap.set_comm ho8s, Heap.set_comm ho6s]; exact Heap.le.refl _))
  ·try simp only [decide_eq_false_iff_not, Int.not_le] at hc21
   have hhead : aiJ l s = some (s, 0, false) := by unfold aiJ; rw [if_neg (by omega)]
   refine .skip ?_
   refine Next.go ?_
   refine Meets.mk (M := fun env H2 => ∃ (s1 : List UInt8) (n : Int) (x : Bool), aiJ l s = some (s1, n, x) ∧ env = [(0, erA l b), (1, .str s1), (2, .ptr (some ⟨bo, 0, none⟩)), (6, .ptr (some ⟨b6, 0, none⟩)), (7, .bool false), (8, .ptr (some ⟨b8, 0, none⟩))] ∧ H2 = ((H.set bo (.box 32 (EntN.cs { o with exp := x }))).set b6 (.box 75 [.str [], .int .i64 0])).set b8 (.box 75 [.str [], .int .i64 n])) ⟨s, 0, false, hhead, rfl, rfl⟩ (zA rfl (zA rfl (zA rfl (zA rfl (zA rfl (zA rfl zL)))))) (by (rw [hoe, Heap.set_self hbo]; exact Heap.le.refl _))
 ·rintro _ _ ⟨s1, n, x, hhp, rfl, rfl⟩
  have ho6 : bo ≠ b6 := by intro q; rw [q, hb6] at hbo; cases hbo
  have hbo6 := (Heap.objs_set_ne H (.box 75 [.str [], .int .i64 0]) ho6).trans hbo
  have ho8 : bo ≠ b8 := by intro q; rw [q, hb8] at hbo6; cases hbo6
  have ho6s := ho6.symm
  have ho8s := ho8.symm
  have hcl := auR s1 l.dc
  have hh1 := anQ hhp
  have hboN := Heap.objs_set_same H bo (.box 32 (EntN.cs { o with exp := x }))
  have hb80 := (Heap.objs_set_ne H (.box 75 [.str [], .int .i64 0]) hn6_8.symm).symm.trans hb8
  have hb6 := (Heap.objs_set_ne H (.box 32 (EntN.cs { o with exp := x })) ho6s).trans hb6
  have hb8 : ((H.set bo (.box 32 (EntN.cs { o with exp := x }))).set b6 (.box 75 [.str [], .int .i64 0])).objs b8 = none := (Heap.objs_set_ne _ _ hn6_8.symm).trans ((Heap.objs_set_ne _ _ ho8s).trans hb80)
  have hset : ∀ X, (H.set bo (.box 32 (EntN.cs { o with exp := x }))).set bo X = H.set bo X := fun X => Heap.set_set _ _ _ _
  generalize hH1 : H.set bo (.box 32 (EntN.cs { o with exp := x })) = HB at hboN hb6 hb8 hset ⊢
  have hbo0 := hbo
  have hbo := hboN
  have hoe2 : ({ o with exp := x, grouped := false } : EntN) = { o with exp := x } := by cases o; simp at ho; simp [ho]
  refine .sr (.mv rfl rfl (.mv rfl rfl (.p rfl (qI (tm rfl)) (.p rfl (zG Tryz.underlying68 rfl Tryz.sizeOf25 (tm rfl)) (.p rfl (zG Tryz.underlying25 rfl Tryz.sizeOf9 (tm rfl)) (.p rfl (zF Tryz.isAgg9 (tm rfl)) (.cl rfl Tryz.call103 (evs2 rfl rfl) (cutA s1 l.dc (by omega) _) (.mv rfl rfl ?_))))))))
  refine .p rfl (zD (tm rfl) rfl) (.p rfl (zD (tm rfl) rfl) (.p rfl (zD (tm rfl) rfl) (.as rfl rfl (.as rfl rfl (.as rfl rfl (.ng (.seq ?_)))))))
  refine AWP.seqTo 63 (.bool ((decide ((Lib.cut s1 l.dc).1 = []) && decide ((Lib.cut s1 l.dc).2.1 = [])) || decide (qZ acW (Lib.cut s1 l.dc).2.1.length (Lib.cut s1 l.dc).2.1 ≠ []))) [0, 2, 6, 7, 8, 12, 13] ?_ ?_
  ·-- region 9
   refine .region (.mv rfl rfl (.p rfl (qK (tm rfl) (zS rfl)) (.mv rfl rfl ?_)))
   refine zQ (t := 55) rfl (fun hg55 => ?_) (fun hg55 => ?_)
   ·refine .gp rfl rfl rfl (by assumption) (zC (tm rfl)) (.gp rfl rfl rfl (by assumption) (qK (tm rfl) (zS rfl)) (.p rfl (zN (tm rfl) (by assumption) (tm rfl)) (.mv rfl rfl ?_)))
    refine zQ (t := 59) rfl (fun hg59 => ?_) (fun hg59 => ?_)
    ·refine .gn rfl rfl rfl (by assumption) (.gn rfl rfl rfl (by assumption) (.gn rfl rfl rfl (by assumption) (.p rfl (zN (tm rfl) (by assumption) zK) (.nil ?_))))
     exact ⟨rfl, yV rfl (by (rw [show decide ((Lib.cut s1 l.dc).1 = []) = _ from hg55, show decide ((Lib.cut s1 l.dc).2.1 = []) = _ from hg59]; rfl)) (zA rfl (zA rfl (zA rfl (zA rfl (zA rfl (zA rfl (zA rfl zL))))))), rfl⟩
    ·refine .gp rfl rfl rfl (by assumption) (zC (tm rfl)) (.gs rfl rfl rfl (by assumption) (zP Tryz.call32 (.cons (tm rfl) (.cons (.func _) .nil)) (trimDigitsA _ _)) ?_)
     rintro _ _ ⟨rfl, hH⟩
     obtain rfl := hH.symm
     refine .gp rfl rfl rfl (by assumption) (qS (tm rfl) (zS rfl)) (.p rfl (zM (tm rfl) (by assumption) (tm rfl)) (.nil ?_))
     exact ⟨rfl, yV rfl (by (simp [*]; done)) (zA rfl (zA rfl (zA rfl (zA rfl (zA rfl (zA rfl (zA rfl zL))))))), rfl⟩
   ·refine .gn rfl rfl rfl (by assumption) (.gn rfl rfl rfl (by assumption) (.p rfl (zM (tm rfl) (by assumption) zK) (.mv rfl rfl (.gp rfl rfl rfl (by rfl) (zC (tm rfl)) (.gs rfl rfl rfl (by rfl) (zP Tryz.call32 (.cons (tm rfl) (.cons (.func _) .nil)) (trimDigitsA _ _)) ?_)))))
    rintro _ _ ⟨rfl, hH⟩
    obtain rfl := hH.symm
    refine .gp rfl rfl rfl (by rfl) (qS (tm rfl) (zS rfl)) (.p rfl (zM (tm rfl) (by rfl) (tm rfl)) (.nil ?_))
    exact ⟨rfl, yV rfl (by (simp [*]; done)) (zA rfl (zA rfl (zA rfl (zA rfl (zA rfl (zA rfl (zA rfl zL))))))), rfl⟩
  ·refine AWP.sub [(63, _), (0, _), (2, _), (6, _), (7, _), (8, _), (12, _), (13, _)] (zA rfl (zA rfl (zA rfl (zA rfl (zA rfl (zA rfl (zA rfl (zA rfl zL)))))))) ?_
   refine AWP.cond (tm rfl) (fun hc63 => ?_) (fun hc63 => ?_)
   ·try simp only [ne_eq] at hc63
    have hbad : badB (Lib.cut s1 l.dc).1 (Lib.cut s1 l.dc).2.1 = true := hc63
    have hnn : alH l s = none := by
     have hb : ajI l s1 = none := by unfold ajI; rw [if_pos hbad]
     unfold alH; rw [hhp]; simp only [hb]
    refine .sr (.e rfl (yG Tryz.isAgg75 Tryz.sizeOf75 (tm rfl) (Heap.objs_set_same _ _ _) (Nat.le_of_ble_eq_true rfl)) (.e0 (zH Tryz.sizeOf75 (tm rfl) (tm rfl) rfl rfl (.inr ⟨_, rfl⟩) ((Heap.objs_set_ne _ _ (by assumption)).trans (Heap.objs_set_same _ _ _)) (Nat.le_of_ble_eq_true rfl)) ?_))
    try first | rw [Heap.set_set] | rw [Heap.set_under (by assumption)]
    refine .p rfl (zB zK) (.ng ?_)
    refine AWP.dropb (Heap.fresh_set hb8 _) ?_
    refine AWP.frz (t := 6) rfl hb6 ?_
    refine .ret ?_
    refine Next.rt ?_
    refine Ret.go (.cons (.cellI _ _ _ _ rfl Tryz.isAgg75 Tryz.sizeOf75 rfl) (.cons (.tmp _ _ rfl) .nil)) _ (Heap.le.refl _) ?_
    refine ⟨⟨[], n⟩, { o with exp := x }, ?_, hH1.symm, fun r hr => ?_, by show -2000000000 ≤ n; omega, by show n ≤ 2000000000; omega⟩
    ·rw [hnn]; rfl
    ·rw [hnn] at hr; cases hr
   ·try simp only [ne_eq] at hc63
    have hbad : badB (Lib.cut s1 l.dc).1 (Lib.cut s1 l.dc).2.1 = false := hc63
    refine .skip ?_
    refine Next.go ?_
    refine AWP.meet (fun env H2 => ∃ (d : List UInt8) (gr : Bool), adP l (Lib.cut s1 l.dc).1 = some (d, gr) ∧ env = [(2, .ptr (some ⟨bo, 0, none⟩)), (6, .ptr (some ⟨b6, 0, none⟩)), (7, .bool false), (8, .ptr (some ⟨b8, 0, none⟩)), (13, .str (Lib.cut s1 l.dc).2.1)] ∧ H2 = ((HB.set bo (.box 32 (EntN.cs { o with exp := x, grouped := gr }))).set b6 (.box 75 [.str [], .int .i64 0])).set b8 (.box 75 [.str d, .int .i64 n])) ?_ ?_
    ·refine .sr (.mv rfl rfl (.p rfl (qS (tm rfl) (zS rfl)) (.ng ?_)))
     refine AWP.cond (tm rfl) (fun hc66 => ?_) (fun hc66 => ?_)
     ·try simp only [decide_eq_false_iff_not, Bool.not_eq_true'] at hc66
      have hwne : (Lib.cut s1 l.dc).1 ≠ [] := by simpa using hc66
      refine .sr (.mv rfl rfl (.p rfl (qI (tm rfl)) (.p rfl (zG Tryz.underlying68 rfl Tryz.sizeOf25 (tm rfl)) (.p rfl (zU Tryz.isAgg25 Tryz.sizeOf25 (tm rfl) (Nat.le_of_ble_eq_true rfl)) (.mv rfl rfl (.cl rfl Tryz.call105 (evs2 rfl rfl) (avD l hk hg _ (by omega) _) (.mv rfl rfl (.p rfl (zD (tm rfl) rfl) ?_))))))))
      refine .p rfl (zD (tm rfl) rfl) (.as rfl rfl (.as rfl rfl (.ng (.seq (.sr (.mv rfl rfl (.p rfl (qY (tm rfl)) (.ng ?_))))))))
      refine AWP.cond (tm rfl) (fun hc77 => ?_) (fun hc77 => ?_)
      ·try simp only [Bool.not_eq_true'] at hc77
       have hq3 : aeF l (Lib.cut s1 l.dc).1 = none := by simpa using hc77
       have hnn : alH l s = none := by
        have hw : adP l (Lib.cut s1 l.dc).1 = none := by unfold adP; rw [if_neg hwne, hq3]
        have hb : ajI l s1 = none := by unfold ajI; rw [if_neg (by rw [hbad]; decide), hw]
        unfold alH; rw [hhp]; simp only [hb]
       refine .sr (.e rfl (yG Tryz.isAgg75 Tryz.sizeOf75 (tm rfl) (Heap.objs_set_same _ _ _) (Nat.le_of_ble_eq_true rfl)) (.e0 (zH Tryz.sizeOf75 (tm rfl) (tm rfl) rfl rfl (.inr ⟨_, rfl⟩) ((Heap.objs_set_ne _ _ (by assumption)).trans (Heap.objs_set_same _ _ _)) (Nat.le_of_ble_eq_true rfl)) ?_))
       try first | rw [Heap.set_set] | rw [Heap.set_under (by assumption)]
       refine .p rfl (zB zK) (.ng ?_)
       refine AWP.dropb (Heap.fresh_set hb8 _) ?_
       refine AWP.frz (t := 6) rfl hb6 ?_
       refine .ret ?_
       refine Next.rt ?_
       refine Next.rt ?_
       refine Ret.go (.cons (.cellI _ _ _ _ rfl Tryz.isAgg75 Tryz.sizeOf75 rfl) (.cons (.tmp _ _ rfl) .nil)) _ (Heap.le.refl _) ?_
       refine ⟨⟨[], n⟩, { o with exp := x }, ?_, hH1.symm, fun r hr => ?_, by show -2000000000 ≤ n; omega, by show n ≤ 2000000000; omega⟩
       ·rw [hnn]; rfl
       ·rw [hnn] at hr; cases hr
      ·try simp only [Bool.not_eq_false'] at hc77
       obtain ⟨d0, hq3⟩ : ∃ d0, aeF l (Lib.cut s1 l.dc).1 = some d0 := Option.isSome_iff_exists.1 (by simpa using hc77)
       have hwh : adP l (Lib.cut s1 l.dc).1 = some (d0, !decide (d0 = (Lib.cut s1 l.dc).1)) := by unfold adP; rw [if_neg hwne, hq3]
       rw [hq3]
       refine .skip ?_
       refine Next.go ?_
       refine .sr (.mv rfl rfl (.mv rfl rfl (.mv rfl rfl (.p rfl (qS (tm rfl) (tm rfl)) (.p rfl (qT (tm rfl)) (.p rfl (yB Tryz.underlying32 rfl Tryz.sizeOf4 (tm rfl)) (.e0 (zH Tryz.sizeOf4 (tm rfl) (tm rfl) rfl rfl (.inl rfl) ((Heap.objs_set_ne _ _ ho8).trans ((Heap.objs_set_ne _ _ ho6).trans hbo)) (Nat.le_of_ble_eq_true rfl)) ?_)))))))
       try first | rw [Heap.set_set] | rw [Heap.set_under (by assumption)]
       refine .ng (.region (.mv rfl rfl (.p rfl (yB Tryz.underlying75 rfl Tryz.sizeOf9 (tm rfl)) (.e0 (zH Tryz.sizeOf9 (tm rfl) (tm rfl) rfl rfl (.inl rfl) ((Heap.objs_set_ne _ _ (by assumption)).trans (Heap.objs_set_same _ _ _)) (Nat.le_of_ble_eq_true rfl)) ?_))))
       try first | rw [Heap.set_set] | rw [Heap.set_under (by assumption)]
       refine .ng ?_
       refine Meets.mk (M := fun env H2 => ∃ (d : List UInt8) (gr : Bool), adP l (Lib.cut s1 l.dc).1 = some (d, gr) ∧ env = [(2, .ptr (some ⟨bo, 0, none⟩)), (6, .ptr (some ⟨b6, 0, none⟩)), (7, .bool false), (8, .ptr (some ⟨b8, 0, none⟩)), (13, .str (Lib.cut s1 l.dc).2.1)] ∧ H2 = ((HB.set bo (.box 32 (EntN.cs { o with exp := x, grouped := gr }))).set b6 (.box 75 [.str [], .int .i64 0])).set b8 (.box 75 [.str d, .int .i64 n])) ⟨_, _, hwh, rfl, rfl⟩ (zA rfl (zA rfl (zA rfl (zA rfl (zA rfl zL))))) (by (rw [Heap.set_comm ho8s, Heap.set_comm ho6s]; exact Heap.le.refl _))
     ·try simp only [decide_eq_true_eq, Bool.not_eq_false'] at hc66
      have hwh : adP l (Lib.cut s1 l.dc).1 = some ([], false) := by unfold adP; rw [if_pos (by simpa using hc66)]
      refine .skip ?_
      refine Next.go ?_
      refine Meets.mk (M := fun env H2 => ∃ (d : List UInt8) (gr : Bool), adP l (Lib.cut s1 l.dc).1 = some (d, gr) ∧ env = [(2, .ptr (some ⟨bo, 0, none⟩)), (6, .ptr (some ⟨b6, 0, none⟩)), (7, .bool false), (8, .ptr (some ⟨b8, 0, none⟩)), (13, .str (Lib.cut s1 l.dc).2.1)] ∧ H2 = ((HB.set bo (.box 32 (EntN.cs { o with exp := x, grouped := gr }))).set b6 (.box 75 [.str [], .int .i64 0])).set b8 (.box 75 [.str d, .int .i64 n])) ⟨[], false, hwh, rfl, rfl⟩ (zA rfl (zA rfl (zA rfl (zA rfl (zA rfl zL))))) (by (rw [hoe2, Heap.set_self hbo]; exact Heap.le.refl _))
    ·rintro _ _ ⟨d, gr, hwp, rfl, rfl⟩
     have hwl := ajU hwp
     have hboM := Heap.objs_set_same HB bo (.box 32 (EntN.cs { o with exp := x, grouped := gr }))
     have hb80 := (Heap.objs_set_ne HB (.box 75 [.str [], .int .i64 0]) hn6_8.symm).symm.trans hb8
     have hb6 := (Heap.objs_set_ne HB (.box 32 (EntN.cs { o with exp := x, grouped := gr })) ho6s).trans hb6
     have hb8 : ((HB.set bo (.box 32 (EntN.cs { o with exp := x, grouped := gr }))).set b6 (.box 75 [.str [], .int .i64 0])).objs b8 = none := (Heap.objs_set_ne _ _ hn6_8.symm).trans ((Heap.objs_set_ne _ _ ho8s).trans hb80)
     have hset2 : ∀ X, (HB.set bo (.box 32 (EntN.cs { o with exp := x, grouped := gr }))).set bo X = H.set bo X := fun X => by rw [Heap.set_set, hset]
     generalize hH2 : HB.set bo (.box 32 (EntN.cs { o with exp := x, grouped := gr })) = HC at hboM hb6 hb8 hset2 ⊢
     have hbo := hboM
     have hb81 := (Heap.objs_set_ne HC (.box 75 [.str [], .int .i64 0]) hn6_8.symm).symm.trans hb8
     refine .sr (.p rfl (yB Tryz.underlying75 rfl Tryz.sizeOf9 (tm rfl)) (.e rfl (yO Tryz.isAgg9 (tm rfl) (Heap.objs_set_same _ _ _) rfl) (.mv rfl rfl (.p rfl (yK (tm rfl) (tm rfl) (by rw [zX]; omega)) (.p rfl (yB Tryz.underlying75 rfl Tryz.sizeOf9 (tm rfl)) (.e0 (zH Tryz.sizeOf9 (tm rfl) (tm rfl) rfl rfl (.inl rfl) (Heap.objs_set_same _ _ _) (Nat.le_of_ble_eq_true rfl)) ?_))))))
     try first | rw [Heap.set_set] | rw [Heap.set_under (by assumption)]
     refine .nr (.p rfl (yB Tryz.underlying75 rfl Tryz.sizeOf3 (tm rfl)) (.e rfl (yO Tryz.isAgg3 (tm rfl) (Heap.objs_set_same _ _ _) rfl) (.mv rfl rfl (.p rfl (yJ Tryz.underlying9 (tm rfl)) (.p rfl (zZ (tm rfl) (tm rfl) (by omega)) (.p rfl (yB Tryz.underlying75 rfl Tryz.sizeOf3 (tm rfl)) (.e0 (zH Tryz.sizeOf3 (tm rfl) (tm rfl) rfl rfl (.inl rfl) (Heap.objs_set_same _ _ _) (Nat.le_of_ble_eq_true rfl)) ?_)))))))
     try first | rw [Heap.set_set] | rw [Heap.set_under (by assumption)]
     refine .nr (.mv rfl rfl (.mv rfl rfl (.p rfl (yJ Tryz.underlying9 (tm rfl)) (.p rfl (qT (tm rfl)) (.p rfl (yB Tryz.underlying32 rfl Tryz.sizeOf3 (tm rfl)) (.e0 (zH Tryz.sizeOf3 (tm rfl) (tm rfl) rfl rfl (.inl rfl) ((Heap.objs_set_ne _ _ ho8).trans ((Heap.objs_set_ne _ _ ho6).trans hbo)) (Nat.le_of_ble_eq_true rfl)) ?_))))))
     try first | rw [Heap.set_set] | rw [Heap.set_under (by assumption)]
     refine .ng (.seq ?_)
     rw [Heap.set_comm ho8s, Heap.set_comm ho6s]
     have hb8g : ∀ X Z, ((HC.set bo X).set b6 Z).objs b8 = none := fun X Z => (Heap.objs_set_ne _ _ hn6_8.symm).trans ((Heap.objs_set_ne _ _ ho8s).trans hb81)
     have hb6g : ∀ X, (HC.set bo X).objs b6 = none := fun X => (Heap.objs_set_ne _ _ ho6s).trans hb6
     refine .region (.e rfl (yG Tryz.isAgg75 Tryz.sizeOf75 (tm rfl) (Heap.objs_set_same _ _ _) (Nat.le_of_ble_eq_true rfl)) (.e0 (zH Tryz.sizeOf75 (tm rfl) (tm rfl) rfl rfl (.inr ⟨_, rfl⟩) ((Heap.objs_set_ne _ _ (by assumption)).trans (Heap.objs_set_same _ _ _)) (Nat.le_of_ble_eq_true rfl)) ?_))
     try first | rw [Heap.set_set] | rw [Heap.set_under (by assumption)]
     refine .p rfl (zB zK) (.ng ?_)
     refine AWP.dropb (hb8g _ _) ?_
     refine AWP.frz (t := 6) rfl (hb6g _) ?_
     refine .ret ?_
     refine Ret.go (.cons (.cellI _ _ _ _ rfl Tryz.isAgg75 Tryz.sizeOf75 rfl) (.cons (.tmp _ _ rfl) .nil)) _ (Heap.le.refl _) ?_
     have hnum : alH l s = some (d ++ (Lib.cut s1 l.dc).2.1, n - ((Lib.cut s1 l.dc).2.1.length : Nat), (Lib.cut s1 l.dc).2.1.length, gr, x) := by
      have hb : ajI l s1 = some (d ++ (Lib.cut s1 l.dc).2.1, (Lib.cut s1 l.dc).2.1.length, gr) := by unfold ajI; rw [if_neg (by rw [hbad]; decide), hwp]
      unfold alH; rw [hhp]; simp only [hb]
     refine ⟨⟨d ++ (Lib.cut s1 l.dc).2.1, n - ((Lib.cut s1 l.dc).2.1.length : Nat)⟩, { o with places := ((Lib.cut s1 l.dc).2.1.length : Int), grouped := gr, exp := x }, ?_, ?_, fun r hr => ?_, by show -2000000000 ≤ n - ((Lib.cut s1 l.dc).2.1.length : Int); omega, by show n - ((Lib.cut s1 l.dc).2.1.length : Int) ≤ 2000000000; omega⟩
     ·rw [hnum]; rfl
     ·exact hset2 _
     ·rw [hnum] at hr; injection hr with hr; subst hr; exact ⟨rfl, rfl⟩
def acP (l : Loc) (s : List UInt8) : Int × List UInt8 × Int :=
 if Lib.hasPrefix s l.cur = true then (2, qZ yC (Lib.trimPrefix s l.cur).length (Lib.trimPrefix s l.cur), 0)
 else if Lib.hasSuffix s l.cur = true then (2, aaK yC (Lib.trimSuffix s l.cur).length (Lib.trimSuffix s l.cur), 0)
 else if Lib.hasSuffix s l.pct = true then (1, aaK yC (Lib.trimSuffix s l.pct).length (Lib.trimSuffix s l.pct), -2)
 else (0, s, 0)
theorem amtP_len (l : Loc) (s : List UInt8) : (acP l s).2.1.length ≤ s.length := by
 unfold acP
 repeat' split
 ·exact Nat.le_trans (acQ _ _ _) (adH _ _)
 ·exact Nat.le_trans (adG _ _ _) (acB _ _)
 ·exact Nat.le_trans (adG _ _ _) (acB _ _)
 ·exact Nat.le_refl _

set_option maxRecDepth 100000 in
theorem asD (l : Loc) (hk : l.ok) (hg : l.grp ≠ []) (b : Nat) (s : List UInt8) (hs : s.length ≤ 1000) (o : EntN) (ho : o.exp = false ∧ o.grouped = false) (ho0 : o.kind = 0) (bo : Nat) (H : Heap) (hbo : H.objs bo = some (.box 32 (EntN.cs o))) : ACall Tryz.prog 33 [erA l b, .str s, .ptr (some ⟨bo, 0, none⟩)] H (fun y H' => ∃ (p : PartN) (o' : EntN), y = .tuple [p.av, .bool (alH l (acP l s).2.1).isSome] ∧ H' = H.set bo (.box 32 (EntN.cs o')) ∧ ∀ r, alH l (acP l s).2.1 = some r → p = ⟨r.1, r.2.1 + (acP l s).2.2⟩ ∧ o' = { o with kind := (acP l s).1, places := r.2.2.1, grouped := r.2.2.2.1, exp := r.2.2.2.2 }) := by
 have hl1 := adH s l.cur
 have hl2 := acB s l.cur
 have hl3 := acB s l.pct
 have hl4 := acQ yC (Lib.trimPrefix s l.cur).length (Lib.trimPrefix s l.cur)
 have hl5 := adG yC (Lib.trimSuffix s l.cur).length (Lib.trimSuffix s l.cur)
 have hl6 := adG yC (Lib.trimSuffix s l.pct).length (Lib.trimSuffix s l.pct)
 refine ACall.of_body Tryz.func33 rfl Tryz.ntmps33 Tryz.results33 rfl ?_
 refine .sr (.s rfl (zT Tryz.zeroValue75 (zr75)) ?_)
 rintro _ _ ⟨b6, hb6, rfl, hH⟩
 obtain rfl := hH.symm
 refine .p rfl (zB zK) (.ng (.seq (.seq ?_)))
 have ho6 : bo ≠ b6 := by intro q; rw [q, hb6] at hbo; cases hbo
 have ho6s := ho6.symm
 refine .region (.mv rfl rfl (.mv rfl rfl (.p rfl (qI (tm rfl)) (.p rfl (zG Tryz.underlying68 rfl Tryz.sizeOf25 (tm rfl)) (.p rfl (zG Tryz.underlying25 rfl Tryz.sizeOf9 (tm rfl)) (.p rfl (zF Tryz.isAgg9 (tm rfl)) (.cl rfl Tryz.call29 (evs2 rfl rfl) (cutPrefixA _ _ _) (.mv rfl rfl ?_))))))))
 refine .p rfl (zD (tm rfl) rfl) (.p rfl (zD (tm rfl) rfl) (.as rfl rfl (.as rfl rfl (.nr (.mv rfl rfl (.ng ?_))))))
 refine AWP.cond (tm rfl) (fun hc26 => ?_) (fun hc26 => ?_)
 ·try simp only [decide_eq_true_eq, decide_eq_false_iff_not, Bool.not_eq_true', Bool.not_eq_false', Int.not_lt, Int.not_le, ne_eq, Decidable.not_not] at hc26
  have hamt : acP l s = (2, (qZ yC (Lib.trimPrefix s l.cur).length (Lib.trimPrefix s l.cur)), 0) := by unfold acP; rw [if_pos hc26]
  refine .sr (.mv rfl rfl (.p rfl (qT (tm rfl)) (.p rfl (yB Tryz.underlying32 rfl Tryz.sizeOf3 (tm rfl)) (.e0 (zH Tryz.sizeOf3 (tm rfl) zE rfl rfl (.inl rfl) ((Heap.objs_set_ne _ _ ho6).trans hbo) (Nat.le_of_ble_eq_true rfl)) ?_))))
  try first | rw [Heap.set_set] | rw [Heap.set_under (by assumption)]
  refine .nr (.mv rfl rfl (.mv rfl rfl (.cl rfl Tryz.call32 (.cons (tm rfl) (.cons (.func _) .nil)) (trimLeftFuncA _ _) (.mv rfl rfl ?_))))
  refine .s rfl (zP Tryz.call66 (evs3 rfl rfl rfl) (adT l hk hg b (qZ yC (Lib.trimPrefix s l.cur).length (Lib.trimPrefix s l.cur)) (by omega) { o with kind := 2 } ho bo _ (Heap.objs_set_same _ _ _))) ?_
  rintro _ _ ⟨p, o1, rfl, rfl, hp, hpe1, hpe2⟩
  try rw [Heap.set_set]
  refine .p rfl (zD (tm rfl) rfl) (.p rfl (zD (tm rfl) rfl) (.e0 (zH Tryz.sizeOf75 (tm rfl) (tm rfl) rfl rfl (.inr ⟨_, rfl⟩) ((Heap.objs_set_ne _ _ (by assumption)).trans (Heap.objs_set_same _ _ _)) (Nat.le_of_ble_eq_true rfl)) ?_))
  try first | rw [Heap.set_set] | rw [Heap.set_under (by assumption)]
  refine .as rfl rfl (.ng ?_)
  rw [Heap.set_comm ho6s]
  refine AWP.frz (t := 6) rfl ((Heap.objs_set_ne _ _ ho6s).trans hb6) ?_
  refine .ret ?_
  refine Next.rt ?_
  refine Ret.go (.cons (.cellI _ _ _ _ rfl Tryz.isAgg75 Tryz.sizeOf75 rfl) (.cons (.tmp _ _ rfl) .nil)) _ (Heap.le.refl _) ?_
  refine ⟨p, o1, ?_, rfl, fun r hr => ?_⟩
  ·rw [hamt]; rfl
  ·rw [hamt] at hr ⊢
   obtain ⟨rfl, rfl⟩ := hp r hr
   exact ⟨by simp, rfl⟩
 ·try simp only [decide_eq_true_eq, decide_eq_false_iff_not, Bool.not_eq_true', Bool.not_eq_false', Int.not_lt, Int.not_le, ne_eq, Decidable.not_not] at hc26
  refine .skip ?_
  refine Next.go ?_
  refine .seq (.sr (.mv rfl rfl (.mv rfl rfl (.p rfl (qI (tm rfl)) (.p rfl (zG Tryz.underlying68 rfl Tryz.sizeOf25 (tm rfl)) (.p rfl (zG Tryz.underlying25 rfl Tryz.sizeOf9 (tm rfl)) (.p rfl (zF Tryz.isAgg9 (tm rfl)) (.cl rfl Tryz.call30 (evs2 rfl rfl) (cutSuffixA _ _ _) ?_))))))))
  refine .mv rfl rfl (.p rfl (zD (tm rfl) rfl) (.p rfl (zD (tm rfl) rfl) (.as rfl rfl (.as rfl rfl (.nr (.mv rfl rfl (.ng ?_)))))))
  refine AWP.cond (tm rfl) (fun hc47 => ?_) (fun hc47 => ?_)
  ·try simp only [decide_eq_true_eq, decide_eq_false_iff_not, Bool.not_eq_true', Bool.not_eq_false', Int.not_lt, Int.not_le, ne_eq, Decidable.not_not] at hc47
   have hamt : acP l s = (2, (aaK yC (Lib.trimSuffix s l.cur).length (Lib.trimSuffix s l.cur)), 0) := by unfold acP; rw [if_neg (by simp [hc26]), if_pos hc47]
   refine .sr (.mv rfl rfl (.p rfl (qT (tm rfl)) (.p rfl (yB Tryz.underlying32 rfl Tryz.sizeOf3 (tm rfl)) (.e0 (zH Tryz.sizeOf3 (tm rfl) zE rfl rfl (.inl rfl) ((Heap.objs_set_ne _ _ ho6).trans hbo) (Nat.le_of_ble_eq_true rfl)) ?_))))
   try first | rw [Heap.set_set] | rw [Heap.set_under (by assumption)]
   refine .nr (.mv rfl rfl (.mv rfl rfl (.cl rfl Tryz.call62 (.cons (tm rfl) (.cons (.func _) .nil)) (trimRightFuncA _ _) (.mv rfl rfl ?_))))
   refine .s rfl (zP Tryz.call66 (evs3 rfl rfl rfl) (adT l hk hg b (aaK yC (Lib.trimSuffix s l.cur).length (Lib.trimSuffix s l.cur)) (by omega) { o with kind := 2 } ho bo _ (Heap.objs_set_same _ _ _))) ?_
   rintro _ _ ⟨p, o1, rfl, rfl, hp, hpe1, hpe2⟩
   try rw [Heap.set_set]
   refine .p rfl (zD (tm rfl) rfl) (.p rfl (zD (tm rfl) rfl) (.e0 (zH Tryz.sizeOf75 (tm rfl) (tm rfl) rfl rfl (.inr ⟨_, rfl⟩) ((Heap.objs_set_ne _ _ (by assumption)).trans (Heap.objs_set_same _ _ _)) (Nat.le_of_ble_eq_true rfl)) ?_))
   try first | rw [Heap.set_set] | rw [Heap.set_under (by assumption)]
   refine .as rfl rfl (.ng ?_)
   rw [Heap.set_comm ho6s]
   refine AWP.frz (t := 6) rfl ((Heap.objs_set_ne _ _ ho6s).trans hb6) ?_
   refine .ret ?_
   refine Next.rt ?_
   refine Ret.go (.cons (.cellI _ _ _ _ rfl Tryz.isAgg75 Tryz.sizeOf75 rfl) (.cons (.tmp _ _ rfl) .nil)) _ (Heap.le.refl _) ?_
   refine ⟨p, o1, ?_, rfl, fun r hr => ?_⟩
   ·rw [hamt]; rfl
   ·rw [hamt] at hr ⊢
    obtain ⟨rfl, rfl⟩ := hp r hr
    exact ⟨by simp, rfl⟩
  ·try simp only [decide_eq_true_eq, decide_eq_false_iff_not, Bool.not_eq_true', Bool.not_eq_false', Int.not_lt, Int.not_le, ne_eq, Decidable.not_not] at hc47
   refine .skip ?_
   refine Next.go ?_
   refine .seq (.sr (.mv rfl rfl (.mv rfl rfl (.p rfl (qI (tm rfl)) (.p rfl (zG Tryz.underlying68 rfl Tryz.sizeOf25 (tm rfl)) (.p rfl (zG Tryz.underlying25 rfl Tryz.sizeOf9 (tm rfl)) (.p rfl (zF Tryz.isAgg9 (tm rfl)) (.cl rfl Tryz.call30 (evs2 rfl rfl) (cutSuffixA _ _ _) ?_))))))))
   refine .mv rfl rfl (.p rfl (zD (tm rfl) rfl) (.p rfl (zD (tm rfl) rfl) (.as rfl rfl (.as rfl rfl (.nr (.mv rfl rfl (.ng ?_)))))))
   refine AWP.cond (tm rfl) (fun hc68 => ?_) (fun hc68 => ?_)
   ·try simp only [decide_eq_true_eq, decide_eq_false_iff_not, Bool.not_eq_true', Bool.not_eq_false', Int.not_lt, Int.not_le, ne_eq, Decidable.not_not] at hc68
    have hamt : acP l s = (1, (aaK yC (Lib.trimSuffix s l.pct).length (Lib.trimSuffix s l.pct)), -2) := by unfold acP; rw [if_neg (by simp [hc26]), if_neg (by simp [hc47]), if_pos hc68]
    refine .sr (.mv rfl rfl (.p rfl (qT (tm rfl)) (.p rfl (yB Tryz.underlying32 rfl Tryz.sizeOf3 (tm rfl)) (.e0 (zH Tryz.sizeOf3 (tm rfl) zE rfl rfl (.inl rfl) ((Heap.objs_set_ne _ _ ho6).trans hbo) (Nat.le_of_ble_eq_true rfl)) ?_))))
    try first | rw [Heap.set_set] | rw [Heap.set_under (by assumption)]
    refine .nr (.mv rfl rfl (.mv rfl rfl (.cl rfl Tryz.call62 (.cons (tm rfl) (.cons (.func _) .nil)) (trimRightFuncA _ _) (.mv rfl rfl ?_))))
    refine .s rfl (zP Tryz.call66 (evs3 rfl rfl rfl) (adT l hk hg b (aaK yC (Lib.trimSuffix s l.pct).length (Lib.trimSuffix s l.pct)) (by omega) { o with kind := 1 } ho bo _ (Heap.objs_set_same _ _ _))) ?_
    rintro _ _ ⟨p, o1, rfl, rfl, hp, hpe1, hpe2⟩
    try rw [Heap.set_set]
    refine .mv rfl rfl (.p rfl (zD (tm rfl) rfl) (.p rfl (zD (tm rfl) rfl) (.s rfl (zT Tryz.zeroValue75 (zr75)) ?_)))
    rintro _ _ ⟨b14, hb14, rfl, hH⟩
    obtain rfl := hH.symm
    have hn6_14 := Heap.ne_of (Heap.objs_set_same _ _ _) hb14
    refine .e0 (zH Tryz.sizeOf75 (tm rfl) (tm rfl) rfl rfl (.inr ⟨_, rfl⟩) (Heap.objs_set_same _ _ _) (Nat.le_of_ble_eq_true rfl)) ?_
    try first | rw [Heap.set_set] | rw [Heap.set_under (by assumption)]
    refine .as rfl rfl (.ng (.seq ?_))
    have h6e : b6 ≠ b14 := Heap.ne_of ((Heap.objs_set_ne _ _ ho6s).trans (Heap.objs_set_same _ _ _)) hb14
    have hoe14 : bo ≠ b14 := Heap.ne_of (Heap.objs_set_same _ _ _) hb14
    have h140 : H.objs b14 = none := by have q := hb14; rw [Heap.objs_set_ne _ _ hoe14.symm, Heap.objs_set_ne _ _ h6e.symm] at q; exact q
    refine .region (.p rfl (yB Tryz.underlying75 rfl Tryz.sizeOf3 (tm rfl)) (.e rfl (yO Tryz.isAgg3 (tm rfl) (Heap.objs_set_same _ _ _) rfl) (.p rfl (zZ (tm rfl) zE (by omega)) (.p rfl (yB Tryz.underlying75 rfl Tryz.sizeOf3 (tm rfl)) (.e0 (zH Tryz.sizeOf3 (tm rfl) (tm rfl) rfl rfl (.inl rfl) (Heap.objs_set_same _ _ _) (Nat.le_of_ble_eq_true rfl)) ?_)))))
    try first | rw [Heap.set_set] | rw [Heap.set_under (by assumption)]
    refine .nr (.e rfl (yG Tryz.isAgg75 Tryz.sizeOf75 (tm rfl) (Heap.objs_set_same _ _ _) (Nat.le_of_ble_eq_true rfl)) (.mv rfl rfl ?_))
    refine .e0 (zH Tryz.sizeOf75 (tm rfl) (tm rfl) rfl rfl (.inr ⟨_, rfl⟩) ((Heap.objs_set_ne _ _ (by assumption)).trans ((Heap.objs_set_ne _ _ (by assumption)).trans (Heap.objs_set_same _ _ _))) (Nat.le_of_ble_eq_true rfl)) ?_
    try first | rw [Heap.set_set] | rw [Heap.set_under (by assumption)]
    refine .as rfl rfl (.ng ?_)
    rw [Heap.set_comm h6e.symm, Heap.set_under ho6s]
    refine AWP.dropb ((Heap.objs_set_ne _ _ hoe14.symm).trans ((Heap.objs_set_ne _ _ h6e.symm).trans h140)) ?_
    rw [Heap.set_comm ho6s]
    refine AWP.frz (t := 6) rfl ((Heap.objs_set_ne _ _ ho6s).trans hb6) ?_
    refine .ret ?_
    refine Next.rt ?_
    refine Ret.go (.cons (.cellI _ _ _ _ rfl Tryz.isAgg75 Tryz.sizeOf75 rfl) (.cons (.tmp _ _ rfl) .nil)) _ (Heap.le.refl _) ?_
    refine ⟨⟨p.digits, p.exp - 2⟩, o1, ?_, rfl, fun r hr => ?_⟩
    ·rw [hamt]; rfl
    ·rw [hamt] at hr ⊢
     obtain ⟨rfl, rfl⟩ := hp r hr
     exact ⟨rfl, rfl⟩
   ·try simp only [decide_eq_true_eq, decide_eq_false_iff_not, Bool.not_eq_true', Bool.not_eq_false', Int.not_lt, Int.not_le, ne_eq, Decidable.not_not] at hc68
    have hamt : acP l s = (0, s, 0) := by unfold acP; rw [if_neg (by simp [hc26]), if_neg (by simp [hc47]), if_neg (by simp [hc68])]
    refine .skip ?_
    refine Next.go ?_
    refine .sr (.mv rfl rfl (.mv rfl rfl (.mv rfl rfl ?_)))
    refine .s rfl (zP Tryz.call66 (evs3 rfl rfl rfl) (adT l hk hg b s (by omega) { o with kind := o.kind } ho bo _ ((Heap.objs_set_ne _ _ ho6).trans hbo))) ?_
    rintro _ _ ⟨p, o1, rfl, rfl, hp, hpe1, hpe2⟩
    try rw [Heap.set_set]
    refine .p rfl (zD (tm rfl) rfl) (.p rfl (zD (tm rfl) rfl) (.e0 (zH Tryz.sizeOf75 (tm rfl) (tm rfl) rfl rfl (.inr ⟨_, rfl⟩) ((Heap.objs_set_ne _ _ (by assumption)).trans (Heap.objs_set_same _ _ _)) (Nat.le_of_ble_eq_true rfl)) ?_))
    try first | rw [Heap.set_set] | rw [Heap.set_under (by assumption)]
    refine .as rfl rfl (.ng ?_)
    rw [Heap.set_comm ho6s]
    refine AWP.frz (t := 6) rfl ((Heap.objs_set_ne _ _ ho6s).trans hb6) ?_
    refine .ret ?_
    refine Ret.go (.cons (.cellI _ _ _ _ rfl Tryz.isAgg75 Tryz.sizeOf75 rfl) (.cons (.tmp _ _ rfl) .nil)) _ (Heap.le.refl _) ?_
    refine ⟨p, o1, ?_, rfl, fun r hr => ?_⟩
    ·rw [hamt]; rfl
    ·rw [hamt] at hr ⊢
     obtain ⟨rfl, rfl⟩ := hp r hr
     exact ⟨by simp, by rw [ho0]⟩
end Go.Proofs.YtfkeflcdadlmdaaGreatDoor
