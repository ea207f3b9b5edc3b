import Derived.Test.YtmmgbnolccpjoaaGreatDoorU1
namespace Go.Proofs.YtmmgbnolccpjoaaGreatDoor
open Go Go.RowKit
variable {l : Loc} {d : List UInt8}
section
set_option maxRecDepth 100000

theorem zr76 : ZR 76 [.int .u64 0, .int .i64 0, .int .i64 0, .bool false, .bool false] := ZRi Tryz.zeroValue76
theorem pl76 : PL 76 [(0, 1), (1, 1), (2, 1), (3, 1), (4, 1)] := PLi U76
theorem zr130 : ZR 130 [.str [], .int .i64 0] := ZRi Tryz.zeroValue130
structure EntN where
 bits : Nat
 kind : Int
 places : Int
 grouped : Bool
 exp : Bool
def EntN.cs (o : EntN) : List AV := [.int .u64 (o.bits : Int), .int .i64 o.kind, .int .i64 o.places, .bool o.grouped, .bool o.exp]
structure PartN where
 digits : List UInt8
 exp : Int
def PartN.av (p : PartN) : AV := .agg [.str p.digits, .int .i64 p.exp]
def eAt (s : List UInt8) : Int := Lib.indexByte (Lib.replaceAll s [69] [101]) 101
def ajX (l : Loc) (s : List UInt8) : Option (List UInt8 × Int × Bool) :=
 if 0 ≤ eAt s then (match bcZ l (s.drop ((eAt s).toNat + 1)) with | some n => some (s.take (eAt s).toNat, n, true) | none => none) else some (s, 0, false)
def aeI (l : Loc) (w : List UInt8) : Option (List UInt8 × Bool) :=
 if w = [] then some ([], false) else match ahA l w with | none => none | some d => some (d, !decide (d = w))
def badB (a b : List UInt8) : Bool := (decide (a = []) && decide (b = [])) || decide (abA adY b.length b ≠ [])
def alW (l : Loc) (s : List UInt8) : Option (List UInt8 × Nat × Bool) :=
 if badB (Lib.cut s l.dc).1 (Lib.cut s l.dc).2.1 = true then none
 else match aeI l (Lib.cut s l.dc).1 with | none => none | some (d, g) => some (d ++ (Lib.cut s l.dc).2.1, (Lib.cut s l.dc).2.1.length, g)
def aoI (l : Loc) (s : List UInt8) : Option (List UInt8 × Int × Nat × Bool × Bool) :=
 match ajX l s with
 | none => none
 | some (t, n, x) => match alW l t with | none => none | some (d, k, g) => some (d, n - k, k, g, x)
theorem bgS {s : List UInt8} {n : Int} (h : bcZ l s = some n) : -1000000000 < n ∧ n < 1000000000 := by
 unfold bcZ at h
 split at h
 ·rename_i hc
  have h9 := num_9 (adL.1 hc.2.1) hc.2.2
  injection h with h
  subst h
  split <;> omega
 cases h
theorem azJ {s : List UInt8} (h : ahA l s = some d) : Digs d ∧ d.length ≤ s.length ∧ d ≠ [] := by
 unfold ahA at h
 split at h
 ·cases h
 rename_i hc
 split at h
 ·cases h
 injection h with h
 subst h
 refine ⟨?_, bbY _ _, fun q => hc (.inl q)⟩
 rcases Bool.eq_false_or_eq_true (asA (Lib.replaceAll s l.grp [])) with q | q
 ·exact adL.1 q
 exact absurd (.inr q) hc
theorem amR {w : List UInt8} {gr : Bool} (h : aeI l w = some (d, gr)) : Digs d ∧ d.length ≤ w.length := by
 unfold aeI at h
 split at h
 ·injection h with h
  injection h with h1 h2
  subst h1
  exact ⟨fun b hb => by simp at hb, Nat.zero_le _⟩
 cases hp : ahA l w with
 | none => rw [hp] at h; cases h
 | some q =>
  rw [hp] at h
  injection h with h
  injection h with h1 h2
  subst h1
  have := azJ hp
  exact ⟨this.1, this.2.1⟩
theorem bhK {a b : List UInt8} (h : badB a b = false) : Digs b := by
 unfold badB at h
 simp only [cP, aL, cG] at h
 exact (aeJ _ _ (aX _)).1 h.2
theorem bhI {s : List UInt8} {k : Nat} {gr : Bool} (h : alW l s = some (d, k, gr)) : Digs d ∧ d.length ≤ 2 * s.length ∧ k ≤ s.length := by
 have hl := baK s l.dc
 unfold alW at h
 split at h
 ·cases h
 rename_i hb
 cases hw : aeI l (Lib.cut s l.dc).1 with
 | none => rw [hw] at h; cases h
 | some q =>
  obtain ⟨q, g2⟩ := q
  rw [hw] at h
  injection h with h
  injection h with h1 h2
  injection h2 with h2 h3
  subst h1; subst h2
  have := amR hw
  refine ⟨Digs.app this.1 (bhK (by simpa using hb)), ?_, hl.2⟩
  rw [aS]; omega
theorem arN {s t : List UInt8} {n : Int} {x : Bool} (h : ajX l s = some (t, n, x)) : t.length ≤ s.length ∧ -1000000000 < n ∧ n < 1000000000 := by
 unfold ajX at h
 split at h
 ·cases he : bcZ l (s.drop ((eAt s).toNat + 1)) with
  | none => rw [he] at h; cases h
  | some m =>
   rw [he] at h
   injection h with h
   injection h with h1 h2
   injection h2 with h2 h3
   subst h1; subst h2
   have := bgS he
   exact ⟨by rw [aQ]; omega, this⟩
 injection h with h
 injection h with h1 h2
 injection h2 with h2 h3
 subst h1; subst h2
 exact ⟨aX _, by decide, by decide⟩
theorem eAtA (s : List UInt8) (H : Heap) : ACall Tryz.prog 209 [.str (Lib.replaceAll s [69] [101]), .int .u8 101] H (fun y H' => y = .int .i64 (eAt s) ∧ H' = H) := indexByteA _ 101 H
theorem ajJ {old new : List UInt8} (h : new.length = old.length) : ∀ (k : Nat) (s : List UInt8), (Lib.replaceK old new k s).length = s.length
 | 0, s => rfl
 | k + 1, s => by
  rw [Lib.replaceK]
  split
  ·rfl
  rename_i hc
  have hg := Lib.index_ge s old
  have hne : Lib.index s old ≠ -1 := fun q => hc (by simp [q])
  have hr := Lib.index_room s old (by omega)
  simp only [aS, aQ, ajJ h k, bS]
  omega
theorem avI {s old new : List UInt8} (h : new.length = old.length) : (Lib.replaceAll s old new).length = s.length := by
 unfold Lib.replaceAll Lib.replace
 split
 ·rfl
 exact ajJ h _ _
theorem eAt_lt (s : List UInt8) : eAt s < s.length := by
 have h := avI (s := s) (old := [69]) (new := [101]) rfl
 unfold eAt
 rcases Int.lt_or_le (Lib.indexByte (Lib.replaceAll s [69] [101]) 101) 0 with h0 | h0
 ·omega
 obtain ⟨o, ho⟩ : ∃ o : Nat, Lib.indexByte (Lib.replaceAll s [69] [101]) 101 = o := ⟨(Lib.indexByte (Lib.replaceAll s [69] [101]) 101).toNat, by omega⟩
 have h1 := (Lib.indexByte_some ho).1
 have h2 := (cE.1 h1).1
 omega

theorem afG (l : Loc) (hk : l.ok) (hg : l.grp ≠ []) (b : Nat) (s : List UInt8) (hs : s.length ≤ 1000) (o : EntN) (ho : o.exp = false ∧ o.grouped = false) (bo : Nat) (H : Heap) (hbo : H.objs bo = some (.box 76 (EntN.cs o))) : ACall Tryz.prog 161 [erA l b, .str s, .ptr (some ⟨bo, 0, none⟩)] H (fun y H' => ∃ (p : PartN) (o' : EntN), y = .tuple [p.av, .bool (aoI l s).isSome] ∧ H' = H.set bo (.box 76 (EntN.cs o')) ∧ (∀ r, aoI l s = some r → p = ⟨r.1, r.2.1⟩ ∧ o' = { o with places := r.2.2.1, grouped := r.2.2.2.1, exp := r.2.2.2.2 }) ∧ -2000000000 ≤ p.exp ∧ p.exp ≤ 2000000000) := by
 have hel := eAt_lt s
 have hoe : ({ o with exp := false } : EntN) = o := by cases o; simp at ho; simp [ho]
 refine ACall.of_body Tryz.func161 rfl Tryz.ntmps161 Tryz.results161 rfl ?_
 refine .sr ?_
 refine .al zr130 (fun b6 hb6 => ?_)
 refine .p rfl (zA zM) (.nr ?_)
 refine .al zr130 (fun b8 hb8 => ?_)
 have hn6_8 := Heap.ne_of (oS _ _ _) hb8
 refine .ng ?_
 refine AWP.meet (fun env H2 => ∃ (s1 : List UInt8) (n : Int) (x : Bool), ajX l s = some (s1, n, x) ∧ env = [(0, erA l b), (1, .str s1), (2, .ptr (some ⟨bo, 0, none⟩)), (6, .ptr (some ⟨b6, 0, none⟩)), (7, .bool false), (8, .ptr (some ⟨b8, 0, none⟩))] ∧ H2 = ((H.set bo (.box 76 (EntN.cs { o with exp := x }))).set b6 (.box 130 [.str [], .int .i64 0])).set b8 (.box 130 [.str [], .int .i64 n])) ?_ ?_
 ·refine .seq ?_
  have ho6 : bo ≠ b6 := by intro q; rw [q, hb6] at hbo; cases hbo
  have hbo6 := (oN H (.box 130 [.str [], .int .i64 0]) ho6).trans hbo
  have ho8 : bo ≠ b8 := by intro q; rw [q, hb8] at hbo6; cases hbo6
  have ho6s := ho6.symm
  have ho8s := ho8.symm
  refine .region (.mv rfl rfl (.cl rfl Tryz.call210 (.cons (tm rfl) (.cons (zS rfl) (.cons (zS rfl) .nil))) (replaceA s [69] [101] (by omega) (by decide) (by decide) _) (.cl rfl Tryz.call209 (.cons (tm rfl) (.cons zE .nil)) (eAtA s _) (.as rfl rfl (.nr (.mv rfl rfl (.p rfl (yS (tm rfl) zE) (.ng ?_))))))))
  refine AWP.cond (tm rfl) (fun hc21 => ?_) (fun hc21 => ?_)
  ·try simp only [aM] at hc21
   have hdn : (eAt s + 1).toNat = (eAt s).toNat + 1 := by omega
   refine .sr (.mv rfl rfl (.mv rfl rfl (.mv rfl rfl (.p rfl (yT (tm rfl) zE (by omega)) (.p rfl (abM U9 (tm rfl) (tm rfl) (by omega) (by omega)) (.cl rfl Tryz.call211 (evs2 rfl rfl) (aqA l b _ (by simp only [bS]; omega) _) (.mv rfl rfl (.p rfl (zB (tm rfl) rfl) ?_))))))))
   refine .p rfl (zB (tm rfl) rfl) (.as rfl rfl (.as rfl rfl (.ng (.seq (.sr (.mv rfl rfl (.p rfl (aaB (tm rfl)) (.ng ?_))))))))
   refine AWP.cond (tm rfl) (fun hc32 => ?_) (fun hc32 => ?_)
   ·try simp only [cK] at hc32
    have hq2 : bcZ l (s.drop ((eAt s).toNat + 1)) = none := by rw [← hdn]; simpa using hc32
    have hnn : aoI l s = none := by unfold aoI ajX; rw [aO (by omega), hq2]
    refine .sr (.e rfl (yW G130 Z130 (tm rfl) (oS _ _ _) (lB rfl)) (.e0 (zG Z130 (tm rfl) (tm rfl) rfl rfl (.inr ⟨_, rfl⟩) ((oN _ _ (by assumption)).trans (oS _ _ _)) (lB rfl)) ?_))
    try first | rw [sS] | rw [sU (by assumption)]
    refine .p rfl (zA zM) (.ng ?_)
    refine AWP.dropb (fS hb8 _) ?_
    refine AWP.frz (t := 6) rfl hb6 ?_
    refine .ret ?_
    refine Next.rt ?_
    refine Next.rt ?_
    refine Ret.go (.cons (.cellI _ _ _ _ rfl G130 Z130 rfl) (.cons (.tmp _ _ rfl) .nil)) _ (hRa _) ?_
    refine ⟨⟨[], 0⟩, o, ?_, (Heap.set_self hbo).symm, fun r hr => ?_, by decide, by decide⟩
    ·rw [hnn]; rfl
    rw [hnn] at hr; cases hr
   try simp only [cJ] at hc32
   obtain ⟨n0, hq2⟩ : ∃ n0, bcZ l (s.drop ((eAt s).toNat + 1)) = some n0 := by rw [← hdn]; exact Option.isSome_iff_exists.1 (by simpa using hc32)
   have hhead : ajX l s = some (s.take (eAt s).toNat, n0, true) := by unfold ajX; rw [aO (by omega), hq2]
   rw [hdn, hq2]
   refine .skip ?_
   refine Next.go ?_
   refine .region (.mv rfl rfl (.mv rfl rfl (.mv rfl rfl (.p rfl (abN U9 (tm rfl) (tm rfl) (by omega) (by omega)) (.mv rfl rfl (.as rfl rfl (.p rfl (zV U130 rfl Z3 (tm rfl)) (.e0 (zG Z3 (tm rfl) (tm rfl) rfl rfl (.inl rfl) (oS _ _ _) (lB rfl)) ?_))))))))
   try first | rw [sS] | rw [sU (by assumption)]
   refine .p rfl (qT (tm rfl)) (.p rfl (zV U76 rfl Z4 (tm rfl)) (.e0 (zG Z4 (tm rfl) zM rfl rfl (.inl rfl) ((oN _ _ ho8).trans ((oN _ _ ho6).trans hbo)) (lB rfl)) ?_))
   try first | rw [sS] | rw [sU (by assumption)]
   refine .ng ?_
   refine Meets.mk (M := fun env H2 => ∃ (s1 : List UInt8) (n : Int) (x : Bool), ajX l s = some (s1, n, x) ∧ env = [(0, erA l b), (1, .str s1), (2, .ptr (some ⟨bo, 0, none⟩)), (6, .ptr (some ⟨b6, 0, none⟩)), (7, .bool false), (8, .ptr (some ⟨b8, 0, none⟩))] ∧ H2 = ((H.set bo (.box 76 (EntN.cs { o with exp := x }))).set b6 (.box 130 [.str [], .int .i64 0])).set b8 (.box 130 [.str [], .int .i64 n])) ⟨_, _, true, hhead, rfl, rfl⟩ (zC rfl (zC rfl (zC rfl (zC rfl (zC rfl (zC rfl zU)))))) (by (rw [Heap.set_comm ho8s, Heap.set_comm ho6s]; exact hRa _))
  try simp only [aL, cA] at hc21
  have hhead : ajX l s = some (s, 0, false) := by unfold ajX; rw [aN (by omega)]
  refine .skip ?_
  refine Next.go ?_
  refine Meets.mk (M := fun env H2 => ∃ (s1 : List UInt8) (n : Int) (x : Bool), ajX l s = some (s1, n, x) ∧ env = [(0, erA l b), (1, .str s1), (2, .ptr (some ⟨bo, 0, none⟩)), (6, .ptr (some ⟨b6, 0, none⟩)), (7, .bool false), (8, .ptr (some ⟨b8, 0, none⟩))] ∧ H2 = ((H.set bo (.box 76 (EntN.cs { o with exp := x }))).set b6 (.box 130 [.str [], .int .i64 0])).set b8 (.box 130 [.str [], .int .i64 n])) ⟨s, 0, false, hhead, rfl, rfl⟩ (zC rfl (zC rfl (zC rfl (zC rfl (zC rfl (zC rfl zU)))))) (by (rw [hoe, Heap.set_self hbo]; exact hRa _))
 rintro _ _ ⟨s1, n, x, hhp, rfl, rfl⟩
 have ho6 : bo ≠ b6 := by intro q; rw [q, hb6] at hbo; cases hbo
 have hbo6 := (oN H (.box 130 [.str [], .int .i64 0]) ho6).trans hbo
 have ho8 : bo ≠ b8 := by intro q; rw [q, hb8] at hbo6; cases hbo6
 have ho6s := ho6.symm
 have ho8s := ho8.symm
 have hcl := baK s1 l.dc
 have hh1 := arN hhp
 have hboN := oS H bo (.box 76 (EntN.cs { o with exp := x }))
 have hb80 := (oN H (.box 130 [.str [], .int .i64 0]) hn6_8.symm).symm.trans hb8
 have hb6 := (oN H (.box 76 (EntN.cs { o with exp := x })) ho6s).trans hb6
 have hb8 : ((H.set bo (.box 76 (EntN.cs { o with exp := x }))).set b6 (.box 130 [.str [], .int .i64 0])).objs b8 = none := (oN _ _ hn6_8.symm).trans ((oN _ _ ho8s).trans hb80)
 have hset : ∀ X, (H.set bo (.box 76 (EntN.cs { o with exp := x }))).set bo X = H.set bo X := fun X => sS _ _ _ _
 generalize hH1 : H.set bo (.box 76 (EntN.cs { o with exp := x })) = HB at hboN hb6 hb8 hset ⊢
 have hbo0 := hbo
 have hbo := hboN
 have hoe2 : ({ o with exp := x, grouped := false } : EntN) = { o with exp := x } := by cases o; simp at ho; simp [ho]
 refine .sr (.mv rfl rfl (.mv rfl rfl (.p rfl (yZ (tm rfl)) (.p rfl (zD U123 rfl Z29 (tm rfl)) (.p rfl (zD U29 rfl Z9 (tm rfl)) (.p rfl (zH G9 (tm rfl)) (.cl rfl Tryz.call212 (evs2 rfl rfl) (cutA s1 l.dc (by omega) _) (.mv rfl rfl ?_))))))))
 refine .p rfl (zB (tm rfl) rfl) (.p rfl (zB (tm rfl) rfl) (.p rfl (zB (tm rfl) rfl) (.as rfl rfl (.as rfl rfl (.as rfl rfl (.ng (.seq ?_)))))))
 refine AWP.seqTo 63 (.bool ((decide ((Lib.cut s1 l.dc).1 = []) && decide ((Lib.cut s1 l.dc).2.1 = [])) || decide (abA adY (Lib.cut s1 l.dc).2.1.length (Lib.cut s1 l.dc).2.1 ≠ []))) [0, 2, 6, 7, 8, 12, 13] ?_ ?_
 ·-- region 9
  refine .region (.mv rfl rfl (.p rfl (yM (tm rfl) (zS rfl)) (.mv rfl rfl ?_)))
  refine zL (t := 55) rfl (fun hg55 => ?_) (fun hg55 => ?_)
  ·refine .gp rfl rfl rfl (by assumption) (zJ (tm rfl)) (.gp rfl rfl rfl (by assumption) (yM (tm rfl) (zS rfl)) (.p rfl (zO (tm rfl) (by assumption) (tm rfl)) (.mv rfl rfl ?_)))
   refine zL (t := 59) rfl (fun hg59 => ?_) (fun hg59 => ?_)
   ·refine .gn rfl rfl rfl (by assumption) (.gn rfl rfl rfl (by assumption) (.gn rfl rfl rfl (by assumption) (.p rfl (zO (tm rfl) (by assumption) zM) (.nil ?_))))
    exact ⟨rfl, zY rfl (by (rw [show decide ((Lib.cut s1 l.dc).1 = []) = _ from hg55, show decide ((Lib.cut s1 l.dc).2.1 = []) = _ from hg59]; rfl)) (zC rfl (zC rfl (zC rfl (zC rfl (zC rfl (zC rfl (zC rfl zU))))))), rfl⟩
   refine .gp rfl rfl rfl (by assumption) (zJ (tm rfl)) (.gs rfl rfl rfl (by assumption) (zF C96 (.cons (tm rfl) (.cons (.func _) .nil)) (trimDigitsA _ _)) ?_)
   rintro _ _ ⟨rfl, hH⟩
   obtain rfl := hH.symm
   refine .gp rfl rfl rfl (by assumption) (qO (tm rfl) (zS rfl)) (.p rfl (zN (tm rfl) (by assumption) (tm rfl)) (.nil ?_))
   exact ⟨rfl, zY rfl (by (simp [*]; done)) (zC rfl (zC rfl (zC rfl (zC rfl (zC rfl (zC rfl (zC rfl zU))))))), rfl⟩
  refine .gn rfl rfl rfl (by assumption) (.gn rfl rfl rfl (by assumption) (.p rfl (zN (tm rfl) (by assumption) zM) (.mv rfl rfl (.gp rfl rfl rfl (by rfl) (zJ (tm rfl)) (.gs rfl rfl rfl (by rfl) (zF C96 (.cons (tm rfl) (.cons (.func _) .nil)) (trimDigitsA _ _)) ?_)))))
  rintro _ _ ⟨rfl, hH⟩
  obtain rfl := hH.symm
  refine .gp rfl rfl rfl (by rfl) (qO (tm rfl) (zS rfl)) (.p rfl (zN (tm rfl) (by rfl) (tm rfl)) (.nil ?_))
  exact ⟨rfl, zY rfl (by (simp [*]; done)) (zC rfl (zC rfl (zC rfl (zC rfl (zC rfl (zC rfl (zC rfl zU))))))), rfl⟩
 refine AWP.sub [(63, _), (0, _), (2, _), (6, _), (7, _), (8, _), (12, _), (13, _)] (zC rfl (zC rfl (zC rfl (zC rfl (zC rfl (zC rfl (zC rfl (zC rfl zU)))))))) ?_
 refine AWP.cond (tm rfl) (fun hc63 => ?_) (fun hc63 => ?_)
 ·try simp only [ne_eq] at hc63
  have hbad : badB (Lib.cut s1 l.dc).1 (Lib.cut s1 l.dc).2.1 = true := hc63
  have hnn : aoI l s = none := by
   have hb : alW l s1 = none := by unfold alW; rw [aO hbad]
   unfold aoI; rw [hhp]; simp only [hb]
  refine .sr (.e rfl (yW G130 Z130 (tm rfl) (oS _ _ _) (lB rfl)) (.e0 (zG Z130 (tm rfl) (tm rfl) rfl rfl (.inr ⟨_, rfl⟩) ((oN _ _ (by assumption)).trans (oS _ _ _)) (lB rfl)) ?_))
  try first | rw [sS] | rw [sU (by assumption)]
  refine .p rfl (zA zM) (.ng ?_)
  refine AWP.dropb (fS hb8 _) ?_
  refine AWP.frz (t := 6) rfl hb6 ?_
  refine .ret ?_
  refine Next.rt ?_
  refine Ret.go (.cons (.cellI _ _ _ _ rfl G130 Z130 rfl) (.cons (.tmp _ _ rfl) .nil)) _ (hRa _) ?_
  refine ⟨⟨[], n⟩, { o with exp := x }, ?_, hH1.symm, fun r hr => ?_, by show -2000000000 ≤ n; omega, by show n ≤ 2000000000; omega⟩
  ·rw [hnn]; rfl
  rw [hnn] at hr; cases hr
 try simp only [ne_eq] at hc63
 have hbad : badB (Lib.cut s1 l.dc).1 (Lib.cut s1 l.dc).2.1 = false := hc63
 refine .skip ?_
 refine Next.go ?_
 refine AWP.meet (fun env H2 => ∃ (d : List UInt8) (gr : Bool), aeI l (Lib.cut s1 l.dc).1 = some (d, gr) ∧ env = [(2, .ptr (some ⟨bo, 0, none⟩)), (6, .ptr (some ⟨b6, 0, none⟩)), (7, .bool false), (8, .ptr (some ⟨b8, 0, none⟩)), (13, .str (Lib.cut s1 l.dc).2.1)] ∧ H2 = ((HB.set bo (.box 76 (EntN.cs { o with exp := x, grouped := gr }))).set b6 (.box 130 [.str [], .int .i64 0])).set b8 (.box 130 [.str d, .int .i64 n])) ?_ ?_
 ·refine .sr (.mv rfl rfl (.p rfl (qO (tm rfl) (zS rfl)) (.ng ?_)))
  refine AWP.cond (tm rfl) (fun hc66 => ?_) (fun hc66 => ?_)
  ·try simp only [aL, cK] at hc66
   have hwne : (Lib.cut s1 l.dc).1 ≠ [] := by simpa using hc66
   refine .sr (.mv rfl rfl (.p rfl (yZ (tm rfl)) (.p rfl (zD U123 rfl Z29 (tm rfl)) (.p rfl (zQ G29 Z29 (tm rfl) (lB rfl)) (.mv rfl rfl (.cl rfl Tryz.call214 (evs2 rfl rfl) (baZ l hk hg _ (by omega) _) (.mv rfl rfl (.p rfl (zB (tm rfl) rfl) ?_))))))))
   refine .p rfl (zB (tm rfl) rfl) (.as rfl rfl (.as rfl rfl (.ng (.seq (.sr (.mv rfl rfl (.p rfl (aaB (tm rfl)) (.ng ?_))))))))
   refine AWP.cond (tm rfl) (fun hc77 => ?_) (fun hc77 => ?_)
   ·try simp only [cK] at hc77
    have hq3 : ahA l (Lib.cut s1 l.dc).1 = none := by simpa using hc77
    have hnn : aoI l s = none := by
     have hw : aeI l (Lib.cut s1 l.dc).1 = none := by unfold aeI; rw [aN hwne, hq3]
     have hb : alW l s1 = none := by unfold alW; rw [aN (by rw [hbad]; decide), hw]
     unfold aoI; rw [hhp]; simp only [hb]
    refine .sr (.e rfl (yW G130 Z130 (tm rfl) (oS _ _ _) (lB rfl)) (.e0 (zG Z130 (tm rfl) (tm rfl) rfl rfl (.inr ⟨_, rfl⟩) ((oN _ _ (by assumption)).trans (oS _ _ _)) (lB rfl)) ?_))
    try first | rw [sS] | rw [sU (by assumption)]
    refine .p rfl (zA zM) (.ng ?_)
    refine AWP.dropb (fS hb8 _) ?_
    refine AWP.frz (t := 6) rfl hb6 ?_
    refine .ret ?_
    refine Next.rt ?_
    refine Next.rt ?_
    refine Ret.go (.cons (.cellI _ _ _ _ rfl G130 Z130 rfl) (.cons (.tmp _ _ rfl) .nil)) _ (hRa _) ?_
    refine ⟨⟨[], n⟩, { o with exp := x }, ?_, hH1.symm, fun r hr => ?_, by show -2000000000 ≤ n; omega, by show n ≤ 2000000000; omega⟩
    ·rw [hnn]; rfl
    rw [hnn] at hr; cases hr
   try simp only [cJ] at hc77
   obtain ⟨d0, hq3⟩ : ∃ d0, ahA l (Lib.cut s1 l.dc).1 = some d0 := Option.isSome_iff_exists.1 (by simpa using hc77)
   have hwh : aeI l (Lib.cut s1 l.dc).1 = some (d0, !decide (d0 = (Lib.cut s1 l.dc).1)) := by unfold aeI; rw [aN hwne, hq3]
   rw [hq3]
   refine .skip ?_
   refine Next.go ?_
   refine .sr (.mv rfl rfl (.mv rfl rfl (.mv rfl rfl (.p rfl (qO (tm rfl) (tm rfl)) (.p rfl (qT (tm rfl)) (.p rfl (zV U76 rfl Z4 (tm rfl)) (.e0 (zG Z4 (tm rfl) (tm rfl) rfl rfl (.inl rfl) ((oN _ _ ho8).trans ((oN _ _ ho6).trans hbo)) (lB rfl)) ?_)))))))
   try first | rw [sS] | rw [sU (by assumption)]
   refine .ng (.region (.mv rfl rfl (.p rfl (zV U130 rfl Z9 (tm rfl)) (.e0 (zG Z9 (tm rfl) (tm rfl) rfl rfl (.inl rfl) ((oN _ _ (by assumption)).trans (oS _ _ _)) (lB rfl)) ?_))))
   try first | rw [sS] | rw [sU (by assumption)]
   refine .ng ?_
   refine Meets.mk (M := fun env H2 => ∃ (d : List UInt8) (gr : Bool), aeI l (Lib.cut s1 l.dc).1 = some (d, gr) ∧ env = [(2, .ptr (some ⟨bo, 0, none⟩)), (6, .ptr (some ⟨b6, 0, none⟩)), (7, .bool false), (8, .ptr (some ⟨b8, 0, none⟩)), (13, .str (Lib.cut s1 l.dc).2.1)] ∧ H2 = ((HB.set bo (.box 76 (EntN.cs { o with exp := x, grouped := gr }))).set b6 (.box 130 [.str [], .int .i64 0])).set b8 (.box 130 [.str d, .int .i64 n])) ⟨_, _, hwh, rfl, rfl⟩ (zC rfl (zC rfl (zC rfl (zC rfl (zC rfl zU))))) (by (rw [Heap.set_comm ho8s, Heap.set_comm ho6s]; exact hRa _))
  try simp only [aM, cJ] at hc66
  have hwh : aeI l (Lib.cut s1 l.dc).1 = some ([], false) := by unfold aeI; rw [aO (by simpa using hc66)]
  refine .skip ?_
  refine Next.go ?_
  refine Meets.mk (M := fun env H2 => ∃ (d : List UInt8) (gr : Bool), aeI l (Lib.cut s1 l.dc).1 = some (d, gr) ∧ env = [(2, .ptr (some ⟨bo, 0, none⟩)), (6, .ptr (some ⟨b6, 0, none⟩)), (7, .bool false), (8, .ptr (some ⟨b8, 0, none⟩)), (13, .str (Lib.cut s1 l.dc).2.1)] ∧ H2 = ((HB.set bo (.box 76 (EntN.cs { o with exp := x, grouped := gr }))).set b6 (.box 130 [.str [], .int .i64 0])).set b8 (.box 130 [.str d, .int .i64 n])) ⟨[], false, hwh, rfl, rfl⟩ (zC rfl (zC rfl (zC rfl (zC rfl (zC rfl zU))))) (by (rw [hoe2, Heap.set_self hbo]; exact hRa _))
 rintro _ _ ⟨d, gr, hwp, rfl, rfl⟩
 have hwl := amR hwp
 have hboM := oS HB bo (.box 76 (EntN.cs { o with exp := x, grouped := gr }))
 have hb80 := (oN HB (.box 130 [.str [], .int .i64 0]) hn6_8.symm).symm.trans hb8
 have hb6 := (oN HB (.box 76 (EntN.cs { o with exp := x, grouped := gr })) ho6s).trans hb6
 have hb8 : ((HB.set bo (.box 76 (EntN.cs { o with exp := x, grouped := gr }))).set b6 (.box 130 [.str [], .int .i64 0])).objs b8 = none := (oN _ _ hn6_8.symm).trans ((oN _ _ ho8s).trans hb80)
 have hset2 : ∀ X, (HB.set bo (.box 76 (EntN.cs { o with exp := x, grouped := gr }))).set bo X = H.set bo X := fun X => by rw [sS, hset]
 generalize hH2 : HB.set bo (.box 76 (EntN.cs { o with exp := x, grouped := gr })) = HC at hboM hb6 hb8 hset2 ⊢
 have hbo := hboM
 have hb81 := (oN HC (.box 130 [.str [], .int .i64 0]) hn6_8.symm).symm.trans hb8
 refine .sr (.p rfl (zV U130 rfl Z9 (tm rfl)) (.e rfl (yE G9 (tm rfl) (oS _ _ _) rfl) (.mv rfl rfl (.p rfl (yX (tm rfl) (tm rfl) (by rw [zW]; omega)) (.p rfl (zV U130 rfl Z9 (tm rfl)) (.e0 (zG Z9 (tm rfl) (tm rfl) rfl rfl (.inl rfl) (oS _ _ _) (lB rfl)) ?_))))))
 try first | rw [sS] | rw [sU (by assumption)]
 refine .nr (.p rfl (zV U130 rfl Z3 (tm rfl)) (.e rfl (yE G3 (tm rfl) (oS _ _ _) rfl) (.mv rfl rfl (.p rfl (yQ U9 (tm rfl)) (.p rfl (yG (tm rfl) (tm rfl) (by omega)) (.p rfl (zV U130 rfl Z3 (tm rfl)) (.e0 (zG Z3 (tm rfl) (tm rfl) rfl rfl (.inl rfl) (oS _ _ _) (lB rfl)) ?_)))))))
 try first | rw [sS] | rw [sU (by assumption)]
 refine .nr (.mv rfl rfl (.mv rfl rfl (.p rfl (yQ U9 (tm rfl)) (.p rfl (qT (tm rfl)) (.p rfl (zV U76 rfl Z3 (tm rfl)) (.e0 (zG Z3 (tm rfl) (tm rfl) rfl rfl (.inl rfl) ((oN _ _ ho8).trans ((oN _ _ ho6).trans hbo)) (lB rfl)) ?_))))))
 try first | rw [sS] | rw [sU (by assumption)]
 refine .ng (.seq ?_)
 rw [Heap.set_comm ho8s, Heap.set_comm ho6s]
 have hb8g : ∀ X Z, ((HC.set bo X).set b6 Z).objs b8 = none := fun X Z => (oN _ _ hn6_8.symm).trans ((oN _ _ ho8s).trans hb81)
 have hb6g : ∀ X, (HC.set bo X).objs b6 = none := fun X => (oN _ _ ho6s).trans hb6
 refine .region (.e rfl (yW G130 Z130 (tm rfl) (oS _ _ _) (lB rfl)) (.e0 (zG Z130 (tm rfl) (tm rfl) rfl rfl (.inr ⟨_, rfl⟩) ((oN _ _ (by assumption)).trans (oS _ _ _)) (lB rfl)) ?_))
 try first | rw [sS] | rw [sU (by assumption)]
 refine .p rfl (zA zM) (.ng ?_)
 refine AWP.dropb (hb8g _ _) ?_
 refine AWP.frz (t := 6) rfl (hb6g _) ?_
 refine .ret ?_
 refine Ret.go (.cons (.cellI _ _ _ _ rfl G130 Z130 rfl) (.cons (.tmp _ _ rfl) .nil)) _ (hRa _) ?_
 have hnum : aoI l s = some (d ++ (Lib.cut s1 l.dc).2.1, n - ((Lib.cut s1 l.dc).2.1.length : Nat), (Lib.cut s1 l.dc).2.1.length, gr, x) := by
  have hb : alW l s1 = some (d ++ (Lib.cut s1 l.dc).2.1, (Lib.cut s1 l.dc).2.1.length, gr) := by unfold alW; rw [aN (by rw [hbad]; decide), hwp]
  unfold aoI; rw [hhp]; simp only [hb]
 refine ⟨⟨d ++ (Lib.cut s1 l.dc).2.1, n - ((Lib.cut s1 l.dc).2.1.length : Nat)⟩, { o with places := ((Lib.cut s1 l.dc).2.1.length : Int), grouped := gr, exp := x }, ?_, ?_, fun r hr => ?_, by show -2000000000 ≤ n - ((Lib.cut s1 l.dc).2.1.length : Int); omega, by show n - ((Lib.cut s1 l.dc).2.1.length : Int) ≤ 2000000000; omega⟩
 ·rw [hnum]; rfl
 ·exact hset2 _
 rw [hnum] at hr; injection hr with hr; subst hr; exact ⟨rfl, rfl⟩

end
section
open Go Go.RowKit
set_option maxRecDepth 100000

def acY (l : Loc) (s : List UInt8) : Int × List UInt8 × Int :=
 if Lib.hasPrefix s l.cur = true then (2, abA yL (Lib.trimPrefix s l.cur).length (Lib.trimPrefix s l.cur), 0)
 else if Lib.hasSuffix s l.cur = true then (2, abQ yL (Lib.trimSuffix s l.cur).length (Lib.trimSuffix s l.cur), 0)
 else if Lib.hasSuffix s l.pct = true then (1, abQ yL (Lib.trimSuffix s l.pct).length (Lib.trimSuffix s l.pct), -2)
 else (0, s, 0)
theorem amtP_len (l : Loc) (s : List UInt8) : (acY l s).2.1.length ≤ s.length := by
 unfold acY
 repeat' split
 ·exact aZ (adM _ _ _) (aeL _ _)
 ·exact aZ (aeK _ _ _) (adB _ _)
 ·exact aZ (aeK _ _ _) (adB _ _)
 exact aX _

theorem axG (l : Loc) (hk : l.ok) (hg : l.grp ≠ []) (b : Nat) (s : List UInt8) (hs : s.length ≤ 1000) (o : EntN) (ho : o.exp = false ∧ o.grouped = false) (ho0 : o.kind = 0) (bo : Nat) (H : Heap) (hbo : H.objs bo = some (.box 76 (EntN.cs o))) : ACall Tryz.prog 97 [erA l b, .str s, .ptr (some ⟨bo, 0, none⟩)] H (fun y H' => ∃ (p : PartN) (o' : EntN), y = .tuple [p.av, .bool (aoI l (acY l s).2.1).isSome] ∧ H' = H.set bo (.box 76 (EntN.cs o')) ∧ ∀ r, aoI l (acY l s).2.1 = some r → p = ⟨r.1, r.2.1 + (acY l s).2.2⟩ ∧ o' = { o with kind := (acY l s).1, places := r.2.2.1, grouped := r.2.2.2.1, exp := r.2.2.2.2 }) := by
 have hl1 := aeL s l.cur
 have hl2 := adB s l.cur
 have hl3 := adB s l.pct
 have hl4 := adM yL (Lib.trimPrefix s l.cur).length (Lib.trimPrefix s l.cur)
 have hl5 := aeK yL (Lib.trimSuffix s l.cur).length (Lib.trimSuffix s l.cur)
 have hl6 := aeK yL (Lib.trimSuffix s l.pct).length (Lib.trimSuffix s l.pct)
 refine ACall.of_body Tryz.func97 rfl Tryz.ntmps97 Tryz.results97 rfl ?_
 refine .sr ?_
 refine .al zr130 (fun b6 hb6 => ?_)
 refine .p rfl (zA zM) (.ng (.seq (.seq ?_)))
 have ho6 : bo ≠ b6 := by intro q; rw [q, hb6] at hbo; cases hbo
 have ho6s := ho6.symm
 refine .region (.mv rfl rfl (.mv rfl rfl (.p rfl (yZ (tm rfl)) (.p rfl (zD U123 rfl Z29 (tm rfl)) (.p rfl (zD U29 rfl Z9 (tm rfl)) (.p rfl (zH G9 (tm rfl)) (.cl rfl C93 (evs2 rfl rfl) (cutPrefixA _ _ _) (.mv rfl rfl ?_))))))))
 refine .p rfl (zB (tm rfl) rfl) (.p rfl (zB (tm rfl) rfl) (.as rfl rfl (.as rfl rfl (.nr (.mv rfl rfl (.ng ?_))))))
 refine AWP.cond (tm rfl) (fun hc26 => ?_) (fun hc26 => ?_)
 ·try simp only [aK] at hc26
  have hamt : acY l s = (2, (abA yL (Lib.trimPrefix s l.cur).length (Lib.trimPrefix s l.cur)), 0) := by unfold acY; rw [aO hc26]
  refine .sr (.mv rfl rfl (.p rfl (qT (tm rfl)) (.p rfl (zV U76 rfl Z3 (tm rfl)) (.e0 (zG Z3 (tm rfl) zE rfl rfl (.inl rfl) ((oN _ _ ho6).trans hbo) (lB rfl)) ?_))))
  try first | rw [sS] | rw [sU (by assumption)]
  refine .nr (.mv rfl rfl (.mv rfl rfl (.cl rfl C96 (.cons (tm rfl) (.cons (.func _) .nil)) (trimLeftFuncA _ _) (.mv rfl rfl ?_))))
  refine .s rfl (zF C161 (evs3 rfl rfl rfl) (afG l hk hg b (abA yL (Lib.trimPrefix s l.cur).length (Lib.trimPrefix s l.cur)) (by omega) { o with kind := 2 } ho bo _ (oS _ _ _))) ?_
  rintro _ _ ⟨p, o1, rfl, rfl, hp, hpe1, hpe2⟩
  try rw [sS]
  refine .p rfl (zB (tm rfl) rfl) (.p rfl (zB (tm rfl) rfl) (.e0 (zG Z130 (tm rfl) (tm rfl) rfl rfl (.inr ⟨_, rfl⟩) ((oN _ _ (by assumption)).trans (oS _ _ _)) (lB rfl)) ?_))
  try first | rw [sS] | rw [sU (by assumption)]
  refine .as rfl rfl (.ng ?_)
  rw [Heap.set_comm ho6s]
  refine AWP.frz (t := 6) rfl ((oN _ _ ho6s).trans hb6) ?_
  refine .ret ?_
  refine Next.rt ?_
  refine Ret.go (.cons (.cellI _ _ _ _ rfl G130 Z130 rfl) (.cons (.tmp _ _ rfl) .nil)) _ (hRa _) ?_
  refine ⟨p, o1, ?_, rfl, fun r hr => ?_⟩
  ·rw [hamt]; rfl
  rw [hamt] at hr ⊢
  obtain ⟨rfl, rfl⟩ := hp r hr
  exact ⟨by simp, rfl⟩
 try simp only [aK] at hc26
 refine .skip ?_
 refine Next.go ?_
 refine .seq (.sr (.mv rfl rfl (.mv rfl rfl (.p rfl (yZ (tm rfl)) (.p rfl (zD U123 rfl Z29 (tm rfl)) (.p rfl (zD U29 rfl Z9 (tm rfl)) (.p rfl (zH G9 (tm rfl)) (.cl rfl Tryz.call94 (evs2 rfl rfl) (cutSuffixA _ _ _) ?_))))))))
 refine .mv rfl rfl (.p rfl (zB (tm rfl) rfl) (.p rfl (zB (tm rfl) rfl) (.as rfl rfl (.as rfl rfl (.nr (.mv rfl rfl (.ng ?_)))))))
 refine AWP.cond (tm rfl) (fun hc47 => ?_) (fun hc47 => ?_)
 ·try simp only [aK] at hc47
  have hamt : acY l s = (2, (abQ yL (Lib.trimSuffix s l.cur).length (Lib.trimSuffix s l.cur)), 0) := by unfold acY; rw [aN (by simp [hc26]), aO hc47]
  refine .sr (.mv rfl rfl (.p rfl (qT (tm rfl)) (.p rfl (zV U76 rfl Z3 (tm rfl)) (.e0 (zG Z3 (tm rfl) zE rfl rfl (.inl rfl) ((oN _ _ ho6).trans hbo) (lB rfl)) ?_))))
  try first | rw [sS] | rw [sU (by assumption)]
  refine .nr (.mv rfl rfl (.mv rfl rfl (.cl rfl Tryz.call157 (.cons (tm rfl) (.cons (.func _) .nil)) (trimRightFuncA _ _) (.mv rfl rfl ?_))))
  refine .s rfl (zF C161 (evs3 rfl rfl rfl) (afG l hk hg b (abQ yL (Lib.trimSuffix s l.cur).length (Lib.trimSuffix s l.cur)) (by omega) { o with kind := 2 } ho bo _ (oS _ _ _))) ?_
  rintro _ _ ⟨p, o1, rfl, rfl, hp, hpe1, hpe2⟩
  try rw [sS]
  refine .p rfl (zB (tm rfl) rfl) (.p rfl (zB (tm rfl) rfl) (.e0 (zG Z130 (tm rfl) (tm rfl) rfl rfl (.inr ⟨_, rfl⟩) ((oN _ _ (by assumption)).trans (oS _ _ _)) (lB rfl)) ?_))
  try first | rw [sS] | rw [sU (by assumption)]
  refine .as rfl rfl (.ng ?_)
  rw [Heap.set_comm ho6s]
  refine AWP.frz (t := 6) rfl ((oN _ _ ho6s).trans hb6) ?_
  refine .ret ?_
  refine Next.rt ?_
  refine Ret.go (.cons (.cellI _ _ _ _ rfl G130 Z130 rfl) (.cons (.tmp _ _ rfl) .nil)) _ (hRa _) ?_
  refine ⟨p, o1, ?_, rfl, fun r hr => ?_⟩
  ·rw [hamt]; rfl
  rw [hamt] at hr ⊢
  obtain ⟨rfl, rfl⟩ := hp r hr
  exact ⟨by simp, rfl⟩
 try simp only [aK] at hc47
 refine .skip ?_
 refine Next.go ?_
 refine .seq (.sr (.mv rfl rfl (.mv rfl rfl (.p rfl (yZ (tm rfl)) (.p rfl (zD U123 rfl Z29 (tm rfl)) (.p rfl (zD U29 rfl Z9 (tm rfl)) (.p rfl (zH G9 (tm rfl)) (.cl rfl Tryz.call94 (evs2 rfl rfl) (cutSuffixA _ _ _) ?_))))))))
 refine .mv rfl rfl (.p rfl (zB (tm rfl) rfl) (.p rfl (zB (tm rfl) rfl) (.as rfl rfl (.as rfl rfl (.nr (.mv rfl rfl (.ng ?_)))))))
 refine AWP.cond (tm rfl) (fun hc68 => ?_) (fun hc68 => ?_)
 ·try simp only [aK] at hc68
  have hamt : acY l s = (1, (abQ yL (Lib.trimSuffix s l.pct).length (Lib.trimSuffix s l.pct)), -2) := by unfold acY; rw [aN (by simp [hc26]), aN (by simp [hc47]), aO hc68]
  refine .sr (.mv rfl rfl (.p rfl (qT (tm rfl)) (.p rfl (zV U76 rfl Z3 (tm rfl)) (.e0 (zG Z3 (tm rfl) zE rfl rfl (.inl rfl) ((oN _ _ ho6).trans hbo) (lB rfl)) ?_))))
  try first | rw [sS] | rw [sU (by assumption)]
  refine .nr (.mv rfl rfl (.mv rfl rfl (.cl rfl Tryz.call157 (.cons (tm rfl) (.cons (.func _) .nil)) (trimRightFuncA _ _) (.mv rfl rfl ?_))))
  refine .s rfl (zF C161 (evs3 rfl rfl rfl) (afG l hk hg b (abQ yL (Lib.trimSuffix s l.pct).length (Lib.trimSuffix s l.pct)) (by omega) { o with kind := 1 } ho bo _ (oS _ _ _))) ?_
  rintro _ _ ⟨p, o1, rfl, rfl, hp, hpe1, hpe2⟩
  try rw [sS]
  refine .mv rfl rfl (.p rfl (zB (tm rfl) rfl) (.p rfl (zB (tm rfl) rfl) ?_))
  refine .al zr130 (fun b14 hb14 => ?_)
  have hn6_14 := Heap.ne_of (oS _ _ _) hb14
  refine .e0 (zG Z130 (tm rfl) (tm rfl) rfl rfl (.inr ⟨_, rfl⟩) (oS _ _ _) (lB rfl)) ?_
  try first | rw [sS] | rw [sU (by assumption)]
  refine .as rfl rfl (.ng (.seq ?_))
  have h6e : b6 ≠ b14 := Heap.ne_of ((oN _ _ ho6s).trans (oS _ _ _)) hb14
  have hoe14 : bo ≠ b14 := Heap.ne_of (oS _ _ _) hb14
  have h140 : H.objs b14 = none := by have q := hb14; rw [oN _ _ hoe14.symm, oN _ _ h6e.symm] at q; exact q
  refine .region (.p rfl (zV U130 rfl Z3 (tm rfl)) (.e rfl (yE G3 (tm rfl) (oS _ _ _) rfl) (.p rfl (yG (tm rfl) zE (by omega)) (.p rfl (zV U130 rfl Z3 (tm rfl)) (.e0 (zG Z3 (tm rfl) (tm rfl) rfl rfl (.inl rfl) (oS _ _ _) (lB rfl)) ?_)))))
  try first | rw [sS] | rw [sU (by assumption)]
  refine .nr (.e rfl (yW G130 Z130 (tm rfl) (oS _ _ _) (lB rfl)) (.mv rfl rfl (.e0 (zG Z130 (tm rfl) (tm rfl) rfl rfl (.inr ⟨_, rfl⟩) ((oN _ _ (by assumption)).trans ((oN _ _ (by assumption)).trans (oS _ _ _))) (lB rfl)) ?_)))
  try first | rw [sS] | rw [sU (by assumption)]
  refine .as rfl rfl (.ng ?_)
  rw [Heap.set_comm h6e.symm, sU ho6s]
  refine AWP.dropb ((oN _ _ hoe14.symm).trans ((oN _ _ h6e.symm).trans h140)) ?_
  rw [Heap.set_comm ho6s]
  refine AWP.frz (t := 6) rfl ((oN _ _ ho6s).trans hb6) ?_
  refine .ret ?_
  refine Next.rt ?_
  refine Ret.go (.cons (.cellI _ _ _ _ rfl G130 Z130 rfl) (.cons (.tmp _ _ rfl) .nil)) _ (hRa _) ?_
  refine ⟨⟨p.digits, p.exp - 2⟩, o1, ?_, rfl, fun r hr => ?_⟩
  ·rw [hamt]; rfl
  rw [hamt] at hr ⊢
  obtain ⟨rfl, rfl⟩ := hp r hr
  exact ⟨rfl, rfl⟩
 try simp only [aK] at hc68
 have hamt : acY l s = (0, s, 0) := by unfold acY; rw [aN (by simp [hc26]), aN (by simp [hc47]), aN (by simp [hc68])]
 refine .skip ?_
 refine Next.go ?_
 refine .sr (.mv rfl rfl (.mv rfl rfl (.mv rfl rfl ?_)))
 refine .s rfl (zF C161 (evs3 rfl rfl rfl) (afG l hk hg b s (by omega) { o with kind := o.kind } ho bo _ ((oN _ _ ho6).trans hbo))) ?_
 rintro _ _ ⟨p, o1, rfl, rfl, hp, hpe1, hpe2⟩
 try rw [sS]
 refine .p rfl (zB (tm rfl) rfl) (.p rfl (zB (tm rfl) rfl) (.e0 (zG Z130 (tm rfl) (tm rfl) rfl rfl (.inr ⟨_, rfl⟩) ((oN _ _ (by assumption)).trans (oS _ _ _)) (lB rfl)) ?_))
 try first | rw [sS] | rw [sU (by assumption)]
 refine .as rfl rfl (.ng ?_)
 rw [Heap.set_comm ho6s]
 refine AWP.frz (t := 6) rfl ((oN _ _ ho6s).trans hb6) ?_
 refine .ret ?_
 refine Ret.go (.cons (.cellI _ _ _ _ rfl G130 Z130 rfl) (.cons (.tmp _ _ rfl) .nil)) _ (hRa _) ?_
 refine ⟨p, o1, ?_, rfl, fun r hr => ?_⟩
 ·rw [hamt]; rfl
 rw [hamt] at hr ⊢
 obtain ⟨rfl, rfl⟩ := hp r hr
 exact ⟨by simp, by rw [ho0]⟩

end
end Go.Proofs.YtmmgbnolccpjoaaGreatDoor
