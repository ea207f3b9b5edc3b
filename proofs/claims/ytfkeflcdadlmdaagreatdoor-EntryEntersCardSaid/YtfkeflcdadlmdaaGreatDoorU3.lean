import Derived.Test.YtfkeflcdadlmdaaGreatDoorYd
import Derived.Test.YtfkeflcdadlmdaaGreatDoorSsk
import Derived.Test.YtfkeflcdadlmdaaGreatDoorU2
namespace Go.Proofs.YtfkeflcdadlmdaaGreatDoor
open Go Go.RowKit

def EntN.zero : EntN := ⟨0, 0, 0, false, false⟩
def acI (l : Loc) (u : List UInt8) : Option (List UInt8 × Bool) :=
 if Lib.hasPrefix u [40] = true then (if Lib.hasSuffix (Lib.trimPrefix u [40]) [41] = true then some (qM zQ (Lib.trimSuffix (Lib.trimPrefix u [40]) [41]), true) else none)
 else some (qE zQ (yA l u).1.length (yA l u).1, (yA l u).2)
def asN (l : Loc) (v : List UInt8) (neg : Bool) : EntN × Int :=
 match alA l (acG l v).2.1 with
 | none => (EntN.zero, 3)
 | some (d, e, k, gr, x) =>
  if (mkN neg d (e + (acG l v).2.2)).2 ≠ 0 then (EntN.zero, 2)
  else if qD (ahY (mkN neg d (e + (acG l v).2.2)).1.1 (mkN neg d (e + (acG l v).2.2)).1.2.1 (mkN neg d (e + (acG l v).2.2)).1.2.2) = 3 then (EntN.zero, 2)
  else (⟨ahY (mkN neg d (e + (acG l v).2.2)).1.1 (mkN neg d (e + (acG l v).2.2)).1.2.1 (mkN neg d (e + (acG l v).2.2)).1.2.2, (acG l v).1, k, gr, x⟩, 0)
def acE (l : Loc) (u : List UInt8) : EntN × Int := match acI l u with | none => (EntN.zero, 3) | some (v, neg) => asN l v neg
theorem auE {l : Loc} {s d : List UInt8} {e : Int} {k : Nat} {gr x : Bool} (h : alA l s = some (d, e, k, gr, x)) : Digs d ∧ d.length ≤ 2 * s.length ∧ e ≤ 2000000000 ∧ -1000000000 - (s.length : Int) ≤ e := by
 unfold alA at h
 cases hh : ahB l s with
 | none => rw [hh] at h; cases h
 | some q =>
  obtain ⟨t, n, y⟩ := q
  rw [hh] at h
  simp only at h
  cases hb : ajA l t with
  | none => rw [hb] at h; cases h
  | some q =>
   obtain ⟨d2, k2, g2⟩ := q
   rw [hb] at h
   injection h with h
   injection h with h1 h2
   injection h2 with h2 h3
   subst h1; subst h2
   have a := apV hh
   have b := beO hb
   exact ⟨b.1, by omega, by omega, by omega⟩
theorem amtP_sh (l : Loc) (s : List UInt8) : -2 ≤ (acG l s).2.2 ∧ (acG l s).2.2 ≤ 0 := by
 unfold acG
 repeat' split
 all_goals simp
theorem bbE (neg : Bool) (ds : List UInt8) (e : Int) : ahY neg ds e < 18446744073709551616 := by
 have := azF ds e
 unfold ahY aaJ
 split <;> omega

set_option maxRecDepth 100000 in
theorem abU (l : Loc) (hk : l.ok) (hg : l.grp ≠ []) (f : Nat → List AV) (hf : ROK f) (s : List UInt8) (hs : s.length ≤ 1000) (b : Nat) (H : Heap) (hb : H.objs b = some (.box 129 (abE f))) : ACall Tryz.prog 11 [erA l b, .str s] H (fun y H' => y = .tuple [.agg (acE l (qM zQ s)).1.cs, .int .i64 (acE l (qM zQ s)).2] ∧ ∃ f', ROK f' ∧ H' = H.set b (.box 129 (abE f'))) := by
 have htl := alN zQ s
 refine ACall.of_body Tryz.func11 rfl Tryz.ntmps11 Tryz.results11 rfl ?_
 iterate 2 refine AX ?_
 refine .s rfl (zL Tryz.zeroValue32 (zr32)) ?_
 rintro _ _ ⟨b4, hb4, rfl, hH⟩
 obtain rfl := hH.symm
 iterate 11 refine AX ?_
 refine AWP.cond_false (tm rfl) (by exact decide_eq_false (by omega)) ?_
 iterate 5 refine AX ?_
 refine .cl rfl Tryz.call27 (.cons (tm rfl) (.cons (.func _) .nil)) (trimFuncA s _) ?_
 iterate 6 refine AX ?_
 refine .cl rfl Tryz.call29 (.cons (tm rfl) (.cons (zR rfl) .nil)) (cutPrefixA _ _ _) ?_
 iterate 7 refine AX ?_
 refine AWP.meet (fun env H2 => ∃ (v : List UInt8) (neg : Bool), acI l (qM zQ s) = some (v, neg) ∧ v.length ≤ 1000 ∧ env = [(0, erA l b), (4, .ptr (some ⟨b4, 0, none⟩)), (5, .int .i64 0), (6, .str v), (7, .bool neg)] ∧ H2 = H.set b4 (.box 32 (EntN.cs EntN.zero))) ?_ ?_
 ·iterate 5 refine AX ?_
  refine AWP.cx rfl (fun hc25 => ?_) (fun hc25 => ?_)
  ·iterate 9 refine AX ?_
   refine .cl rfl Tryz.call30 (.cons (tm rfl) (.cons (zR rfl) .nil)) (cutSuffixA _ _ _) ?_
   iterate 13 refine AX ?_
   refine AWP.cx rfl (fun hc32 => ?_) (fun hc32 => ?_)
   ·have hin : acI l (qM zQ s) = none := by unfold acI; rw [if_pos hc25, if_neg (by simpa using hc32)]
    iterate 2 refine AX ?_
    refine .p rfl (zU [(0, 1), (1, 1), (2, 1), (3, 1), (4, 1)] Tryz.underlying32 Tryz.zeroValue32 (zr32) rfl (pl32 _ Tryz.underlying32) .nil rfl) (.e0 (zB Tryz.sizeOf32 (tm rfl) (tm rfl) rfl rfl (.inr ⟨_, rfl⟩) (Heap.objs_set_same _ _ _) (Nat.le_of_ble_eq_true rfl)) ?_)
    try first | rw [Heap.set_set] | rw [Heap.set_under (by assumption)]
    iterate 3 refine AX ?_
    refine AWP.frz (t := 4) rfl hb4 ?_
    iterate 3 refine AX ?_
    refine Ret.go (.cons (.cellI _ _ _ _ rfl Tryz.isAgg32 Tryz.sizeOf32 rfl) (.cons (.tmp _ _ rfl) .nil)) _ (Heap.le.refl _) ?_
    refine ⟨?_, f, hf, (Heap.set_self hb).symm⟩
    unfold acE
    rw [hin]; rfl
   ·have hin : acI l (qM zQ s) = some (qM zQ (Lib.trimSuffix (Lib.trimPrefix (qM zQ s) [40]) [41]), true) := by unfold acI; rw [if_pos hc25, if_pos (by simpa using hc32)]
    iterate 4 refine AX ?_
    refine .cl rfl Tryz.call27 (.cons (tm rfl) (.cons (.func _) .nil)) (trimFuncA _ _) ?_
    iterate 3 refine AX ?_
    refine Meets.mk (M := fun env H2 => ∃ (v : List UInt8) (neg : Bool), acI l (qM zQ s) = some (v, neg) ∧ v.length ≤ 1000 ∧ env = [(0, erA l b), (4, .ptr (some ⟨b4, 0, none⟩)), (5, .int .i64 0), (6, .str v), (7, .bool neg)] ∧ H2 = H.set b4 (.box 32 (EntN.cs EntN.zero))) ⟨_, true, hin, by have := alN zQ (Lib.trimSuffix (Lib.trimPrefix (qM zQ s) [40]) [41]); have := acJ (Lib.trimPrefix (qM zQ s) [40]) [41]; have := acK (qM zQ s) [40]; omega, rfl, rfl⟩ (yC rfl (yC rfl (yC rfl (yC rfl (zW rfl (by (rw [show Lib.hasPrefix (qM zQ s) [40] = true from hc25])) yX))))) (Heap.le.refl _)
  ·have hin : acI l (qM zQ s) = some (qE zQ (yA l (qM zQ s)).1.length (yA l (qM zQ s)).1, (yA l (qM zQ s)).2) := by unfold acI; rw [if_neg (by simp [hc25])]
   iterate 4 refine AX ?_
   refine .cl rfl Tryz.call31 (evs2 rfl rfl) (aoW l b _ _) ?_
   iterate 9 refine AX ?_
   refine .cl rfl Tryz.call32 (.cons (tm rfl) (.cons (.func _) .nil)) (trimLeftFuncA _ _) ?_
   iterate 3 refine AX ?_
   refine Meets.mk (M := fun env H2 => ∃ (v : List UInt8) (neg : Bool), acI l (qM zQ s) = some (v, neg) ∧ v.length ≤ 1000 ∧ env = [(0, erA l b), (4, .ptr (some ⟨b4, 0, none⟩)), (5, .int .i64 0), (6, .str v), (7, .bool neg)] ∧ H2 = H.set b4 (.box 32 (EntN.cs EntN.zero))) ⟨_, _, hin, by have := abN zQ (yA l (qM zQ s)).1.length (yA l (qM zQ s)).1; have := aiG l (qM zQ s); omega, rfl, rfl⟩ (yC rfl (yC rfl (yC rfl (yC rfl (zW rfl (by rfl) yX))))) (Heap.le.refl _)
 ·rintro _ _ ⟨v, neg, hin, hvl, rfl, rfl⟩
  have hh4 := hb4
  iterate 2 refine AX ?_
  refine .s rfl (zL Tryz.zeroValue32 (zr32)) ?_
  rintro _ _ ⟨b9, hb9, rfl, hH⟩
  obtain rfl := hH.symm
  have hn4_9 := Heap.ne_of (Heap.objs_set_same _ _ _) hb9
  iterate 3 refine AX ?_
  have h4b : b4 ≠ b := by intro q; rw [← q, hb4] at hb; cases hb
  have hb90 : H.objs b9 = none := by have q := hb9; rw [Heap.objs_set_ne _ _ hn4_9.symm] at q; exact q
  have h9b : b9 ≠ b := by intro q; rw [← q, hb90] at hb; cases hb
  have hal := amtP_len l v
  have hsh := amtP_sh l v
  iterate 3 refine AX ?_
  refine .s rfl (zH Tryz.call33 (evs3 rfl rfl rfl) (avI l hk hg b v hvl EntN.zero ⟨rfl, rfl⟩ rfl b9 _ (Heap.objs_set_same _ _ _))) ?_
  rintro _ _ ⟨p, o1, rfl, rfl, hp⟩
  rw [Heap.set_set]
  iterate 3 refine AX ?_
  refine .s rfl (zL Tryz.zeroValue75 (zr75)) ?_
  rintro _ _ ⟨b10, hb10, rfl, hH⟩
  obtain rfl := hH.symm
  have hn4_10 := Heap.ne_of (Heap.objs_set_same _ _ _) hb10
  have hn9_10 := Heap.ne_of (Heap.objs_set_same _ _ _) hb10
  refine .e0 (zB Tryz.sizeOf75 (tm rfl) (tm rfl) rfl rfl (.inr ⟨_, rfl⟩) (Heap.objs_set_same _ _ _) (Nat.le_of_ble_eq_true rfl)) ?_
  try first | rw [Heap.set_set] | rw [Heap.set_under (by assumption)]
  iterate 3 refine AX ?_
  refine AWP.frz (t := 10) rfl (hb10) ?_
  iterate 7 refine AX ?_
  refine AWP.cx rfl (fun hc51 => ?_) (fun hc51 => ?_)
  ·have hnn : alA l (acG l v).2.1 = none := by simpa using hc51
   iterate 2 refine AX ?_
   refine .p rfl (zU [(0, 1), (1, 1), (2, 1), (3, 1), (4, 1)] Tryz.underlying32 Tryz.zeroValue32 (zr32) rfl (pl32 _ Tryz.underlying32) .nil rfl) (.e0 (zB Tryz.sizeOf32 (tm rfl) (tm rfl) rfl rfl (.inr ⟨_, rfl⟩) ((Heap.objs_set_ne _ _ (by assumption)).trans (Heap.objs_set_same _ _ _)) (Nat.le_of_ble_eq_true rfl)) ?_)
   try first | rw [Heap.set_set] | rw [Heap.set_under (by assumption)]
   iterate 3 refine AX ?_
   refine AWP.dropb (Heap.fresh_set hb9 _) ?_
   refine AWP.frz (t := 4) rfl hb4 ?_
   iterate 2 refine AX ?_
   refine Ret.go (.cons (.cellI _ _ _ _ rfl Tryz.isAgg32 Tryz.sizeOf32 rfl) (.cons (.tmp _ _ rfl) .nil)) _ (Heap.le.refl _) ?_
   refine ⟨?_, f, hf, (Heap.set_self hb).symm⟩
   unfold acE
   rw [hin]
   show _ = AV.tuple [.agg (asN l v neg).1.cs, .int .i64 (asN l v neg).2]
   have hfp : asN l v neg = (EntN.zero, 3) := by
    unfold asN
    rw [hnn]
   rw [hfp]; rfl
  ·obtain ⟨⟨d, e, k, gr, x⟩, hnn⟩ := Option.isSome_iff_exists.1 (show (alA l (acG l v).2.1).isSome = true by simpa using hc51)
   obtain ⟨rfl, rfl⟩ := hp _ hnn
   obtain ⟨hdd, hdl, he2, he3⟩ := auE hnn
   iterate 5 refine AX ?_
   refine .p rfl (zA Tryz.underlying75 rfl Tryz.sizeOf9 (tm rfl)) ?_
   refine AX ?_
   refine .p rfl (zA Tryz.underlying75 rfl Tryz.sizeOf3 (tm rfl)) ?_
   refine AX ?_
   refine .cl rfl Tryz.call34 (evs3 rfl rfl rfl) (ajZ neg d (e + (acG l v).2.2) hdd (by omega) (by constructor <;> omega) _) ?_
   iterate 3 refine AX ?_
   refine .s rfl (zL Tryz.zeroValue48 (zr48)) ?_
   rintro _ _ ⟨b12, hb12, rfl, hH⟩
   obtain rfl := hH.symm
   have hn4_12 := Heap.ne_of (Heap.objs_set_same _ _ _) hb12
   have hn9_12 := Heap.ne_of (Heap.objs_set_same _ _ _) hb12
   refine .e0 (zB Tryz.sizeOf48 (tm rfl) (tm rfl) rfl rfl (.inr ⟨_, rfl⟩) (Heap.objs_set_same _ _ _) (Nat.le_of_ble_eq_true rfl)) ?_
   try first | rw [Heap.set_set] | rw [Heap.set_under (by assumption)]
   iterate 3 refine AX ?_
   refine AWP.frz (t := 12) rfl (hb12) ?_
   iterate 7 refine AX ?_
   refine AWP.cx rfl (fun hc63 => ?_) (fun hc63 => ?_)
   ·have hm0 : (mkN neg d (e + (acG l v).2.2)).2 ≠ 0 := by simpa using hc63
    iterate 2 refine AX ?_
    refine .p rfl (zU [(0, 1), (1, 1), (2, 1), (3, 1), (4, 1)] Tryz.underlying32 Tryz.zeroValue32 (zr32) rfl (pl32 _ Tryz.underlying32) .nil rfl) (.e0 (zB Tryz.sizeOf32 (tm rfl) (tm rfl) rfl rfl (.inr ⟨_, rfl⟩) ((Heap.objs_set_ne _ _ (by assumption)).trans (Heap.objs_set_same _ _ _)) (Nat.le_of_ble_eq_true rfl)) ?_)
    try first | rw [Heap.set_set] | rw [Heap.set_under (by assumption)]
    iterate 3 refine AX ?_
    refine AWP.dropb (Heap.fresh_set hb9 _) ?_
    refine AWP.frz (t := 4) rfl hb4 ?_
    iterate 2 refine AX ?_
    refine Ret.go (.cons (.cellI _ _ _ _ rfl Tryz.isAgg32 Tryz.sizeOf32 rfl) (.cons (.tmp _ _ rfl) .nil)) _ (Heap.le.refl _) ?_
    refine ⟨?_, f, hf, (Heap.set_self hb).symm⟩
    unfold acE
    rw [hin]
    show _ = AV.tuple [.agg (asN l v neg).1.cs, .int .i64 (asN l v neg).2]
    have hfp : asN l v neg = (EntN.zero, 2) := by
     unfold asN
     rw [hnn]
     simp only
     rw [if_pos hm0]
    rw [hfp]; rfl
   ·have hm0 : ¬ (mkN neg d (e + (acG l v).2.2)).2 ≠ 0 := by simpa using hc63
    iterate 4 refine AX ?_
    refine AWP.draw [(0, true), (1, true), (2, true), (3, true), (4, true), (5, false), (6, true), (7, true), (8, true), (9, true), (10, false)] rfl (by decide +kernel) ?_
    iterate 2 refine AX ?_
    refine .p rfl rfl (zA Tryz.underlying68 rfl Tryz.sizeOf65 (tm rfl)) ?_
    iterate 2 refine AX ?_
    refine .s rfl rfl (zH Tryz.call35 (evs2 rfl rfl) (axA f hf (mkN neg d (e + (acG l v).2.2)).1.1 (mkN neg d (e + (acG l v).2.2)).1.2.1 (mkN neg d (e + (acG l v).2.2)).1.2.2 (aiR hdd) b _ ((Heap.objs_set_ne _ _ h9b.symm).trans ((Heap.objs_set_ne _ _ h4b.symm).trans hb)))) ?_
    rintro _ _ ⟨rfl, f1, hf1, rfl⟩
    rw [Heap.set_comm h9b, Heap.set_comm h4b]
    iterate 3 refine AX ?_
    refine .p rfl rfl (zD Tryz.underlying32 rfl Tryz.sizeOf30 (tm rfl)) (.s0 rfl (zB Tryz.sizeOf30 (tm rfl) (tm rfl) rfl rfl (.inl rfl) (Heap.objs_set_same _ _ _) (Nat.le_of_ble_eq_true rfl)) ?_)
    rintro _ _ ⟨rfl, hH⟩
    obtain rfl := hH.symm
    try first | rw [Heap.set_set] | rw [Heap.set_under (by assumption)]
    iterate 4 refine AX ?_
    refine .p rfl (zD Tryz.underlying32 rfl Tryz.sizeOf30 (tm rfl)) (.e rfl (zN Tryz.isAgg30 (tm rfl) (Heap.objs_set_same _ _ _) rfl) (.cl rfl Tryz.call36 (evs1 rfl) (agY (ahY (mkN neg d (e + (acG l v).2.2)).1.1 (mkN neg d (e + (acG l v).2.2)).1.2.1 (mkN neg d (e + (acG l v).2.2)).1.2.2) (bbE _ _ _) _) ?_))
    iterate 3 refine AX ?_
    refine AWP.cx rfl (fun hc78 => ?_) (fun hc78 => ?_)
    ·have hk3 : qD (ahY (mkN neg d (e + (acG l v).2.2)).1.1 (mkN neg d (e + (acG l v).2.2)).1.2.1 (mkN neg d (e + (acG l v).2.2)).1.2.2) = 3 := by omega
     iterate 2 refine AX ?_
     refine .p rfl (zU [(0, 1), (1, 1), (2, 1), (3, 1), (4, 1)] Tryz.underlying32 Tryz.zeroValue32 (zr32) rfl (pl32 _ Tryz.underlying32) .nil rfl) (.e0 (zB Tryz.sizeOf32 (tm rfl) (tm rfl) rfl rfl (.inr ⟨_, rfl⟩) ((Heap.objs_set_ne _ _ (by assumption)).trans (Heap.objs_set_same _ _ _)) (Nat.le_of_ble_eq_true rfl)) ?_)
     try first | rw [Heap.set_set] | rw [Heap.set_under (by assumption)]
     iterate 3 refine AX ?_
     refine AWP.dropb ((Heap.objs_set_ne _ _ hn4_9.symm).trans ((Heap.objs_set_ne _ _ h9b).trans hb90)) ?_
     refine AWP.frz (t := 4) rfl ((Heap.objs_set_ne _ _ h4b).trans hb4) ?_
     iterate 2 refine AX ?_
     refine Ret.go (.cons (.cellI _ _ _ _ rfl Tryz.isAgg32 Tryz.sizeOf32 rfl) (.cons (.tmp _ _ rfl) .nil)) _ (Heap.le.refl _) ?_
     refine ⟨?_, f1, hf1, rfl⟩
     unfold acE
     rw [hin]
     show _ = AV.tuple [.agg (asN l v neg).1.cs, .int .i64 (asN l v neg).2]
     have hfp : asN l v neg = (EntN.zero, 2) := by
      unfold asN
      rw [hnn]
      simp only
      rw [if_neg hm0, if_pos hk3]
     rw [hfp]; rfl
    ·have hk3 : ¬ qD (ahY (mkN neg d (e + (acG l v).2.2)).1.1 (mkN neg d (e + (acG l v).2.2)).1.2.1 (mkN neg d (e + (acG l v).2.2)).1.2.2) = 3 := by omega
     iterate 4 refine AX ?_
     refine .e rfl (yJ Tryz.isAgg32 Tryz.sizeOf32 (tm rfl) (Heap.objs_set_same _ _ _) (Nat.le_of_ble_eq_true rfl)) (.e0 (zB Tryz.sizeOf32 (tm rfl) (tm rfl) rfl rfl (.inr ⟨_, rfl⟩) ((Heap.objs_set_ne _ _ (by assumption)).trans (Heap.objs_set_same _ _ _)) (Nat.le_of_ble_eq_true rfl)) ?_)
     try first | rw [Heap.set_set] | rw [Heap.set_under (by assumption)]
     iterate 3 refine AX ?_
     refine AWP.dropb ((Heap.objs_set_ne _ _ hn4_9.symm).trans ((Heap.objs_set_ne _ _ h9b).trans hb90)) ?_
     refine AWP.frz (t := 4) rfl ((Heap.objs_set_ne _ _ h4b).trans hb4) ?_
     refine AX ?_
     refine Ret.go (.cons (.cellI _ _ _ _ rfl Tryz.isAgg32 Tryz.sizeOf32 rfl) (.cons (.tmp _ _ rfl) .nil)) _ (Heap.le.refl _) ?_
     refine ⟨?_, f1, hf1, rfl⟩
     unfold acE
     rw [hin]
     show _ = AV.tuple [.agg (asN l v neg).1.cs, .int .i64 (asN l v neg).2]
     have hfp : asN l v neg = (⟨(ahY (mkN neg d (e + (acG l v).2.2)).1.1 (mkN neg d (e + (acG l v).2.2)).1.2.1 (mkN neg d (e + (acG l v).2.2)).1.2.2), (acG l v).1, k, gr, x⟩, 0) := by
      unfold asN
      rw [hnn]
      simp only
      rw [if_neg hm0, if_neg hk3]
     rw [hfp]; rfl
def EntN.vals (o : EntN) : List Value := [.int .u64 o.bits, .int .i64 o.kind, .int .i64 o.places, .bool o.grouped, .bool o.exp]
theorem eqIn5 (d : Nat) (o q : EntN) (w : World) : (Op.equalIn (d + 2) 32 (.agg #[.int .u64 o.bits, .int .i64 o.kind, .int .i64 o.places, .bool o.grouped, .bool o.exp]) (.agg #[.int .u64 q.bits, .int .i64 q.kind, .int .i64 q.places, .bool q.grouped, .bool q.exp])).run Tryz.prog w = .ok (decide (((o.bits : Int) = q.bits ∧ o.kind = q.kind ∧ o.places = q.places ∧ o.grouped = q.grouped ∧ o.exp = q.exp))) w := by
 have u1 := Tryz.underlying30
 have a1 := Tryz.isAgg30
 have z1 := Tryz.sizeOf30
 have u2 := Tryz.underlying3
 have a2 := Tryz.isAgg3
 have z2 := Tryz.sizeOf3
 have u3 := Tryz.underlying4
 have a3 := Tryz.isAgg4
 have z3 := Tryz.sizeOf4
 have hS : Tryz.prog.underlying 32 = some (.struct (Tryz.prog.fieldsOf 32)) := by kernel_rfl
 have hp : Tryz.prog.stoodInHeld 32 = false := by kernel_rfl
 rw [run_equalIn_agg w (d + 1) 32 _ _ hS hp]
 simp only [Program.fieldsOf, Tryz.underlying32]
 go_simp
 by_cases h1 : (o.bits : Int) = q.bits <;> by_cases h2 : o.kind = q.kind <;> by_cases h3 : o.places = q.places <;> by_cases h4 : o.grouped = q.grouped <;> by_cases h5 : o.exp = q.exp <;> simp [h1, h2, h3, h4, h5]
theorem eq5 (o q : EntN) : asL Tryz.prog 32 o.cs q.cs (decide (((o.bits : Int) = q.bits ∧ o.kind = q.kind ∧ o.places = q.places ∧ o.grouped = q.grouped ∧ o.exp = q.exp))) := fun g xs ys w h k => by
 rw [h.plain o.vals rfl, k.plain q.vals rfl]; exact eqIn5 9998 o q w
theorem afH : ∀ l ∈ locs, l.grp ≠ [] := by
 intro l hl
 simp only [locs, List.mem_cons, List.not_mem_nil, or_false] at hl
 rcases hl with rfl | rfl | rfl | rfl | rfl | rfl <;> simp
theorem anN (o : EntN) : (!decide (((o.bits : Int) = o.bits ∧ o.kind = o.kind ∧ o.places = o.places ∧ o.grouped = o.grouped ∧ o.exp = o.exp))) = false := by simp
end Go.Proofs.YtfkeflcdadlmdaaGreatDoor
