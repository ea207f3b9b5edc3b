import Derived.Test.YtfkeflcdadlmdaaGreatDoorSsk
import Derived.Test.YtfkeflcdadlmdaaGreatDoorU2
namespace Go.Proofs.YtfkeflcdadlmdaaGreatDoor
open Go Go.RowKit

def EntN.zero : EntN := ⟨0, 0, 0, false, false⟩
def abZ (l : Loc) (u : List UInt8) : Option (List UInt8 × Bool) :=
 if Lib.hasPrefix u [40] = true then (if Lib.hasSuffix (Lib.trimPrefix u [40]) [41] = true then some (qV yC (Lib.trimSuffix (Lib.trimPrefix u [40]) [41]), true) else none)
 else some (qZ yC (acA l u).1.length (acA l u).1, (acA l u).2)
def apK (l : Loc) (v : List UInt8) (neg : Bool) : EntN × Int :=
 match alH l (acP l v).2.1 with
 | none => (EntN.zero, 3)
 | some (d, e, k, gr, x) =>
  if (mkN neg d (e + (acP l v).2.2)).2 ≠ 0 then (EntN.zero, 2)
  else if yY (qU (mkN neg d (e + (acP l v).2.2)).1.1 (mkN neg d (e + (acP l v).2.2)).1.2.1 (mkN neg d (e + (acP l v).2.2)).1.2.2) = 3 then (EntN.zero, 2)
  else (⟨qU (mkN neg d (e + (acP l v).2.2)).1.1 (mkN neg d (e + (acP l v).2.2)).1.2.1 (mkN neg d (e + (acP l v).2.2)).1.2.2, (acP l v).1, k, gr, x⟩, 0)
def aaL (l : Loc) (u : List UInt8) : EntN × Int := match abZ l u with | none => (EntN.zero, 3) | some (v, neg) => apK l v neg
theorem bdM {l : Loc} {s d : List UInt8} {e : Int} {k : Nat} {gr x : Bool} (h : alH l s = some (d, e, k, gr, x)) : Digs d ∧ d.length ≤ 2 * s.length ∧ e ≤ 2000000000 ∧ -1000000000 - (s.length : Int) ≤ e := by
 unfold alH at h
 cases hh : aiJ l s with
 | none => rw [hh] at h; cases h
 | some q =>
  obtain ⟨t, n, y⟩ := q
  rw [hh] at h
  simp only at h
  cases hb : ajI l t with
  | none => rw [hb] at h; cases h
  | some q =>
   obtain ⟨d2, k2, g2⟩ := q
   rw [hb] at h
   injection h with h
   injection h with h1 h2
   injection h2 with h2 h3
   subst h1; subst h2
   have a := anQ hh
   have b := baM hb
   exact ⟨b.1, by omega, by omega, by omega⟩
theorem amtP_sh (l : Loc) (s : List UInt8) : -2 ≤ (acP l s).2.2 ∧ (acP l s).2.2 ≤ 0 := by
 unfold acP
 repeat' split
 all_goals simp
theorem bitsN_lt (neg : Bool) (ds : List UInt8) (e : Int) : qU neg ds e < 18446744073709551616 := by
 have := avL ds e
 unfold qU aaD
 split <;> omega

set_option maxRecDepth 100000 in
theorem aaH (l : Loc) (hk : l.ok) (hg : l.grp ≠ []) (f : Nat → List AV) (hf : ROK f) (s : List UInt8) (hs : s.length ≤ 1000) (b : Nat) (H : Heap) (hb : H.objs b = some (.box 129 (abI f))) : ACall Tryz.prog 11 [erA l b, .str s] H (fun y H' => y = .tuple [.agg (aaL l (qV yC s)).1.cs, .int .i64 (aaL l (qV yC s)).2] ∧ ∃ f', ROK f' ∧ H' = H.set b (.box 129 (abI f'))) := by
 have htl := ajY yC s
 refine ACall.of_body Tryz.func11 rfl Tryz.ntmps11 Tryz.results11 rfl ?_
 refine .sr (.s rfl (zT Tryz.zeroValue32 (zr32)) ?_)
 rintro _ _ ⟨b4, hb4, rfl, hH⟩
 obtain rfl := hH.symm
 refine .p rfl (zB zE) (.ng (.seq (.sr (.mv rfl rfl (.p rfl (yJ Tryz.underlying9 (tm rfl)) (.p rfl (yF (tm rfl) zE) (.ng ?_)))))))
 refine AWP.cond_false (tm rfl) (by exact decide_eq_false (by omega)) ?_
 refine .skip ?_
 refine Next.go ?_
 refine .sr (.mv rfl rfl (.cl rfl Tryz.call27 (.cons (tm rfl) (.cons (.func _) .nil)) (trimFuncA s _) (.as rfl rfl (.nr (.mv rfl rfl (.cl rfl Tryz.call29 (.cons (tm rfl) (.cons (zS rfl) .nil)) (cutPrefixA _ _ _) (.mv rfl rfl (.p rfl (zD (tm rfl) rfl) ?_))))))))
 refine .p rfl (zD (tm rfl) rfl) (.as rfl rfl (.as rfl rfl (.ng ?_)))
 refine AWP.meet (fun env H2 => ∃ (v : List UInt8) (neg : Bool), abZ l (qV yC s) = some (v, neg) ∧ v.length ≤ 1000 ∧ env = [(0, erA l b), (4, .ptr (some ⟨b4, 0, none⟩)), (5, .int .i64 0), (6, .str v), (7, .bool neg)] ∧ H2 = H.set b4 (.box 32 (EntN.cs EntN.zero))) ?_ ?_
 ·refine .sr (.mv rfl rfl (.ng ?_))
  refine AWP.cond (tm rfl) (fun hc25 => ?_) (fun hc25 => ?_)
  ·try simp only [decide_eq_true_eq, decide_eq_false_iff_not, Bool.not_eq_true', Bool.not_eq_false', Int.not_lt, Int.not_le, ne_eq, Decidable.not_not] at hc25
   refine .sr (.p rfl (zB zK) (.ng (.seq (.sr (.mv rfl rfl (.cl rfl Tryz.call30 (.cons (tm rfl) (.cons (zS rfl) .nil)) (cutSuffixA _ _ _) (.mv rfl rfl (.p rfl (zD (tm rfl) rfl) ?_))))))))
   refine .p rfl (zD (tm rfl) rfl) (.as rfl rfl (.as rfl rfl (.nr (.mv rfl rfl (.p rfl (qY (tm rfl)) (.ng ?_))))))
   refine AWP.cond (tm rfl) (fun hc32 => ?_) (fun hc32 => ?_)
   ·try simp only [Bool.not_eq_true'] at hc32
    have hin : abZ l (qV yC s) = none := by unfold abZ; rw [if_pos hc25, if_neg (by simpa using hc32)]
    refine .sr (.p rfl (yN [(0, 1), (1, 1), (2, 1), (3, 1), (4, 1)] Tryz.underlying32 Tryz.zeroValue32 (zr32) rfl (pl32 _ Tryz.underlying32) .nil rfl) (.e0 (zH Tryz.sizeOf32 (tm rfl) (tm rfl) rfl rfl (.inr ⟨_, rfl⟩) (Heap.objs_set_same _ _ _) (Nat.le_of_ble_eq_true rfl)) ?_))
    try first | rw [Heap.set_set] | rw [Heap.set_under (by assumption)]
    refine .p rfl (zB zE) (.ng ?_)
    refine AWP.frz (t := 4) rfl hb4 ?_
    refine .ret ?_
    refine Next.rt ?_
    refine Next.rt ?_
    refine Ret.go (.cons (.cellI _ _ _ _ rfl Tryz.isAgg32 Tryz.sizeOf32 rfl) (.cons (.tmp _ _ rfl) .nil)) _ (Heap.le.refl _) ?_
    refine ⟨?_, f, hf, (Heap.set_self hb).symm⟩
    unfold aaL
    rw [hin]; rfl
   ·try simp only [Bool.not_eq_false'] at hc32
    have hin : abZ l (qV yC s) = some (qV yC (Lib.trimSuffix (Lib.trimPrefix (qV yC s) [40]) [41]), true) := by unfold abZ; rw [if_pos hc25, if_pos (by simpa using hc32)]
    refine .skip ?_
    refine Next.go ?_
    refine .region (.mv rfl rfl (.cl rfl Tryz.call27 (.cons (tm rfl) (.cons (.func _) .nil)) (trimFuncA _ _) (.as rfl rfl (.ng ?_))))
    refine Meets.mk (M := fun env H2 => ∃ (v : List UInt8) (neg : Bool), abZ l (qV yC s) = some (v, neg) ∧ v.length ≤ 1000 ∧ env = [(0, erA l b), (4, .ptr (some ⟨b4, 0, none⟩)), (5, .int .i64 0), (6, .str v), (7, .bool neg)] ∧ H2 = H.set b4 (.box 32 (EntN.cs EntN.zero))) ⟨_, true, hin, by have := ajY yC (Lib.trimSuffix (Lib.trimPrefix (qV yC s) [40]) [41]); have := acB (Lib.trimPrefix (qV yC s) [40]) [41]; have := adH (qV yC s) [40]; omega, rfl, rfl⟩ (zA rfl (zA rfl (zA rfl (zA rfl (yH rfl (by (rw [show Lib.hasPrefix (qV yC s) [40] = true from hc25])) zL))))) (Heap.le.refl _)
  ·try simp only [decide_eq_true_eq, decide_eq_false_iff_not, Bool.not_eq_true', Bool.not_eq_false', Int.not_lt, Int.not_le, ne_eq, Decidable.not_not] at hc25
   have hin : abZ l (qV yC s) = some (qZ yC (acA l (qV yC s)).1.length (acA l (qV yC s)).1, (acA l (qV yC s)).2) := by unfold abZ; rw [if_neg (by simp [hc25])]
   refine .sr (.mv rfl rfl (.mv rfl rfl (.cl rfl Tryz.call31 (evs2 rfl rfl) (amU l b _ _) (.mv rfl rfl (.p rfl (zD (tm rfl) rfl) (.p rfl (zD (tm rfl) rfl) (.as rfl rfl (.as rfl rfl ?_))))))))
   refine .ng (.region (.mv rfl rfl (.cl rfl Tryz.call32 (.cons (tm rfl) (.cons (.func _) .nil)) (trimLeftFuncA _ _) (.as rfl rfl (.ng ?_)))))
   refine Meets.mk (M := fun env H2 => ∃ (v : List UInt8) (neg : Bool), abZ l (qV yC s) = some (v, neg) ∧ v.length ≤ 1000 ∧ env = [(0, erA l b), (4, .ptr (some ⟨b4, 0, none⟩)), (5, .int .i64 0), (6, .str v), (7, .bool neg)] ∧ H2 = H.set b4 (.box 32 (EntN.cs EntN.zero))) ⟨_, _, hin, by have := acQ yC (acA l (qV yC s)).1.length (acA l (qV yC s)).1; have := aqE l (qV yC s); omega, rfl, rfl⟩ (zA rfl (zA rfl (zA rfl (zA rfl (yH rfl (by rfl) zL))))) (Heap.le.refl _)
 ·rintro _ _ ⟨v, neg, hin, hvl, rfl, rfl⟩
  have hh4 := hb4
  refine .sr (.s rfl (zT Tryz.zeroValue32 (zr32)) ?_)
  rintro _ _ ⟨b9, hb9, rfl, hH⟩
  obtain rfl := hH.symm
  have hn4_9 := Heap.ne_of (Heap.objs_set_same _ _ _) hb9
  refine .ng (.seq ?_)
  have h4b : b4 ≠ b := by intro q; rw [← q, hb4] at hb; cases hb
  have hb90 : H.objs b9 = none := by have q := hb9; rw [Heap.objs_set_ne _ _ hn4_9.symm] at q; exact q
  have h9b : b9 ≠ b := by intro q; rw [← q, hb90] at hb; cases hb
  have hal := amtP_len l v
  have hsh := amtP_sh l v
  refine .region (.mv rfl rfl (.mv rfl rfl (.s rfl (zP Tryz.call33 (evs3 rfl rfl rfl) (asD l hk hg b v hvl EntN.zero ⟨rfl, rfl⟩ rfl b9 _ (Heap.objs_set_same _ _ _))) ?_)))
  rintro _ _ ⟨p, o1, rfl, rfl, hp⟩
  rw [Heap.set_set]
  refine .mv rfl rfl (.p rfl (zD (tm rfl) rfl) (.p rfl (zD (tm rfl) rfl) (.s rfl (zT Tryz.zeroValue75 (zr75)) ?_)))
  rintro _ _ ⟨b10, hb10, rfl, hH⟩
  obtain rfl := hH.symm
  have hn4_10 := Heap.ne_of (Heap.objs_set_same _ _ _) hb10
  have hn9_10 := Heap.ne_of (Heap.objs_set_same _ _ _) hb10
  refine .e0 (zH Tryz.sizeOf75 (tm rfl) (tm rfl) rfl rfl (.inr ⟨_, rfl⟩) (Heap.objs_set_same _ _ _) (Nat.le_of_ble_eq_true rfl)) ?_
  try first | rw [Heap.set_set] | rw [Heap.set_under (by assumption)]
  refine .as rfl rfl (.ng ?_)
  refine AWP.frz (t := 10) rfl (hb10) ?_
  refine .seq (.sr (.mv rfl rfl (.p rfl (qY (tm rfl)) (.ng ?_))))
  refine AWP.cond (tm rfl) (fun hc51 => ?_) (fun hc51 => ?_)
  ·try simp only [Bool.not_eq_true'] at hc51
   have hnn : alH l (acP l v).2.1 = none := by simpa using hc51
   refine .sr (.p rfl (yN [(0, 1), (1, 1), (2, 1), (3, 1), (4, 1)] Tryz.underlying32 Tryz.zeroValue32 (zr32) rfl (pl32 _ Tryz.underlying32) .nil rfl) (.e0 (zH Tryz.sizeOf32 (tm rfl) (tm rfl) rfl rfl (.inr ⟨_, rfl⟩) ((Heap.objs_set_ne _ _ (by assumption)).trans (Heap.objs_set_same _ _ _)) (Nat.le_of_ble_eq_true rfl)) ?_))
   try first | rw [Heap.set_set] | rw [Heap.set_under (by assumption)]
   refine .p rfl (zB zE) (.ng ?_)
   refine AWP.dropb (Heap.fresh_set hb9 _) ?_
   refine AWP.frz (t := 4) rfl hb4 ?_
   refine .ret ?_
   refine Next.rt ?_
   refine Ret.go (.cons (.cellI _ _ _ _ rfl Tryz.isAgg32 Tryz.sizeOf32 rfl) (.cons (.tmp _ _ rfl) .nil)) _ (Heap.le.refl _) ?_
   refine ⟨?_, f, hf, (Heap.set_self hb).symm⟩
   unfold aaL
   rw [hin]
   show _ = AV.tuple [.agg (apK l v neg).1.cs, .int .i64 (apK l v neg).2]
   have hfp : apK l v neg = (EntN.zero, 3) := by
    unfold apK
    rw [hnn]
   rw [hfp]; rfl
  ·try simp only [Bool.not_eq_false'] at hc51
   obtain ⟨⟨d, e, k, gr, x⟩, hnn⟩ := Option.isSome_iff_exists.1 (show (alH l (acP l v).2.1).isSome = true by simpa using hc51)
   obtain ⟨rfl, rfl⟩ := hp _ hnn
   obtain ⟨hdd, hdl, he2, he3⟩ := bdM hnn
   refine .skip ?_
   refine Next.go ?_
   refine .sr (.mv rfl rfl (.p rfl (zG Tryz.underlying75 rfl Tryz.sizeOf9 (tm rfl)) (.p rfl (zF Tryz.isAgg9 (tm rfl)) (.p rfl (zG Tryz.underlying75 rfl Tryz.sizeOf3 (tm rfl)) (.p rfl (zF Tryz.isAgg3 (tm rfl)) (.cl rfl Tryz.call34 (evs3 rfl rfl rfl) (aiR neg d (e + (acP l v).2.2) hdd (by omega) (by constructor <;> omega) _) (.mv rfl rfl (.p rfl (zD (tm rfl) rfl) ?_))))))))
   refine .p rfl (zD (tm rfl) rfl) (.s rfl (zT Tryz.zeroValue48 (zr48)) ?_)
   rintro _ _ ⟨b12, hb12, rfl, hH⟩
   obtain rfl := hH.symm
   have hn4_12 := Heap.ne_of (Heap.objs_set_same _ _ _) hb12
   have hn9_12 := Heap.ne_of (Heap.objs_set_same _ _ _) hb12
   refine .e0 (zH Tryz.sizeOf48 (tm rfl) (tm rfl) rfl rfl (.inr ⟨_, rfl⟩) (Heap.objs_set_same _ _ _) (Nat.le_of_ble_eq_true rfl)) ?_
   try first | rw [Heap.set_set] | rw [Heap.set_under (by assumption)]
   refine .as rfl rfl (.ng ?_)
   refine AWP.frz (t := 12) rfl (hb12) ?_
   refine .seq (.sr (.mv rfl rfl (.p rfl (aaO (tm rfl) zE) (.ng ?_))))
   refine AWP.cond (tm rfl) (fun hc63 => ?_) (fun hc63 => ?_)
   ·try simp only [decide_eq_true_eq, ne_eq] at hc63
    have hm0 : (mkN neg d (e + (acP l v).2.2)).2 ≠ 0 := by simpa using hc63
    refine .sr (.p rfl (yN [(0, 1), (1, 1), (2, 1), (3, 1), (4, 1)] Tryz.underlying32 Tryz.zeroValue32 (zr32) rfl (pl32 _ Tryz.underlying32) .nil rfl) (.e0 (zH Tryz.sizeOf32 (tm rfl) (tm rfl) rfl rfl (.inr ⟨_, rfl⟩) ((Heap.objs_set_ne _ _ (by assumption)).trans (Heap.objs_set_same _ _ _)) (Nat.le_of_ble_eq_true rfl)) ?_))
    try first | rw [Heap.set_set] | rw [Heap.set_under (by assumption)]
    refine .p rfl (zB zE) (.ng ?_)
    refine AWP.dropb (Heap.fresh_set hb9 _) ?_
    refine AWP.frz (t := 4) rfl hb4 ?_
    refine .ret ?_
    refine Next.rt ?_
    refine Ret.go (.cons (.cellI _ _ _ _ rfl Tryz.isAgg32 Tryz.sizeOf32 rfl) (.cons (.tmp _ _ rfl) .nil)) _ (Heap.le.refl _) ?_
    refine ⟨?_, f, hf, (Heap.set_self hb).symm⟩
    unfold aaL
    rw [hin]
    show _ = AV.tuple [.agg (apK l v neg).1.cs, .int .i64 (apK l v neg).2]
    have hfp : apK l v neg = (EntN.zero, 2) := by
     unfold apK
     rw [hnn]
     simp only
     rw [if_pos hm0]
    rw [hfp]; rfl
   ·try simp only [decide_eq_false_iff_not, ne_eq, Decidable.not_not] at hc63
    have hm0 : ¬ (mkN neg d (e + (acP l v).2.2)).2 ≠ 0 := by simpa using hc63
    refine .skip ?_
    refine Next.go ?_
    refine .seq (.seq ?_)
    refine AWP.draw [(0, true), (1, true), (2, true), (3, true), (4, true), (5, false), (6, true), (7, true), (8, true), (9, true), (10, false)] rfl (by decide +kernel) ?_
    refine .p rfl rfl (zC (tm rfl)) (.p rfl rfl (qI (tm rfl)) (.p rfl rfl (zG Tryz.underlying68 rfl Tryz.sizeOf65 (tm rfl)) (.p rfl rfl (zF Tryz.isAgg65 (tm rfl)) (.p rfl rfl (zU Tryz.isAgg48 Tryz.sizeOf48 (tm rfl) (Nat.le_of_ble_eq_true rfl)) ?_))))
    refine .s rfl rfl (zP Tryz.call35 (evs2 rfl rfl) (atM f hf (mkN neg d (e + (acP l v).2.2)).1.1 (mkN neg d (e + (acP l v).2.2)).1.2.1 (mkN neg d (e + (acP l v).2.2)).1.2.2 (aoZ hdd) b _ ((Heap.objs_set_ne _ _ h9b.symm).trans ((Heap.objs_set_ne _ _ h4b.symm).trans hb)))) ?_
    rintro _ _ ⟨rfl, f1, hf1, rfl⟩
    rw [Heap.set_comm h9b, Heap.set_comm h4b]
    refine .p rfl rfl (zC (tm rfl)) (.p rfl rfl (zD (tm rfl) rfl) (.p rfl rfl (zD (tm rfl) rfl) (.p rfl rfl (yB Tryz.underlying32 rfl Tryz.sizeOf30 (tm rfl)) (.s0 rfl (zH Tryz.sizeOf30 (tm rfl) (tm rfl) rfl rfl (.inl rfl) (Heap.objs_set_same _ _ _) (Nat.le_of_ble_eq_true rfl)) ?_))))
    rintro _ _ ⟨rfl, hH⟩
    obtain rfl := hH.symm
    try first | rw [Heap.set_set] | rw [Heap.set_under (by assumption)]
    refine .nil ?_
    refine Next.go ?_
    refine .sr (.p rfl (yB Tryz.underlying32 rfl Tryz.sizeOf30 (tm rfl)) (.e rfl (yO Tryz.isAgg30 (tm rfl) (Heap.objs_set_same _ _ _) rfl) (.cl rfl Tryz.call36 (evs1 rfl) (afY (qU (mkN neg d (e + (acP l v).2.2)).1.1 (mkN neg d (e + (acP l v).2.2)).1.2.1 (mkN neg d (e + (acP l v).2.2)).1.2.2) (bitsN_lt _ _ _) _) (.p rfl (yA (tm rfl) zE) (.ng ?_)))))
    refine AWP.cond (tm rfl) (fun hc78 => ?_) (fun hc78 => ?_)
    ·try simp only [decide_eq_true_eq] at hc78
     have hk3 : yY (qU (mkN neg d (e + (acP l v).2.2)).1.1 (mkN neg d (e + (acP l v).2.2)).1.2.1 (mkN neg d (e + (acP l v).2.2)).1.2.2) = 3 := by omega
     refine .sr (.p rfl (yN [(0, 1), (1, 1), (2, 1), (3, 1), (4, 1)] Tryz.underlying32 Tryz.zeroValue32 (zr32) rfl (pl32 _ Tryz.underlying32) .nil rfl) (.e0 (zH Tryz.sizeOf32 (tm rfl) (tm rfl) rfl rfl (.inr ⟨_, rfl⟩) ((Heap.objs_set_ne _ _ (by assumption)).trans (Heap.objs_set_same _ _ _)) (Nat.le_of_ble_eq_true rfl)) ?_))
     try first | rw [Heap.set_set] | rw [Heap.set_under (by assumption)]
     refine .p rfl (zB zE) (.ng ?_)
     refine AWP.dropb ((Heap.objs_set_ne _ _ hn4_9.symm).trans ((Heap.objs_set_ne _ _ h9b).trans hb90)) ?_
     refine AWP.frz (t := 4) rfl ((Heap.objs_set_ne _ _ h4b).trans hb4) ?_
     refine .ret ?_
     refine Next.rt ?_
     refine Ret.go (.cons (.cellI _ _ _ _ rfl Tryz.isAgg32 Tryz.sizeOf32 rfl) (.cons (.tmp _ _ rfl) .nil)) _ (Heap.le.refl _) ?_
     refine ⟨?_, f1, hf1, rfl⟩
     unfold aaL
     rw [hin]
     show _ = AV.tuple [.agg (apK l v neg).1.cs, .int .i64 (apK l v neg).2]
     have hfp : apK l v neg = (EntN.zero, 2) := by
      unfold apK
      rw [hnn]
      simp only
      rw [if_neg hm0, if_pos hk3]
     rw [hfp]; rfl
    ·try simp only [decide_eq_false_iff_not] at hc78
     have hk3 : ¬ yY (qU (mkN neg d (e + (acP l v).2.2)).1.1 (mkN neg d (e + (acP l v).2.2)).1.2.1 (mkN neg d (e + (acP l v).2.2)).1.2.2) = 3 := by omega
     refine .skip ?_
     refine Next.go ?_
     refine .sr (.e rfl (yG Tryz.isAgg32 Tryz.sizeOf32 (tm rfl) (Heap.objs_set_same _ _ _) (Nat.le_of_ble_eq_true rfl)) (.e0 (zH Tryz.sizeOf32 (tm rfl) (tm rfl) rfl rfl (.inr ⟨_, rfl⟩) ((Heap.objs_set_ne _ _ (by assumption)).trans (Heap.objs_set_same _ _ _)) (Nat.le_of_ble_eq_true rfl)) ?_))
     try first | rw [Heap.set_set] | rw [Heap.set_under (by assumption)]
     refine .p rfl (zB zE) (.ng ?_)
     refine AWP.dropb ((Heap.objs_set_ne _ _ hn4_9.symm).trans ((Heap.objs_set_ne _ _ h9b).trans hb90)) ?_
     refine AWP.frz (t := 4) rfl ((Heap.objs_set_ne _ _ h4b).trans hb4) ?_
     refine .ret ?_
     refine Ret.go (.cons (.cellI _ _ _ _ rfl Tryz.isAgg32 Tryz.sizeOf32 rfl) (.cons (.tmp _ _ rfl) .nil)) _ (Heap.le.refl _) ?_
     refine ⟨?_, f1, hf1, rfl⟩
     unfold aaL
     rw [hin]
     show _ = AV.tuple [.agg (apK l v neg).1.cs, .int .i64 (apK l v neg).2]
     have hfp : apK l v neg = (⟨(qU (mkN neg d (e + (acP l v).2.2)).1.1 (mkN neg d (e + (acP l v).2.2)).1.2.1 (mkN neg d (e + (acP l v).2.2)).1.2.2), (acP l v).1, k, gr, x⟩, 0) := by
      unfold apK
      rw [hnn]
      simp only
      rw [if_neg hm0, if_neg hk3]
     rw [hfp]; rfl
def EntN.vals (o : EntN) : List Value := [.int .u64 o.bits, .int .i64 o.kind, .int .i64 o.places, .bool o.grouped, .bool o.exp]
theorem eqIn5 (d : Nat) (o q : EntN) (w : World) : (Op.equalIn (d + 2) 32 (.agg #[.int .u64 o.bits, .int .i64 o.kind, .int .i64 o.places, .bool o.grouped, .bool o.exp]) (.agg #[.int .u64 q.bits, .int .i64 q.kind, .int .i64 q.places, .bool q.grouped, .bool q.exp])).run Tryz.prog w = .ok (decide (((o.bits : Int) = q.bits ∧ o.kind = q.kind ∧ o.places = q.places ∧ o.grouped = q.grouped ∧ o.exp = q.exp))) w := by
 have u1 := Tryz.underlying30
 have a1 := Tryz.isAgg30
 have z1 := Tryz.sizeOf30
 have u2 := Tryz.underlying3
 have a2 := Tryz.isAgg3
 have z2 := Tryz.sizeOf3
 have u3 := Tryz.underlying4
 have a3 := Tryz.isAgg4
 have z3 := Tryz.sizeOf4
 have hS : Tryz.prog.underlying 32 = some (.struct (Tryz.prog.fieldsOf 32)) := by kernel_rfl
 have hp : Tryz.prog.stoodInHeld 32 = false := by kernel_rfl
 rw [run_equalIn_agg w (d + 1) 32 _ _ hS hp]
 simp only [Program.fieldsOf, Tryz.underlying32]
 go_simp
 by_cases h1 : (o.bits : Int) = q.bits <;> by_cases h2 : o.kind = q.kind <;> by_cases h3 : o.places = q.places <;> by_cases h4 : o.grouped = q.grouped <;> by_cases h5 : o.exp = q.exp <;> simp [h1, h2, h3, h4, h5]
theorem eq5 (o q : EntN) : apU Tryz.prog 32 o.cs q.cs (decide (((o.bits : Int) = q.bits ∧ o.kind = q.kind ∧ o.places = q.places ∧ o.grouped = q.grouped ∧ o.exp = q.exp))) := fun g xs ys w h k => by
 rw [h.plain o.vals rfl, k.plain q.vals rfl]; exact eqIn5 9998 o q w
theorem azQ {x : Nat} (h : x < ajF) : yY x ≤ 2 := by
 unfold ajF at h
 unfold yY
 repeat' split
 all_goals omega
theorem bbO : ∀ i : Fin 23, yY (tenB i.1) ≤ 2 := by decide +kernel
theorem awF {p q : Nat} (hp : p ≤ 2) (hq : q ≤ 2) : azE (ahM p) (ahM q) ≠ 1 ∧ azE (ahM p) (ahM q) ≠ 5 := by
 rcases (by omega : p = 0 ∨ p = 1 ∨ p = 2) with rfl | rfl | rfl <;> rcases (by omega : q = 0 ∨ q = 1 ∨ q = 2) with rfl | rfl | rfl <;> decide
theorem fmul_fin {a b : Nat} (ha : a < 9223372036854775808) (hb : b < 9223372036854775808) (hka : yY a ≤ 2) (hkb : yY b ≤ 2) : agR a b ≤ ajF := by
 have hn : alI a b = false := by
  unfold alI
  refine decide_eq_false ?_
  rw [Nat.div_eq_of_lt (show a < 2 ^ 63 from ha), Nat.div_eq_of_lt (show b < 2 ^ 63 from hb)]
  simp
 unfold agR
 rw [if_neg (awF hka hkb).1, if_neg (awF hka hkb).2, hn]
 exact abL _ _ _
theorem beN {m : Nat} (hm : m < 10 ^ 15) : yY (yM false m 0 false) ≤ 2 := by
 refine azQ ?_
 rcases Nat.eq_zero_or_pos m with h | h
 ·subst h; decide +kernel
 ·have h1 := aeA (n1 := m) (n2 := 10 ^ 15) (e := 0) (m1 := false) (m2 := false) (by decide) (by decide) h (.inl hm)
  have h2 : yM false (10 ^ 15) 0 false < ajF := by decide +kernel
  exact Nat.lt_of_le_of_lt h1 h2
theorem aqD {ds : List UInt8} (hd : Digs ds) (e : Int) : afB ds e ≤ ajF := by
 have hs : akC (num ds) e ≤ ajF := by
  unfold akC aqR
  split <;> exact abL _ _ _
 unfold afB
 split
 ·exact Nat.zero_le _
 ·split
  ·exact Nat.le_refl _
  ·split
   ·split
    ·rename_i h
     have hm : num ds < 10 ^ 15 := Nat.lt_of_lt_of_le (aeH hd) (Nat.pow_le_pow_right (by decide) h.1)
     exact fmul_fin (Nat.lt_of_le_of_lt (abL _ _ _) (by decide)) (asQ _) (beN hm) (bbO ⟨e.toNat, by omega⟩)
    ·split
     ·exact abL _ _ _
     ·exact hs
   ·exact hs
theorem aeR : ∀ l ∈ locs, l.grp ≠ [] := by
 intro l hl
 simp only [locs, List.mem_cons, List.not_mem_nil, or_false] at hl
 rcases hl with rfl | rfl | rfl | rfl | rfl | rfl <;> simp
theorem alV (o : EntN) : (!decide (((o.bits : Int) = o.bits ∧ o.kind = o.kind ∧ o.places = o.places ∧ o.grouped = o.grouped ∧ o.exp = o.exp))) = false := by simp
end Go.Proofs.YtfkeflcdadlmdaaGreatDoor
