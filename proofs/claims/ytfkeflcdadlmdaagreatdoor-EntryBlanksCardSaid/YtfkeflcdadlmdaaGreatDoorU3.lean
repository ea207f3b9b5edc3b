/-
  Entries are read.
-/
import Derived.Test.YtfkeflcdadlmdaaGreatDoorSsk
import Derived.Test.YtfkeflcdadlmdaaGreatDoorU2
namespace Go.Proofs.YtfkeflcdadlmdaaGreatDoor
open Go Go.RowKit

def EntN.zero : EntN := ⟨0, 0, 0, false, false⟩
def innerP (l : Loc) (u : List UInt8) : Option (List UInt8 × Bool) :=
 if Lib.hasPrefix u [40] = true then (if Lib.hasSuffix (Lib.trimPrefix u [40]) [41] = true then some (trimD blankP (Lib.trimSuffix (Lib.trimPrefix u [40]) [41]), true) else none)
 else some (trimLD blankP (signP l u).1.length (signP l u).1, (signP l u).2)
def finP (l : Loc) (v : List UInt8) (neg : Bool) : EntN × Int :=
 match numP l (amtP l v).2.1 with
 | none => (EntN.zero, 3)
 | some (d, e, k, gr, x) =>
  if (mkN neg d (e + (amtP l v).2.2)).2 ≠ 0 then (EntN.zero, 2)
  else if kindN (bitsN (mkN neg d (e + (amtP l v).2.2)).1.1 (mkN neg d (e + (amtP l v).2.2)).1.2.1 (mkN neg d (e + (amtP l v).2.2)).1.2.2) = 3 then (EntN.zero, 2)
  else (⟨bitsN (mkN neg d (e + (amtP l v).2.2)).1.1 (mkN neg d (e + (amtP l v).2.2)).1.2.1 (mkN neg d (e + (amtP l v).2.2)).1.2.2, (amtP l v).1, k, gr, x⟩, 0)
def enterU (l : Loc) (u : List UInt8) : EntN × Int := match innerP l u with | none => (EntN.zero, 3) | some (v, neg) => finP l v neg
theorem amB {l : Loc} {s d : List UInt8} {e : Int} {k : Nat} {gr x : Bool} (h : numP l s = some (d, e, k, gr, x)) : Digs d ∧ d.length ≤ 2 * s.length ∧ e ≤ 2000000000 ∧ -1000000000 - (s.length : Int) ≤ e := by
 unfold numP at h
 cases hh : headP l s with
 | none => rw [hh] at h; cases h
 | some q =>
  obtain ⟨t, n, y⟩ := q
  rw [hh] at h
  simp only at h
  cases hb : bodyP l t with
  | none => rw [hb] at h; cases h
  | some q =>
   obtain ⟨d2, k2, g2⟩ := q
   rw [hb] at h
   injection h with h
   injection h with h1 h2
   injection h2 with h2 h3
   subst h1; subst h2
   have a := aiS hh
   have b := auF hb
   exact ⟨b.1, by omega, by omega, by omega⟩
theorem amtP_sh (l : Loc) (s : List UInt8) : -2 ≤ (amtP l s).2.2 ∧ (amtP l s).2.2 ≤ 0 := by
 unfold amtP
 repeat' split
 all_goals simp
theorem arF (neg : Bool) (ds : List UInt8) (e : Int) : bitsN neg ds e < 18446744073709551616 := by
 have := apW ds e
 unfold bitsN signN
 split <;> omega

set_option maxRecDepth 100000 in
theorem ahP (l : Loc) (hk : l.ok) (hg : l.grp ≠ []) (f : Nat → List AV) (hf : ROK f) (s : List UInt8) (hs : s.length ≤ 1000) (b : Nat) (H : Heap) (hb : H.objs b = some (.box 129 (rowsC f))) : ACall Tryz.prog 11 [erA l b, .str s] H (fun y H' => y = .tuple [.agg (enterU l (trimD blankP s)).1.cs, .int .i64 (enterU l (trimD blankP s)).2] ∧ ∃ f', ROK f' ∧ H' = H.set b (.box 129 (rowsC f'))) := by
 have htl := afY blankP s
 refine ACall.of_body Tryz.func11 rfl Tryz.ntmps11 Tryz.results11 rfl ?_
 refine .sr (.s rfl (zO Tryz.zeroValue32 (zr32)) ?_)
 rintro _ _ ⟨b4, hb4, rfl, hH⟩
 obtain rfl := hH.symm
 refine .p rfl (zA zE) ?_
 refine .ng ?_
 refine .seq ?_
 refine .sr (.mv rfl rfl (.p rfl (yE Tryz.underlying9 (tm rfl)) ?_))
 refine .p rfl (yB (tm rfl) zE) ?_
 refine .ng ?_
 refine AWP.cond_false (tm rfl) (by exact decide_eq_false (by omega)) ?_
 refine .skip ?_
 refine Next.go ?_
 refine .sr (.mv rfl rfl (.cl rfl Tryz.call27 (.cons (tm rfl) (.cons (.func _) .nil)) (trimFuncA s _) ?_))
 refine .as rfl rfl (.nr ?_)
 refine .mv rfl rfl (.cl rfl Tryz.call29 (.cons (tm rfl) (.cons (zQ rfl) .nil)) (cutPrefixA _ _ _) ?_)
 refine .mv rfl rfl (.p rfl (zC (tm rfl) rfl) ?_)
 refine .p rfl (zC (tm rfl) rfl) ?_
 refine .as rfl rfl (.as rfl rfl (.ng ?_))
 refine AWP.meet (fun env H2 => ∃ (v : List UInt8) (neg : Bool), innerP l (trimD blankP s) = some (v, neg) ∧ v.length ≤ 1000 ∧ env = [(0, erA l b), (4, .ptr (some ⟨b4, 0, none⟩)), (5, .int .i64 0), (6, .str v), (7, .bool neg)] ∧ H2 = H.set b4 (.box 32 (EntN.cs EntN.zero))) ?_ ?_
 ·refine .sr (.mv rfl rfl (.ng ?_))
  refine AWP.cond (tm rfl) (fun hc25 => ?_) (fun hc25 => ?_)
  ·try simp only [decide_eq_true_eq, decide_eq_false_iff_not, Bool.not_eq_true', Bool.not_eq_false', Int.not_lt, Int.not_le, ne_eq, Decidable.not_not] at hc25
   refine .sr (.p rfl (zA zI) ?_)
   refine .ng ?_
   refine .seq ?_
   refine .sr (.mv rfl rfl (.cl rfl Tryz.call30 (.cons (tm rfl) (.cons (zQ rfl) .nil)) (cutSuffixA _ _ _) ?_))
   refine .mv rfl rfl (.p rfl (zC (tm rfl) rfl) ?_)
   refine .p rfl (zC (tm rfl) rfl) ?_
   refine .as rfl rfl (.as rfl rfl (.nr ?_))
   refine .mv rfl rfl (.p rfl (qU (tm rfl)) ?_)
   refine .ng ?_
   refine AWP.cond (tm rfl) (fun hc32 => ?_) (fun hc32 => ?_)
   ·try simp only [Bool.not_eq_true'] at hc32
    have hin : innerP l (trimD blankP s) = none := by unfold innerP; rw [if_pos hc25, if_neg (by simpa using hc32)]
    refine .sr (.p rfl (yD [(0, 1), (1, 1), (2, 1), (3, 1), (4, 1)] Tryz.underlying32 Tryz.zeroValue32 (zr32) rfl (pl32 _ Tryz.underlying32) .nil rfl) ?_)
    refine .e0 (zH Tryz.sizeOf32 (tm rfl) (tm rfl) rfl rfl (.inr ⟨_, rfl⟩) (Heap.objs_set_same _ _ _) (Nat.le_of_ble_eq_true rfl)) ?_
    try first | rw [Heap.set_set] | rw [Heap.set_under (by assumption)]
    refine .p rfl (zA zE) ?_
    refine .ng ?_
    refine AWP.frz (t := 4) rfl hb4 ?_
    refine .ret ?_
    refine Next.rt ?_
    refine Next.rt ?_
    refine Ret.go (.cons (.cellI _ _ _ _ rfl Tryz.isAgg32 Tryz.sizeOf32 rfl) (.cons (.tmp _ _ rfl) .nil)) _ (Heap.le.refl _) ?_
    refine ⟨?_, f, hf, (Heap.set_self hb).symm⟩
    unfold enterU
    rw [hin]; rfl
   ·try simp only [Bool.not_eq_false'] at hc32
    have hin : innerP l (trimD blankP s) = some (trimD blankP (Lib.trimSuffix (Lib.trimPrefix (trimD blankP s) [40]) [41]), true) := by unfold innerP; rw [if_pos hc25, if_pos (by simpa using hc32)]
    refine .skip ?_
    refine Next.go ?_
    refine .region ?_
    refine .mv rfl rfl (.cl rfl Tryz.call27 (.cons (tm rfl) (.cons (.func _) .nil)) (trimFuncA _ _) ?_)
    refine .as rfl rfl (.ng ?_)
    refine Meets.mk (M := fun env H2 => ∃ (v : List UInt8) (neg : Bool), innerP l (trimD blankP s) = some (v, neg) ∧ v.length ≤ 1000 ∧ env = [(0, erA l b), (4, .ptr (some ⟨b4, 0, none⟩)), (5, .int .i64 0), (6, .str v), (7, .bool neg)] ∧ H2 = H.set b4 (.box 32 (EntN.cs EntN.zero))) ⟨_, true, hin, by have := afY blankP (Lib.trimSuffix (Lib.trimPrefix (trimD blankP s) [40]) [41]); have := aaO (Lib.trimPrefix (trimD blankP s) [40]) [41]; have := abD (trimD blankP s) [40]; omega, rfl, rfl⟩ (zB rfl (zB rfl (zB rfl (zB rfl (yH rfl (by (rw [show Lib.hasPrefix (trimD blankP s) [40] = true from hc25])) zK))))) (Heap.le.refl _)
  ·try simp only [decide_eq_true_eq, decide_eq_false_iff_not, Bool.not_eq_true', Bool.not_eq_false', Int.not_lt, Int.not_le, ne_eq, Decidable.not_not] at hc25
   have hin : innerP l (trimD blankP s) = some (trimLD blankP (signP l (trimD blankP s)).1.length (signP l (trimD blankP s)).1, (signP l (trimD blankP s)).2) := by unfold innerP; rw [if_neg (by simp [hc25])]
   refine .sr (.mv rfl rfl (.mv rfl rfl (.cl rfl Tryz.call31 (evs2 rfl rfl) (ahY l b _ _) ?_)))
   refine .mv rfl rfl (.p rfl (zC (tm rfl) rfl) ?_)
   refine .p rfl (zC (tm rfl) rfl) ?_
   refine .as rfl rfl (.as rfl rfl (.ng ?_))
   refine .region ?_
   refine .mv rfl rfl (.cl rfl Tryz.call32 (.cons (tm rfl) (.cons (.func _) .nil)) (trimLeftFuncA _ _) ?_)
   refine .as rfl rfl (.ng ?_)
   refine Meets.mk (M := fun env H2 => ∃ (v : List UInt8) (neg : Bool), innerP l (trimD blankP s) = some (v, neg) ∧ v.length ≤ 1000 ∧ env = [(0, erA l b), (4, .ptr (some ⟨b4, 0, none⟩)), (5, .int .i64 0), (6, .str v), (7, .bool neg)] ∧ H2 = H.set b4 (.box 32 (EntN.cs EntN.zero))) ⟨_, _, hin, by have := aaI blankP (signP l (trimD blankP s)).1.length (signP l (trimD blankP s)).1; have := alE l (trimD blankP s); omega, rfl, rfl⟩ (zB rfl (zB rfl (zB rfl (zB rfl (yH rfl (by rfl) zK))))) (Heap.le.refl _)
 ·rintro _ _ ⟨v, neg, hin, hvl, rfl, rfl⟩
  have hh4 := hb4
  refine .sr (.s rfl (zO Tryz.zeroValue32 (zr32)) ?_)
  rintro _ _ ⟨b9, hb9, rfl, hH⟩
  obtain rfl := hH.symm
  have hn4_9 := Heap.ne_of (Heap.objs_set_same _ _ _) hb9
  refine .ng ?_
  refine .seq ?_
  have h4b : b4 ≠ b := by intro q; rw [← q, hb4] at hb; cases hb
  have hb90 : H.objs b9 = none := by have q := hb9; rw [Heap.objs_set_ne _ _ hn4_9.symm] at q; exact q
  have h9b : b9 ≠ b := by intro q; rw [← q, hb90] at hb; cases hb
  have hal := amtP_len l v
  have hsh := amtP_sh l v
  refine .region ?_
  refine .mv rfl rfl (.mv rfl rfl (.s rfl (zP Tryz.call33 (evs3 rfl rfl rfl) (anF l hk hg b v hvl EntN.zero ⟨rfl, rfl⟩ rfl b9 _ (Heap.objs_set_same _ _ _))) ?_))
  rintro _ _ ⟨p, o1, rfl, rfl, hp⟩
  rw [Heap.set_set]
  refine .mv rfl rfl (.p rfl (zC (tm rfl) rfl) ?_)
  refine .p rfl (zC (tm rfl) rfl) ?_
  refine .s rfl (zO Tryz.zeroValue75 (zr75)) ?_
  rintro _ _ ⟨b10, hb10, rfl, hH⟩
  obtain rfl := hH.symm
  have hn4_10 := Heap.ne_of (Heap.objs_set_same _ _ _) hb10
  have hn9_10 := Heap.ne_of (Heap.objs_set_same _ _ _) hb10
  refine .e0 (zH Tryz.sizeOf75 (tm rfl) (tm rfl) rfl rfl (.inr ⟨_, rfl⟩) (Heap.objs_set_same _ _ _) (Nat.le_of_ble_eq_true rfl)) ?_
  try first | rw [Heap.set_set] | rw [Heap.set_under (by assumption)]
  refine .as rfl rfl (.ng ?_)
  refine AWP.frz (t := 10) rfl (hb10) ?_
  refine .seq ?_
  refine .sr (.mv rfl rfl (.p rfl (qU (tm rfl)) ?_))
  refine .ng ?_
  refine AWP.cond (tm rfl) (fun hc51 => ?_) (fun hc51 => ?_)
  ·try simp only [Bool.not_eq_true'] at hc51
   have hnn : numP l (amtP l v).2.1 = none := by simpa using hc51
   refine .sr (.p rfl (yD [(0, 1), (1, 1), (2, 1), (3, 1), (4, 1)] Tryz.underlying32 Tryz.zeroValue32 (zr32) rfl (pl32 _ Tryz.underlying32) .nil rfl) ?_)
   refine .e0 (zH Tryz.sizeOf32 (tm rfl) (tm rfl) rfl rfl (.inr ⟨_, rfl⟩) ((Heap.objs_set_ne _ _ (by assumption)).trans (Heap.objs_set_same _ _ _)) (Nat.le_of_ble_eq_true rfl)) ?_
   try first | rw [Heap.set_set] | rw [Heap.set_under (by assumption)]
   refine .p rfl (zA zE) ?_
   refine .ng ?_
   refine AWP.dropb (Heap.fresh_set hb9 _) ?_
   refine AWP.frz (t := 4) rfl hb4 ?_
   refine .ret ?_
   refine Next.rt ?_
   refine Ret.go (.cons (.cellI _ _ _ _ rfl Tryz.isAgg32 Tryz.sizeOf32 rfl) (.cons (.tmp _ _ rfl) .nil)) _ (Heap.le.refl _) ?_
   refine ⟨?_, f, hf, (Heap.set_self hb).symm⟩
   unfold enterU
   rw [hin]
   show _ = AV.tuple [.agg (finP l v neg).1.cs, .int .i64 (finP l v neg).2]
   have hfp : finP l v neg = (EntN.zero, 3) := by
    unfold finP
    rw [hnn]
   rw [hfp]; rfl
  ·try simp only [Bool.not_eq_false'] at hc51
   obtain ⟨⟨d, e, k, gr, x⟩, hnn⟩ := Option.isSome_iff_exists.1 (show (numP l (amtP l v).2.1).isSome = true by simpa using hc51)
   obtain ⟨rfl, rfl⟩ := hp _ hnn
   obtain ⟨hdd, hdl, he2, he3⟩ := amB hnn
   refine .skip ?_
   refine Next.go ?_
   refine .sr (.mv rfl rfl (.p rfl (zG Tryz.underlying75 rfl Tryz.sizeOf9 (tm rfl)) ?_))
   refine .p rfl (zF Tryz.isAgg9 (tm rfl)) ?_
   refine .p rfl (zG Tryz.underlying75 rfl Tryz.sizeOf3 (tm rfl)) ?_
   refine .p rfl (zF Tryz.isAgg3 (tm rfl)) ?_
   refine .cl rfl Tryz.call34 (evs3 rfl rfl rfl) (adA neg d (e + (amtP l v).2.2) hdd (by omega) (by constructor <;> omega) _) ?_
   refine .mv rfl rfl (.p rfl (zC (tm rfl) rfl) ?_)
   refine .p rfl (zC (tm rfl) rfl) ?_
   refine .s rfl (zO Tryz.zeroValue48 (zr48)) ?_
   rintro _ _ ⟨b12, hb12, rfl, hH⟩
   obtain rfl := hH.symm
   have hn4_12 := Heap.ne_of (Heap.objs_set_same _ _ _) hb12
   have hn9_12 := Heap.ne_of (Heap.objs_set_same _ _ _) hb12
   refine .e0 (zH Tryz.sizeOf48 (tm rfl) (tm rfl) rfl rfl (.inr ⟨_, rfl⟩) (Heap.objs_set_same _ _ _) (Nat.le_of_ble_eq_true rfl)) ?_
   try first | rw [Heap.set_set] | rw [Heap.set_under (by assumption)]
   refine .as rfl rfl (.ng ?_)
   refine AWP.frz (t := 12) rfl (hb12) ?_
   refine .seq ?_
   refine .sr (.mv rfl rfl (.p rfl (aaD (tm rfl) zE) ?_))
   refine .ng ?_
   refine AWP.cond (tm rfl) (fun hc63 => ?_) (fun hc63 => ?_)
   ·try simp only [decide_eq_true_eq, ne_eq] at hc63
    have hm0 : (mkN neg d (e + (amtP l v).2.2)).2 ≠ 0 := by simpa using hc63
    refine .sr (.p rfl (yD [(0, 1), (1, 1), (2, 1), (3, 1), (4, 1)] Tryz.underlying32 Tryz.zeroValue32 (zr32) rfl (pl32 _ Tryz.underlying32) .nil rfl) ?_)
    refine .e0 (zH Tryz.sizeOf32 (tm rfl) (tm rfl) rfl rfl (.inr ⟨_, rfl⟩) ((Heap.objs_set_ne _ _ (by assumption)).trans (Heap.objs_set_same _ _ _)) (Nat.le_of_ble_eq_true rfl)) ?_
    try first | rw [Heap.set_set] | rw [Heap.set_under (by assumption)]
    refine .p rfl (zA zE) ?_
    refine .ng ?_
    refine AWP.dropb (Heap.fresh_set hb9 _) ?_
    refine AWP.frz (t := 4) rfl hb4 ?_
    refine .ret ?_
    refine Next.rt ?_
    refine Ret.go (.cons (.cellI _ _ _ _ rfl Tryz.isAgg32 Tryz.sizeOf32 rfl) (.cons (.tmp _ _ rfl) .nil)) _ (Heap.le.refl _) ?_
    refine ⟨?_, f, hf, (Heap.set_self hb).symm⟩
    unfold enterU
    rw [hin]
    show _ = AV.tuple [.agg (finP l v neg).1.cs, .int .i64 (finP l v neg).2]
    have hfp : finP l v neg = (EntN.zero, 2) := by
     unfold finP
     rw [hnn]
     simp only
     rw [if_pos hm0]
    rw [hfp]; rfl
   ·try simp only [decide_eq_false_iff_not, ne_eq, Decidable.not_not] at hc63
    have hm0 : ¬ (mkN neg d (e + (amtP l v).2.2)).2 ≠ 0 := by simpa using hc63
    refine .skip ?_
    refine Next.go ?_
    refine .seq ?_
    refine .seq ?_
    refine AWP.draw [(0, true), (1, true), (2, true), (3, true), (4, true), (5, false), (6, true), (7, true), (8, true), (9, true), (10, false)] rfl (by decide +kernel) ?_
    refine .p rfl rfl (zD (tm rfl)) ?_
    refine .p rfl rfl (yP (tm rfl)) ?_
    refine .p rfl rfl (zG Tryz.underlying68 rfl Tryz.sizeOf65 (tm rfl)) ?_
    refine .p rfl rfl (zF Tryz.isAgg65 (tm rfl)) ?_
    refine .p rfl rfl (zU Tryz.isAgg48 Tryz.sizeOf48 (tm rfl) (Nat.le_of_ble_eq_true rfl)) ?_
    refine .s rfl rfl (zP Tryz.call35 (evs2 rfl rfl) (aoF f hf (mkN neg d (e + (amtP l v).2.2)).1.1 (mkN neg d (e + (amtP l v).2.2)).1.2.1 (mkN neg d (e + (amtP l v).2.2)).1.2.2 (afO hdd) b _ ((Heap.objs_set_ne _ _ h9b.symm).trans ((Heap.objs_set_ne _ _ h4b.symm).trans hb)))) ?_
    rintro _ _ ⟨rfl, f1, hf1, rfl⟩
    rw [Heap.set_comm h9b, Heap.set_comm h4b]
    refine .p rfl rfl (zD (tm rfl)) ?_
    refine .p rfl rfl (zC (tm rfl) rfl) ?_
    refine .p rfl rfl (zC (tm rfl) rfl) ?_
    refine .p rfl rfl (zV Tryz.underlying32 rfl Tryz.sizeOf30 (tm rfl)) ?_
    refine .s0 rfl (zH Tryz.sizeOf30 (tm rfl) (tm rfl) rfl rfl (.inl rfl) (Heap.objs_set_same _ _ _) (Nat.le_of_ble_eq_true rfl)) ?_
    rintro _ _ ⟨rfl, hH⟩
    obtain rfl := hH.symm
    try first | rw [Heap.set_set] | rw [Heap.set_under (by assumption)]
    refine .nil ?_
    refine Next.go ?_
    refine .sr (.p rfl (zV Tryz.underlying32 rfl Tryz.sizeOf30 (tm rfl)) ?_)
    refine .e rfl (yO Tryz.isAgg30 (tm rfl) (Heap.objs_set_same _ _ _) rfl) ?_
    refine .cl rfl Tryz.call36 (evs1 rfl) (adB (bitsN (mkN neg d (e + (amtP l v).2.2)).1.1 (mkN neg d (e + (amtP l v).2.2)).1.2.1 (mkN neg d (e + (amtP l v).2.2)).1.2.2) (arF _ _ _) _) ?_
    refine .p rfl (yC (tm rfl) zE) ?_
    refine .ng ?_
    refine AWP.cond (tm rfl) (fun hc78 => ?_) (fun hc78 => ?_)
    ·try simp only [decide_eq_true_eq] at hc78
     have hk3 : kindN (bitsN (mkN neg d (e + (amtP l v).2.2)).1.1 (mkN neg d (e + (amtP l v).2.2)).1.2.1 (mkN neg d (e + (amtP l v).2.2)).1.2.2) = 3 := by omega
     refine .sr (.p rfl (yD [(0, 1), (1, 1), (2, 1), (3, 1), (4, 1)] Tryz.underlying32 Tryz.zeroValue32 (zr32) rfl (pl32 _ Tryz.underlying32) .nil rfl) ?_)
     refine .e0 (zH Tryz.sizeOf32 (tm rfl) (tm rfl) rfl rfl (.inr ⟨_, rfl⟩) ((Heap.objs_set_ne _ _ (by assumption)).trans (Heap.objs_set_same _ _ _)) (Nat.le_of_ble_eq_true rfl)) ?_
     try first | rw [Heap.set_set] | rw [Heap.set_under (by assumption)]
     refine .p rfl (zA zE) ?_
     refine .ng ?_
     refine AWP.dropb ((Heap.objs_set_ne _ _ hn4_9.symm).trans ((Heap.objs_set_ne _ _ h9b).trans hb90)) ?_
     refine AWP.frz (t := 4) rfl ((Heap.objs_set_ne _ _ h4b).trans hb4) ?_
     refine .ret ?_
     refine Next.rt ?_
     refine Ret.go (.cons (.cellI _ _ _ _ rfl Tryz.isAgg32 Tryz.sizeOf32 rfl) (.cons (.tmp _ _ rfl) .nil)) _ (Heap.le.refl _) ?_
     refine ⟨?_, f1, hf1, rfl⟩
     unfold enterU
     rw [hin]
     show _ = AV.tuple [.agg (finP l v neg).1.cs, .int .i64 (finP l v neg).2]
     have hfp : finP l v neg = (EntN.zero, 2) := by
      unfold finP
      rw [hnn]
      simp only
      rw [if_neg hm0, if_pos hk3]
     rw [hfp]; rfl
    ·try simp only [decide_eq_false_iff_not] at hc78
     have hk3 : ¬ kindN (bitsN (mkN neg d (e + (amtP l v).2.2)).1.1 (mkN neg d (e + (amtP l v).2.2)).1.2.1 (mkN neg d (e + (amtP l v).2.2)).1.2.2) = 3 := by omega
     refine .skip ?_
     refine Next.go ?_
     refine .sr (.e rfl (yI Tryz.isAgg32 Tryz.sizeOf32 (tm rfl) (Heap.objs_set_same _ _ _) (Nat.le_of_ble_eq_true rfl)) ?_)
     refine .e0 (zH Tryz.sizeOf32 (tm rfl) (tm rfl) rfl rfl (.inr ⟨_, rfl⟩) ((Heap.objs_set_ne _ _ (by assumption)).trans (Heap.objs_set_same _ _ _)) (Nat.le_of_ble_eq_true rfl)) ?_
     try first | rw [Heap.set_set] | rw [Heap.set_under (by assumption)]
     refine .p rfl (zA zE) ?_
     refine .ng ?_
     refine AWP.dropb ((Heap.objs_set_ne _ _ hn4_9.symm).trans ((Heap.objs_set_ne _ _ h9b).trans hb90)) ?_
     refine AWP.frz (t := 4) rfl ((Heap.objs_set_ne _ _ h4b).trans hb4) ?_
     refine .ret ?_
     refine Ret.go (.cons (.cellI _ _ _ _ rfl Tryz.isAgg32 Tryz.sizeOf32 rfl) (.cons (.tmp _ _ rfl) .nil)) _ (Heap.le.refl _) ?_
     refine ⟨?_, f1, hf1, rfl⟩
     unfold enterU
     rw [hin]
     show _ = AV.tuple [.agg (finP l v neg).1.cs, .int .i64 (finP l v neg).2]
     have hfp : finP l v neg = (⟨(bitsN (mkN neg d (e + (amtP l v).2.2)).1.1 (mkN neg d (e + (amtP l v).2.2)).1.2.1 (mkN neg d (e + (amtP l v).2.2)).1.2.2), (amtP l v).1, k, gr, x⟩, 0) := by
      unfold finP
      rw [hnn]
      simp only
      rw [if_neg hm0, if_neg hk3]
     rw [hfp]; rfl
def EntN.vals (o : EntN) : List Value := [.int .u64 o.bits, .int .i64 o.kind, .int .i64 o.places, .bool o.grouped, .bool o.exp]
theorem eqIn5 (d : Nat) (o q : EntN) (w : World) : (Op.equalIn (d + 2) 32 (.agg #[.int .u64 o.bits, .int .i64 o.kind, .int .i64 o.places, .bool o.grouped, .bool o.exp]) (.agg #[.int .u64 q.bits, .int .i64 q.kind, .int .i64 q.places, .bool q.grouped, .bool q.exp])).run Tryz.prog w = .ok (decide (((o.bits : Int) = q.bits ∧ o.kind = q.kind ∧ o.places = q.places ∧ o.grouped = q.grouped ∧ o.exp = q.exp))) w := by
 have u1 := Tryz.underlying30
 have a1 := Tryz.isAgg30
 have z1 := Tryz.sizeOf30
 have u2 := Tryz.underlying3
 have a2 := Tryz.isAgg3
 have z2 := Tryz.sizeOf3
 have u3 := Tryz.underlying4
 have a3 := Tryz.isAgg4
 have z3 := Tryz.sizeOf4
 have hS : Tryz.prog.underlying 32 = some (.struct (Tryz.prog.fieldsOf 32)) := by kernel_rfl
 have hp : Tryz.prog.stoodInHeld 32 = false := by kernel_rfl
 rw [run_equalIn_agg w (d + 1) 32 _ _ hS hp]
 simp only [Program.fieldsOf, Tryz.underlying32]
 go_simp
 by_cases h1 : (o.bits : Int) = q.bits <;> by_cases h2 : o.kind = q.kind <;> by_cases h3 : o.places = q.places <;> by_cases h4 : o.grouped = q.grouped <;> by_cases h5 : o.exp = q.exp <;> simp [h1, h2, h3, h4, h5]
theorem eq5 (o q : EntN) : EqCells Tryz.prog 32 o.cs q.cs (decide (((o.bits : Int) = q.bits ∧ o.kind = q.kind ∧ o.places = q.places ∧ o.grouped = q.grouped ∧ o.exp = q.exp))) := fun g xs ys w h k => by
 rw [h.plain o.vals rfl, k.plain q.vals rfl]; exact eqIn5 9998 o q w
theorem atD {x : Nat} (h : x < infN) : kindN x ≤ 2 := by
 unfold infN at h
 unfold kindN
 repeat' split
 all_goals omega
theorem awQ {x : Nat} (neg : Bool) (h : x ≤ infN) : kindN (signN neg + x) ≤ 3 := by
 unfold infN at h
 unfold kindN signN
 repeat' split
 all_goals omega
theorem auX : ∀ i : Fin 23, kindN (tenB i.1) ≤ 2 := by decide +kernel
theorem aqN {p q : Nat} (hp : p ≤ 2) (hq : q ≤ 2) : mulsT (kindA p) (kindA q) ≠ 1 ∧ mulsT (kindA p) (kindA q) ≠ 5 := by
 rcases (by omega : p = 0 ∨ p = 1 ∨ p = 2) with rfl | rfl | rfl <;> rcases (by omega : q = 0 ∨ q = 1 ∨ q = 2) with rfl | rfl | rfl <;> decide
theorem fmul_fin {a b : Nat} (ha : a < 9223372036854775808) (hb : b < 9223372036854775808) (hka : kindN a ≤ 2) (hkb : kindN b ≤ 2) : fmulN a b ≤ infN := by
 have hn : mnegB a b = false := by
  unfold mnegB
  refine decide_eq_false ?_
  rw [Nat.div_eq_of_lt (show a < 2 ^ 63 from ha), Nat.div_eq_of_lt (show b < 2 ^ 63 from hb)]
  simp
 unfold fmulN
 rw [if_neg (aqN hka hkb).1, if_neg (aqN hka hkb).2, hn]
 exact aaC _ _ _
theorem axB {m : Nat} (hm : m < 10 ^ 15) : kindN (roundN false m 0 false) ≤ 2 := by
 refine atD ?_
 rcases Nat.eq_zero_or_pos m with h | h
 ·subst h; decide +kernel
 ·have h1 := asB (n1 := m) (n2 := 10 ^ 15) (e := 0) (m1 := false) (m2 := false) (by decide) (by decide) h (.inl hm)
  have h2 : roundN false (10 ^ 15) 0 false < infN := by decide +kernel
  exact Nat.lt_of_le_of_lt h1 h2
theorem avF {ds : List UInt8} (hd : Digs ds) (e : Int) : sizeN ds e ≤ infN := by
 have hs : slowN (num ds) e ≤ infN := by
  unfold slowN ratN
  split <;> exact aaC _ _ _
 unfold sizeN
 split
 ·exact Nat.zero_le _
 ·split
  ·exact Nat.le_refl _
  ·split
   ·split
    ·rename_i h
     have hm : num ds < 10 ^ 15 := Nat.lt_of_lt_of_le (adE hd) (Nat.pow_le_pow_right (by decide) h.1)
     exact fmul_fin (Nat.lt_of_le_of_lt (aaC _ _ _) (by decide)) (anR _) (axB hm) (auX ⟨e.toNat, by omega⟩)
    ·split
     ·exact aaC _ _ _
     ·exact hs
   ·exact hs
theorem ayC (l : Loc) (s : List UInt8) : 0 ≤ (amtP l s).1 ∧ (amtP l s).1 ≤ 2 := by
 unfold amtP
 repeat' split
 all_goals simp
theorem atS (l : Loc) (u : List UInt8) : ((enterU l u).2 ≠ 0 → (enterU l u).1 = EntN.zero) ∧ ((enterU l u).2 = 0 → kindN (enterU l u).1.bits ≤ 2 ∧ (enterU l u).1.bits < 18446744073709551616 ∧ 0 ≤ (enterU l u).1.places ∧ 0 ≤ (enterU l u).1.kind ∧ (enterU l u).1.kind ≤ 2) := by
 unfold enterU
 cases hi : innerP l u with
 | none => exact ⟨fun _ => rfl, fun h => by cases h⟩
 | some q =>
  obtain ⟨v, neg⟩ := q
  simp only
  unfold finP
  cases hn : numP l (amtP l v).2.1 with
  | none => exact ⟨fun _ => rfl, fun h => by cases h⟩
  | some r =>
   obtain ⟨d, e, k, gr, x⟩ := r
   simp only
   split
   ·exact ⟨fun _ => rfl, fun h => by cases h⟩
   ·split
    ·exact ⟨fun _ => rfl, fun h => by cases h⟩
    ·rename_i hk
     have hd := (amB hn).1
     have hr := qS (afO (neg := neg) (e := e + (amtP l v).2.2) hd)
     have h3 := awQ (mkN neg d (e + (amtP l v).2.2)).1.1 (avF hr (mkN neg d (e + (amtP l v).2.2)).1.2.2)
     have ha := ayC l v
     refine ⟨fun h => absurd rfl h, fun _ => ⟨?_, arF _ _ _, Int.natCast_nonneg k, ha.1, ha.2⟩⟩
     show kindN (bitsN _ _ _) ≤ 2
     unfold bitsN at hk ⊢
     omega
theorem locs_grp : ∀ l ∈ locs, l.grp ≠ [] := by
 intro l hl
 simp only [locs, List.mem_cons, List.not_mem_nil, or_false] at hl
 rcases hl with rfl | rfl | rfl | rfl | rfl | rfl <;> simp
theorem ent_not (o : EntN) : (!decide (((o.bits : Int) = o.bits ∧ o.kind = o.kind ∧ o.places = o.places ∧ o.grouped = o.grouped ∧ o.exp = o.exp))) = false := by simp
theorem ent_same (o : EntN) : decide (((o.bits : Int) = o.bits ∧ o.kind = o.kind ∧ o.places = o.places ∧ o.grouped = o.grouped ∧ o.exp = o.exp)) = true := by simp

set_option maxRecDepth 100000 in
theorem apN (hsh : ∀ H, ACall Tryz.prog 8 [] H (fun y H' => y = .bool true ∧ H' = H)) (c : Int) (hc : -9223372036854775808 ≤ c ∧ c ≤ 9223372036854775807) (s : List UInt8) (H : Heap) : ACall Tryz.prog 6 [.int .i64 c, .str s] H (fun y H' => y = .bool true ∧ H' = H) := by
 refine ACall.of_body Tryz.func6 rfl Tryz.ntmps6 Tryz.results6 rfl ?_
 refine .sr (.p rfl (zA zI) ?_)
 refine .nr ?_
 refine .cl rfl Tryz.call8 .nil (hsh _) ?_
 refine .as rfl rfl (.ng ?_)
 refine .seq ?_
 refine .sr (.mv rfl rfl (.p rfl (qU (tm rfl)) ?_))
 refine .mv rfl rfl (.gp rfl rfl rfl (by rfl) (zD (tm rfl)) ?_)
 refine .gp rfl rfl rfl (by rfl) (yE Tryz.underlying9 (tm rfl)) ?_
 refine .gp rfl rfl rfl (by rfl) (yB (tm rfl) zE) ?_
 refine .p rfl (zL (tm rfl) (by rfl) (tm rfl)) ?_
 refine .ng ?_
 refine AWP.cond (tm rfl) (fun hc20 => ?_) (fun hc20 => ?_)
 ·try simp only [decide_eq_true_eq] at hc20
  refine .sr (.mv rfl rfl (.as rfl rfl (.ng ?_)))
  refine .ret ?_
  refine Next.rt ?_
  refine Ret.go (.cons (.tmp _ _ rfl) .nil) _ (Heap.le.refl _) ?_
  exact ⟨rfl, rfl⟩
 ·try simp only [decide_eq_false_iff_not, Int.not_lt] at hc20
  have hs9 : s.length ≤ 900 := by omega
  refine .skip ?_
  refine Next.go ?_
  refine .sr (.mv rfl rfl (.s rfl (zP Tryz.call9 (evs1 rfl) (aoW c hc _)) ?_))
  rintro _ _ ⟨⟨l, hlm, rfl⟩, hH⟩
  obtain rfl := hH.symm
  have hk := locs_ok l hlm
  have hgr := locs_grp l hlm
  refine .mv rfl rfl (.p rfl (zC (tm rfl) rfl) ?_)
  refine .p rfl (zC (tm rfl) rfl) ?_
  refine .s rfl (zO Tryz.zeroValue25 (zr25)) ?_
  rintro _ _ ⟨b6, hb6, rfl, hH⟩
  obtain rfl := hH.symm
  refine .s rfl (zO Tryz.zeroValue27 (zr27)) ?_
  rintro _ _ ⟨b7, hb7, rfl, hH⟩
  obtain rfl := hH.symm
  have hn6_7 := Heap.ne_of (Heap.objs_set_same _ _ _) hb7
  refine .e0 (zH Tryz.sizeOf25 (tm rfl) (tm rfl) rfl rfl (.inr ⟨_, rfl⟩) ((Heap.objs_set_ne _ _ (by assumption)).trans (Heap.objs_set_same _ _ _)) (Nat.le_of_ble_eq_true rfl)) ?_
  try first | rw [Heap.set_set] | rw [Heap.set_under (by assumption)]
  refine .e0 (zH Tryz.sizeOf27 (tm rfl) (tm rfl) rfl rfl (.inr ⟨_, rfl⟩) (Heap.objs_set_same _ _ _) (Nat.le_of_ble_eq_true rfl)) ?_
  try first | rw [Heap.set_set] | rw [Heap.set_under (by assumption)]
  refine .ng ?_
  refine AWP.frz (t := 7) rfl (Heap.fresh_set hb7 _) ?_
  refine AWP.frz (t := 6) rfl (hb6) ?_
  refine .sr (.p rfl (zU Tryz.isAgg25 Tryz.sizeOf25 (tm rfl) (Nat.le_of_ble_eq_true rfl)) ?_)
  refine .s rfl (zP Tryz.call10 (evs1 rfl) (atT l _)) ?_
  rintro _ _ ⟨b, hb0, rfl, rfl⟩
  refine .as rfl rfl (.nr ?_)
  refine .mv rfl rfl (.mv rfl rfl (.s rfl (zP Tryz.call11 (evs2 rfl rfl) (ahP l hk hgr fresh0 axC s (by omega) b _ (Heap.objs_set_same _ _ _))) ?_))
  rintro _ _ ⟨rfl, f1, hf1, rfl⟩
  rw [Heap.set_set]
  refine .mv rfl rfl (.p rfl (zC (tm rfl) rfl) ?_)
  refine .p rfl (zC (tm rfl) rfl) ?_
  refine .s rfl (zO Tryz.zeroValue32 (zr32)) ?_
  rintro _ _ ⟨b9, hb9, rfl, hH⟩
  obtain rfl := hH.symm
  refine .e0 (zH Tryz.sizeOf32 (tm rfl) (tm rfl) rfl rfl (.inr ⟨_, rfl⟩) (Heap.objs_set_same _ _ _) (Nat.le_of_ble_eq_true rfl)) ?_
  try first | rw [Heap.set_set] | rw [Heap.set_under (by assumption)]
  refine .as rfl rfl (.ng ?_)
  refine AWP.frz (t := 9) rfl (hb9) ?_
  refine .sr (.mv rfl rfl (.mv rfl rfl (.p rfl (yG (zQ rfl) (tm rfl) (by rw [zT]; simp only [List.length_cons, List.length_nil]; omega)) ?_)))
  refine .p rfl (yG (tm rfl) (zQ rfl) (by rw [zT]; simp only [List.length_append, List.length_cons, List.length_nil]; omega)) ?_
  refine .s rfl (zP Tryz.call11 (evs2 rfl rfl) (ahP l hk hgr f1 hf1 ([32, 194, 160] ++ s ++ backB) (by simp [backB]; omega) b _ (Heap.objs_set_same _ _ _))) ?_
  rintro _ _ ⟨rfl, g1, hg1, rfl⟩
  rw [Heap.set_set]
  rw [anP]
  have hlaw := atS l (trimD blankP s)
  generalize enterU l (trimD blankP s) = ou at hlaw ⊢
  obtain ⟨o, e⟩ := ou
  have hns := ent_not o
  simp only at hlaw
  refine .mv rfl rfl (.p rfl (zC (tm rfl) rfl) ?_)
  refine .p rfl (zC (tm rfl) rfl) ?_
  refine .s rfl (zO Tryz.zeroValue32 (zr32)) ?_
  rintro _ _ ⟨b11, hb11, rfl, hH⟩
  obtain rfl := hH.symm
  refine .e0 (zH Tryz.sizeOf32 (tm rfl) (tm rfl) rfl rfl (.inr ⟨_, rfl⟩) (Heap.objs_set_same _ _ _) (Nat.le_of_ble_eq_true rfl)) ?_
  try first | rw [Heap.set_set] | rw [Heap.set_under (by assumption)]
  refine .as rfl rfl (.ng ?_)
  refine AWP.frz (t := 11) rfl (hb11) ?_
  refine .seq ?_
  refine .sr (.p rfl (zU Tryz.isAgg32 Tryz.sizeOf32 (tm rfl) (Nat.le_of_ble_eq_true rfl)) ?_)
  refine .p rfl (zU Tryz.isAgg32 Tryz.sizeOf32 (tm rfl) (Nat.le_of_ble_eq_true rfl)) ?_
  refine .p rfl (alU Tryz.eqGuardType32 (tm rfl) (tm rfl) (eq5 _ _)) ?_
  refine .mv rfl rfl (.gp rfl rfl rfl (by assumption) (zD (tm rfl)) ?_)
  refine .gp rfl rfl rfl (by assumption) (zD (tm rfl)) ?_
  refine .gp rfl rfl rfl (by assumption) (aaD (tm rfl) (tm rfl)) ?_
  refine .p rfl (zL (tm rfl) (by assumption) (tm rfl)) ?_
  refine .ng ?_
  refine AWP.cond_false (tm rfl) (by simp) ?_
  refine .skip ?_
  refine Next.go ?_
  refine .seq ?_
  refine .sr (.mv rfl rfl (.p rfl (aaD (tm rfl) zE) ?_))
  refine .ng ?_
  refine AWP.cond (tm rfl) (fun hc52 => ?_) (fun hc52 => ?_)
  ·try simp only [decide_eq_true_eq, ne_eq] at hc52
   have hz := hlaw.1 hc52
   subst hz
   refine .sr (.p rfl (zU Tryz.isAgg32 Tryz.sizeOf32 (tm rfl) (Nat.le_of_ble_eq_true rfl)) ?_)
   refine .p rfl (yD [(0, 1), (1, 1), (2, 1), (3, 1), (4, 1)] Tryz.underlying32 Tryz.zeroValue32 (zr32) rfl (pl32 _ Tryz.underlying32) .nil rfl) ?_
   refine .p rfl (alW Tryz.eqGuardType32 (tm rfl) (tm rfl) (eq5 _ EntN.zero)) ?_
   refine .as rfl rfl (.ng ?_)
   refine .ret ?_
   refine Next.rt ?_
   refine Ret.go (.cons (.tmp _ _ rfl) .nil) H (Heap.le_set hb0 _) ?_
   refine ⟨?_, rfl⟩
   show AV.bool (decide _) = _
   rw [ent_same]
  ·try simp only [decide_eq_false_iff_not, ne_eq, Decidable.not_not] at hc52
   have he0 : e = 0 := by simpa using hc52
   obtain ⟨h1, h2, h3, h4, h5⟩ := hlaw.2 he0
   have hb1 : decide ((kindN o.bits : Int) < 3) = true := decide_eq_true (by omega)
   have hb2 : decide (0 ≤ o.places) = true := decide_eq_true h3
   have hb3 : decide (0 ≤ o.kind) = true := decide_eq_true h4
   have hb4 : decide (o.kind ≤ 2) = true := decide_eq_true h5
   refine .skip ?_
   refine Next.go ?_
   refine .sr (.p rfl (zG Tryz.underlying32 rfl Tryz.sizeOf30 (tm rfl)) ?_)
   refine .p rfl (zF Tryz.isAgg30 (tm rfl)) ?_
   refine .cl rfl Tryz.call16 (evs1 rfl) (aoE o.bits h2 _) ?_
   refine .p rfl (yA (tm rfl) zE) ?_
   refine .mv rfl rfl (.gp rfl rfl rfl (by assumption) (zG Tryz.underlying32 rfl Tryz.sizeOf3 (tm rfl)) ?_)
   refine .gp rfl rfl rfl (by assumption) (zF Tryz.isAgg3 (tm rfl)) ?_
   refine .gp rfl rfl rfl (by assumption) (yW (tm rfl) zE) ?_
   refine .p rfl (zN (tm rfl) (by assumption) (tm rfl)) ?_
   refine .mv rfl rfl (.gp rfl rfl rfl (by assumption) (zG Tryz.underlying32 rfl Tryz.sizeOf3 (tm rfl)) ?_)
   refine .gp rfl rfl rfl (by assumption) (zF Tryz.isAgg3 (tm rfl)) ?_
   refine .gp rfl rfl rfl (by assumption) (yW (tm rfl) zE) ?_
   refine .p rfl (zN (tm rfl) (by assumption) (tm rfl)) ?_
   refine .mv rfl rfl (.gp rfl rfl rfl (by assumption) (zG Tryz.underlying32 rfl Tryz.sizeOf3 (tm rfl)) ?_)
   refine .gp rfl rfl rfl (by assumption) (zF Tryz.isAgg3 (tm rfl)) ?_
   refine .gp rfl rfl rfl (by assumption) (aaK (tm rfl) zE) ?_
   refine .p rfl (zN (tm rfl) (by assumption) (tm rfl)) ?_
   refine .as rfl rfl (.ng ?_)
   refine .ret ?_
   refine Ret.go (.cons (.tmp _ _ rfl) .nil) H (Heap.le_set hb0 _) ?_
   refine ⟨?_, rfl⟩
   show AV.bool (decide _) = _
   rw [hb4]
end Go.Proofs.YtfkeflcdadlmdaaGreatDoor
