import Derived.Test.YtmmgbnolccpjoaaGreatDoorYd
import Derived.Test.YtmmgbnolccpjoaaGreatDoorSsk
import Derived.Test.YtmmgbnolccpjoaaGreatDoorU2
import Derived.Test.YtmmgbnolccpjoaaGreatDoorLgk
namespace Go.Proofs.YtmmgbnolccpjoaaGreatDoor
open Go Go.RowKit

def EntN.zero : EntN := ⟨0, 0, 0, false, false⟩
def afG (l : Loc) (u : List UInt8) : Option (List UInt8 × Bool) :=
 if Lib.hasPrefix u [40] = true then (if Lib.hasSuffix (Lib.trimPrefix u [40]) [41] = true then some (abN yA (Lib.trimSuffix (Lib.trimPrefix u [40]) [41]), true) else none)
 else some (aaD yA (acL l u).1.length (acL l u).1, (acL l u).2)
def aqT (l : Loc) (v : List UInt8) (neg : Bool) : EntN × Int :=
 match aqS l (acA l v).2.1 with
 | none => (EntN.zero, 3)
 | some (d, e, k, gr, x) =>
  if (mkN neg d (e + (acA l v).2.2)).2 ≠ 0 then (EntN.zero, 2)
  else if zY (amI (mkN neg d (e + (acA l v).2.2)).1.1 (mkN neg d (e + (acA l v).2.2)).1.2.1 (mkN neg d (e + (acA l v).2.2)).1.2.2) = 3 then (EntN.zero, 2)
  else (⟨amI (mkN neg d (e + (acA l v).2.2)).1.1 (mkN neg d (e + (acA l v).2.2)).1.2.1 (mkN neg d (e + (acA l v).2.2)).1.2.2, (acA l v).1, k, gr, x⟩, 0)
def abL (l : Loc) (u : List UInt8) : EntN × Int := match afG l u with | none => (EntN.zero, 3) | some (v, neg) => aqT l v neg
theorem asG {l : Loc} {s d : List UInt8} {e : Int} {k : Nat} {gr x : Bool} (h : aqS l s = some (d, e, k, gr, x)) : Digs d ∧ d.length ≤ 2 * s.length ∧ e ≤ 2000000000 ∧ -1000000000 - (s.length : Int) ≤ e := by
 unfold aqS at h
 cases hh : ajM l s with
 | none => rw [hh] at h; cases h
 | some q =>
  obtain ⟨t, n, y⟩ := q
  rw [hh] at h
  simp only at h
  cases hb : amY l t with
  | none => rw [hb] at h; cases h
  | some q =>
   obtain ⟨d2, k2, g2⟩ := q
   rw [hb] at h
   injection h with h
   injection h with h1 h2
   injection h2 with h2 h3
   subst h1; subst h2
   have a := aoD hh
   have b := bbT hb
   exact ⟨b.1, by omega, by omega, by omega⟩
theorem amtP_sh (l : Loc) (s : List UInt8) : -2 ≤ (acA l s).2.2 ∧ (acA l s).2.2 ≤ 0 := by
 unfold acA
 repeat' split
 all_goals simp
theorem ayG (neg : Bool) (ds : List UInt8) (e : Int) : amI neg ds e < 18446744073709551616 := by
 have := awY ds e
 unfold amI abF
 split <;> omega

set_option maxRecDepth 100000 in
theorem amO (l : Loc) (hk : l.ok) (hg : l.grp ≠ []) (f : Nat → List AV) (hf : ROK f) (s : List UInt8) (hs : s.length ≤ 1000) (b : Nat) (H : Heap) (hb : H.objs b = some (.box 189 (qT f))) : ACall Tryz.prog 38 [erA l b, .str s] H (fun y H' => y = .tuple [.agg (abL l (abN yA s)).1.cs, .int .i64 (abL l (abN yA s)).2] ∧ ∃ f', ROK f' ∧ H' = H.set b (.box 189 (qT f'))) := by
 have htl := akF yA s
 refine ACall.of_body Tryz.func38 rfl Tryz.ntmps38 Tryz.results38 rfl ?_
 iterate 2 refine AX ?_
 refine .s rfl (zG Tryz.zeroValue76 (zr76)) ?_
 rintro _ _ ⟨b4, hb4, rfl, hH⟩
 obtain rfl := hH.symm
 iterate 11 refine AX ?_
 refine AWP.cond_false (tm rfl) (by exact decide_eq_false (by omega)) ?_
 iterate 5 refine AX ?_
 refine .cl rfl Tryz.call91 (.cons (tm rfl) (.cons (.func _) .nil)) (trimFuncA s _) ?_
 iterate 6 refine AX ?_
 refine .cl rfl Tryz.call93 (.cons (tm rfl) (.cons (zM rfl) .nil)) (cutPrefixA _ _ _) ?_
 iterate 7 refine AX ?_
 refine AWP.meet (fun env H2 => ∃ (v : List UInt8) (neg : Bool), afG l (abN yA s) = some (v, neg) ∧ v.length ≤ 1000 ∧ env = [(0, erA l b), (4, .ptr (some ⟨b4, 0, none⟩)), (5, .int .i64 0), (6, .str v), (7, .bool neg)] ∧ H2 = H.set b4 (.box 76 (EntN.cs EntN.zero))) ?_ ?_
 ·iterate 5 refine AX ?_
  refine AWP.cx rfl (fun hc25 => ?_) (fun hc25 => ?_)
  ·iterate 9 refine AX ?_
   refine .cl rfl Tryz.call94 (.cons (tm rfl) (.cons (zM rfl) .nil)) (cutSuffixA _ _ _) ?_
   iterate 13 refine AX ?_
   refine AWP.cx rfl (fun hc32 => ?_) (fun hc32 => ?_)
   ·have hin : afG l (abN yA s) = none := by unfold afG; rw [if_pos hc25, if_neg (by simpa using hc32)]
    iterate 2 refine AX ?_
    refine .p rfl (zL [(0, 1), (1, 1), (2, 1), (3, 1), (4, 1)] Tryz.underlying76 Tryz.zeroValue76 (zr76) rfl (pl76 _ Tryz.underlying76) .nil rfl) (.e0 (zB Tryz.sizeOf76 (tm rfl) (tm rfl) rfl rfl (.inr ⟨_, rfl⟩) (Heap.objs_set_same _ _ _) (Nat.le_of_ble_eq_true rfl)) ?_)
    try first | rw [Heap.set_set] | rw [Heap.set_under (by assumption)]
    iterate 3 refine AX ?_
    refine AWP.frz (t := 4) rfl hb4 ?_
    iterate 3 refine AX ?_
    refine Ret.go (.cons (.cellI _ _ _ _ rfl Tryz.isAgg76 Tryz.sizeOf76 rfl) (.cons (.tmp _ _ rfl) .nil)) _ (Heap.le.refl _) ?_
    refine ⟨?_, f, hf, (Heap.set_self hb).symm⟩
    unfold abL
    rw [hin]; rfl
   ·have hin : afG l (abN yA s) = some (abN yA (Lib.trimSuffix (Lib.trimPrefix (abN yA s) [40]) [41]), true) := by unfold afG; rw [if_pos hc25, if_pos (by simpa using hc32)]
    iterate 4 refine AX ?_
    refine .cl rfl Tryz.call91 (.cons (tm rfl) (.cons (.func _) .nil)) (trimFuncA _ _) ?_
    iterate 3 refine AX ?_
    refine Meets.mk (M := fun env H2 => ∃ (v : List UInt8) (neg : Bool), afG l (abN yA s) = some (v, neg) ∧ v.length ≤ 1000 ∧ env = [(0, erA l b), (4, .ptr (some ⟨b4, 0, none⟩)), (5, .int .i64 0), (6, .str v), (7, .bool neg)] ∧ H2 = H.set b4 (.box 76 (EntN.cs EntN.zero))) ⟨_, true, hin, by have := akF yA (Lib.trimSuffix (Lib.trimPrefix (abN yA s) [40]) [41]); have := abS (Lib.trimPrefix (abN yA s) [40]) [41]; have := acU (abN yA s) [40]; omega, rfl, rfl⟩ (zP rfl (zP rfl (zP rfl (zP rfl (zZ rfl (by (rw [show Lib.hasPrefix (abN yA s) [40] = true from hc25])) qM))))) (Heap.le.refl _)
  ·have hin : afG l (abN yA s) = some (aaD yA (acL l (abN yA s)).1.length (acL l (abN yA s)).1, (acL l (abN yA s)).2) := by unfold afG; rw [if_neg (by simp [hc25])]
   iterate 4 refine AX ?_
   refine .cl rfl Tryz.call95 (evs2 rfl rfl) (anI l b _ _) ?_
   iterate 9 refine AX ?_
   refine .cl rfl Tryz.call96 (.cons (tm rfl) (.cons (.func _) .nil)) (trimLeftFuncA _ _) ?_
   iterate 3 refine AX ?_
   refine Meets.mk (M := fun env H2 => ∃ (v : List UInt8) (neg : Bool), afG l (abN yA s) = some (v, neg) ∧ v.length ≤ 1000 ∧ env = [(0, erA l b), (4, .ptr (some ⟨b4, 0, none⟩)), (5, .int .i64 0), (6, .str v), (7, .bool neg)] ∧ H2 = H.set b4 (.box 76 (EntN.cs EntN.zero))) ⟨_, _, hin, by have := acB yA (acL l (abN yA s)).1.length (acL l (abN yA s)).1; have := arE l (abN yA s); omega, rfl, rfl⟩ (zP rfl (zP rfl (zP rfl (zP rfl (zZ rfl (by rfl) qM))))) (Heap.le.refl _)
 ·rintro _ _ ⟨v, neg, hin, hvl, rfl, rfl⟩
  have hh4 := hb4
  iterate 2 refine AX ?_
  refine .s rfl (zG Tryz.zeroValue76 (zr76)) ?_
  rintro _ _ ⟨b9, hb9, rfl, hH⟩
  obtain rfl := hH.symm
  have hn4_9 := Heap.ne_of (Heap.objs_set_same _ _ _) hb9
  iterate 3 refine AX ?_
  have h4b : b4 ≠ b := by intro q; rw [← q, hb4] at hb; cases hb
  have hb90 : H.objs b9 = none := by have q := hb9; rw [Heap.objs_set_ne _ _ hn4_9.symm] at q; exact q
  have h9b : b9 ≠ b := by intro q; rw [← q, hb90] at hb; cases hb
  have hal := amtP_len l v
  have hsh := amtP_sh l v
  iterate 3 refine AX ?_
  refine .s rfl (zC Tryz.call97 (evs3 rfl rfl rfl) (atL l hk hg b v hvl EntN.zero ⟨rfl, rfl⟩ rfl b9 _ (Heap.objs_set_same _ _ _))) ?_
  rintro _ _ ⟨p, o1, rfl, rfl, hp⟩
  rw [Heap.set_set]
  iterate 3 refine AX ?_
  refine .s rfl (zG Tryz.zeroValue130 (zr130)) ?_
  rintro _ _ ⟨b10, hb10, rfl, hH⟩
  obtain rfl := hH.symm
  have hn4_10 := Heap.ne_of (Heap.objs_set_same _ _ _) hb10
  have hn9_10 := Heap.ne_of (Heap.objs_set_same _ _ _) hb10
  refine .e0 (zB Tryz.sizeOf130 (tm rfl) (tm rfl) rfl rfl (.inr ⟨_, rfl⟩) (Heap.objs_set_same _ _ _) (Nat.le_of_ble_eq_true rfl)) ?_
  try first | rw [Heap.set_set] | rw [Heap.set_under (by assumption)]
  iterate 3 refine AX ?_
  refine AWP.frz (t := 10) rfl (hb10) ?_
  iterate 7 refine AX ?_
  refine AWP.cx rfl (fun hc51 => ?_) (fun hc51 => ?_)
  ·have hnn : aqS l (acA l v).2.1 = none := by simpa using hc51
   iterate 2 refine AX ?_
   refine .p rfl (zL [(0, 1), (1, 1), (2, 1), (3, 1), (4, 1)] Tryz.underlying76 Tryz.zeroValue76 (zr76) rfl (pl76 _ Tryz.underlying76) .nil rfl) (.e0 (zB Tryz.sizeOf76 (tm rfl) (tm rfl) rfl rfl (.inr ⟨_, rfl⟩) ((Heap.objs_set_ne _ _ (by assumption)).trans (Heap.objs_set_same _ _ _)) (Nat.le_of_ble_eq_true rfl)) ?_)
   try first | rw [Heap.set_set] | rw [Heap.set_under (by assumption)]
   iterate 3 refine AX ?_
   refine AWP.dropb (Heap.fresh_set hb9 _) ?_
   refine AWP.frz (t := 4) rfl hb4 ?_
   iterate 2 refine AX ?_
   refine Ret.go (.cons (.cellI _ _ _ _ rfl Tryz.isAgg76 Tryz.sizeOf76 rfl) (.cons (.tmp _ _ rfl) .nil)) _ (Heap.le.refl _) ?_
   refine ⟨?_, f, hf, (Heap.set_self hb).symm⟩
   unfold abL
   rw [hin]
   show _ = AV.tuple [.agg (aqT l v neg).1.cs, .int .i64 (aqT l v neg).2]
   have hfp : aqT l v neg = (EntN.zero, 3) := by
    unfold aqT
    rw [hnn]
   rw [hfp]; rfl
  ·obtain ⟨⟨d, e, k, gr, x⟩, hnn⟩ := Option.isSome_iff_exists.1 (show (aqS l (acA l v).2.1).isSome = true by simpa using hc51)
   obtain ⟨rfl, rfl⟩ := hp _ hnn
   obtain ⟨hdd, hdl, he2, he3⟩ := asG hnn
   iterate 5 refine AX ?_
   refine .p rfl (zA Tryz.underlying130 rfl Tryz.sizeOf9 (tm rfl)) ?_
   refine AX ?_
   refine .p rfl (zA Tryz.underlying130 rfl Tryz.sizeOf3 (tm rfl)) ?_
   refine AX ?_
   refine .cl rfl Tryz.call98 (evs3 rfl rfl rfl) (aiT neg d (e + (acA l v).2.2) hdd (by omega) (by constructor <;> omega) _) ?_
   iterate 3 refine AX ?_
   refine .s rfl (zG Tryz.zeroValue58 (zr58)) ?_
   rintro _ _ ⟨b12, hb12, rfl, hH⟩
   obtain rfl := hH.symm
   have hn4_12 := Heap.ne_of (Heap.objs_set_same _ _ _) hb12
   have hn9_12 := Heap.ne_of (Heap.objs_set_same _ _ _) hb12
   refine .e0 (zB Tryz.sizeOf58 (tm rfl) (tm rfl) rfl rfl (.inr ⟨_, rfl⟩) (Heap.objs_set_same _ _ _) (Nat.le_of_ble_eq_true rfl)) ?_
   try first | rw [Heap.set_set] | rw [Heap.set_under (by assumption)]
   iterate 3 refine AX ?_
   refine AWP.frz (t := 12) rfl (hb12) ?_
   iterate 7 refine AX ?_
   refine AWP.cx rfl (fun hc63 => ?_) (fun hc63 => ?_)
   ·have hm0 : (mkN neg d (e + (acA l v).2.2)).2 ≠ 0 := by simpa using hc63
    iterate 2 refine AX ?_
    refine .p rfl (zL [(0, 1), (1, 1), (2, 1), (3, 1), (4, 1)] Tryz.underlying76 Tryz.zeroValue76 (zr76) rfl (pl76 _ Tryz.underlying76) .nil rfl) (.e0 (zB Tryz.sizeOf76 (tm rfl) (tm rfl) rfl rfl (.inr ⟨_, rfl⟩) ((Heap.objs_set_ne _ _ (by assumption)).trans (Heap.objs_set_same _ _ _)) (Nat.le_of_ble_eq_true rfl)) ?_)
    try first | rw [Heap.set_set] | rw [Heap.set_under (by assumption)]
    iterate 3 refine AX ?_
    refine AWP.dropb (Heap.fresh_set hb9 _) ?_
    refine AWP.frz (t := 4) rfl hb4 ?_
    iterate 2 refine AX ?_
    refine Ret.go (.cons (.cellI _ _ _ _ rfl Tryz.isAgg76 Tryz.sizeOf76 rfl) (.cons (.tmp _ _ rfl) .nil)) _ (Heap.le.refl _) ?_
    refine ⟨?_, f, hf, (Heap.set_self hb).symm⟩
    unfold abL
    rw [hin]
    show _ = AV.tuple [.agg (aqT l v neg).1.cs, .int .i64 (aqT l v neg).2]
    have hfp : aqT l v neg = (EntN.zero, 2) := by
     unfold aqT
     rw [hnn]
     simp only
     rw [if_pos hm0]
    rw [hfp]; rfl
   ·have hm0 : ¬ (mkN neg d (e + (acA l v).2.2)).2 ≠ 0 := by simpa using hc63
    iterate 4 refine AX ?_
    refine AWP.draw [(0, true), (1, true), (2, true), (3, true), (4, true), (5, false), (6, true), (7, true), (8, true), (9, true), (10, false)] rfl (by decide +kernel) ?_
    iterate 2 refine AX ?_
    refine .p rfl rfl (zA Tryz.underlying123 rfl Tryz.sizeOf120 (tm rfl)) ?_
    iterate 2 refine AX ?_
    refine .s rfl rfl (zC Tryz.call99 (evs2 rfl rfl) (auV f hf (mkN neg d (e + (acA l v).2.2)).1.1 (mkN neg d (e + (acA l v).2.2)).1.2.1 (mkN neg d (e + (acA l v).2.2)).1.2.2 (ajT hdd) b _ ((Heap.objs_set_ne _ _ h9b.symm).trans ((Heap.objs_set_ne _ _ h4b.symm).trans hb)))) ?_
    rintro _ _ ⟨rfl, f1, hf1, rfl⟩
    rw [Heap.set_comm h9b, Heap.set_comm h4b]
    iterate 3 refine AX ?_
    refine .p rfl rfl (zJ Tryz.underlying76 rfl Tryz.sizeOf22 (tm rfl)) (.s0 rfl (zB Tryz.sizeOf22 (tm rfl) (tm rfl) rfl rfl (.inl rfl) (Heap.objs_set_same _ _ _) (Nat.le_of_ble_eq_true rfl)) ?_)
    rintro _ _ ⟨rfl, hH⟩
    obtain rfl := hH.symm
    try first | rw [Heap.set_set] | rw [Heap.set_under (by assumption)]
    iterate 4 refine AX ?_
    refine .p rfl (zJ Tryz.underlying76 rfl Tryz.sizeOf22 (tm rfl)) (.e rfl (zQ Tryz.isAgg22 (tm rfl) (Heap.objs_set_same _ _ _) rfl) (.cl rfl Tryz.call89 (evs1 rfl) (qC (amI (mkN neg d (e + (acA l v).2.2)).1.1 (mkN neg d (e + (acA l v).2.2)).1.2.1 (mkN neg d (e + (acA l v).2.2)).1.2.2) (ayG _ _ _) _) ?_))
    iterate 3 refine AX ?_
    refine AWP.cx rfl (fun hc78 => ?_) (fun hc78 => ?_)
    ·have hk3 : zY (amI (mkN neg d (e + (acA l v).2.2)).1.1 (mkN neg d (e + (acA l v).2.2)).1.2.1 (mkN neg d (e + (acA l v).2.2)).1.2.2) = 3 := by omega
     iterate 2 refine AX ?_
     refine .p rfl (zL [(0, 1), (1, 1), (2, 1), (3, 1), (4, 1)] Tryz.underlying76 Tryz.zeroValue76 (zr76) rfl (pl76 _ Tryz.underlying76) .nil rfl) (.e0 (zB Tryz.sizeOf76 (tm rfl) (tm rfl) rfl rfl (.inr ⟨_, rfl⟩) ((Heap.objs_set_ne _ _ (by assumption)).trans (Heap.objs_set_same _ _ _)) (Nat.le_of_ble_eq_true rfl)) ?_)
     try first | rw [Heap.set_set] | rw [Heap.set_under (by assumption)]
     iterate 3 refine AX ?_
     refine AWP.dropb ((Heap.objs_set_ne _ _ hn4_9.symm).trans ((Heap.objs_set_ne _ _ h9b).trans hb90)) ?_
     refine AWP.frz (t := 4) rfl ((Heap.objs_set_ne _ _ h4b).trans hb4) ?_
     iterate 2 refine AX ?_
     refine Ret.go (.cons (.cellI _ _ _ _ rfl Tryz.isAgg76 Tryz.sizeOf76 rfl) (.cons (.tmp _ _ rfl) .nil)) _ (Heap.le.refl _) ?_
     refine ⟨?_, f1, hf1, rfl⟩
     unfold abL
     rw [hin]
     show _ = AV.tuple [.agg (aqT l v neg).1.cs, .int .i64 (aqT l v neg).2]
     have hfp : aqT l v neg = (EntN.zero, 2) := by
      unfold aqT
      rw [hnn]
      simp only
      rw [if_neg hm0, if_pos hk3]
     rw [hfp]; rfl
    ·have hk3 : ¬ zY (amI (mkN neg d (e + (acA l v).2.2)).1.1 (mkN neg d (e + (acA l v).2.2)).1.2.1 (mkN neg d (e + (acA l v).2.2)).1.2.2) = 3 := by omega
     iterate 4 refine AX ?_
     refine .e rfl (zV Tryz.isAgg76 Tryz.sizeOf76 (tm rfl) (Heap.objs_set_same _ _ _) (Nat.le_of_ble_eq_true rfl)) (.e0 (zB Tryz.sizeOf76 (tm rfl) (tm rfl) rfl rfl (.inr ⟨_, rfl⟩) ((Heap.objs_set_ne _ _ (by assumption)).trans (Heap.objs_set_same _ _ _)) (Nat.le_of_ble_eq_true rfl)) ?_)
     try first | rw [Heap.set_set] | rw [Heap.set_under (by assumption)]
     iterate 3 refine AX ?_
     refine AWP.dropb ((Heap.objs_set_ne _ _ hn4_9.symm).trans ((Heap.objs_set_ne _ _ h9b).trans hb90)) ?_
     refine AWP.frz (t := 4) rfl ((Heap.objs_set_ne _ _ h4b).trans hb4) ?_
     refine AX ?_
     refine Ret.go (.cons (.cellI _ _ _ _ rfl Tryz.isAgg76 Tryz.sizeOf76 rfl) (.cons (.tmp _ _ rfl) .nil)) _ (Heap.le.refl _) ?_
     refine ⟨?_, f1, hf1, rfl⟩
     unfold abL
     rw [hin]
     show _ = AV.tuple [.agg (aqT l v neg).1.cs, .int .i64 (aqT l v neg).2]
     have hfp : aqT l v neg = (⟨(amI (mkN neg d (e + (acA l v).2.2)).1.1 (mkN neg d (e + (acA l v).2.2)).1.2.1 (mkN neg d (e + (acA l v).2.2)).1.2.2), (acA l v).1, k, gr, x⟩, 0) := by
      unfold aqT
      rw [hnn]
      simp only
      rw [if_neg hm0, if_neg hk3]
     rw [hfp]; rfl
theorem baP {x : Nat} (h : x < alR) : zY x ≤ 2 := by
 unfold alR at h
 unfold zY
 repeat' split
 all_goals omega
theorem bfK {x : Nat} (neg : Bool) (h : x ≤ alR) : zY (abF neg + x) ≤ 3 := by
 unfold alR at h
 unfold zY abF
 repeat' split
 all_goals omega
theorem bcW : ∀ i : Fin 23, zY (tenB i.1) ≤ 2 := by decide +kernel
theorem axQ {p q : Nat} (hp : p ≤ 2) (hq : q ≤ 2) : baI (afX p) (afX q) ≠ 1 ∧ baI (afX p) (afX q) ≠ 5 := by
 rcases (by omega : p = 0 ∨ p = 1 ∨ p = 2) with rfl | rfl | rfl <;> rcases (by omega : q = 0 ∨ q = 1 ∨ q = 2) with rfl | rfl | rfl <;> decide
theorem fmul_fin {a b : Nat} (ha : a < 9223372036854775808) (hb : b < 9223372036854775808) (hka : zY a ≤ 2) (hkb : zY b ≤ 2) : adH a b ≤ alR := by
 have hn : ajL a b = false := by
  unfold ajL
  refine decide_eq_false ?_
  rw [Nat.div_eq_of_lt (show a < 2 ^ 63 from ha), Nat.div_eq_of_lt (show b < 2 ^ 63 from hb)]
  simp
 unfold adH
 rw [if_neg (axQ hka hkb).1, if_neg (axQ hka hkb).2, hn]
 exact abB _ _ _
theorem bfW {m : Nat} (hm : m < 10 ^ 15) : zY (yG false m 0 false) ≤ 2 := by
 refine baP ?_
 rcases Nat.eq_zero_or_pos m with h | h
 ·subst h; decide +kernel
 ·have h1 := azH (n1 := m) (n2 := 10 ^ 15) (e := 0) (m1 := false) (m2 := false) (by decide) (by decide) h (.inl hm)
  have h2 : yG false (10 ^ 15) 0 false < alR := by decide +kernel
  exact Nat.lt_of_le_of_lt h1 h2
theorem bdI {ds : List UInt8} (hd : Digs ds) (e : Int) : ajJ ds e ≤ alR := by
 have hs : aoX (num ds) e ≤ alR := by
  unfold aoX ratN
  split <;> exact abB _ _ _
 unfold ajJ
 split
 ·exact Nat.zero_le _
 ·split
  ·exact Nat.le_refl _
  ·split
   ·split
    ·rename_i h
     have hm : num ds < 10 ^ 15 := Nat.lt_of_lt_of_le (agA hd) (Nat.pow_le_pow_right (by decide) h.1)
     exact fmul_fin (Nat.lt_of_le_of_lt (abB _ _ _) (by decide)) (auF _) (bfW hm) (bcW ⟨e.toNat, by omega⟩)
    ·split
     ·exact abB _ _ _
     ·exact hs
   ·exact hs
theorem bgX (l : Loc) (s : List UInt8) : 0 ≤ (acA l s).1 ∧ (acA l s).1 ≤ 2 := by
 unfold acA
 repeat' split
 all_goals simp
theorem bbD (l : Loc) (u : List UInt8) : ((abL l u).2 ≠ 0 → (abL l u).1 = EntN.zero) ∧ ((abL l u).2 = 0 → zY (abL l u).1.bits ≤ 2 ∧ (abL l u).1.bits < 18446744073709551616 ∧ 0 ≤ (abL l u).1.places ∧ 0 ≤ (abL l u).1.kind ∧ (abL l u).1.kind ≤ 2) := by
 unfold abL
 cases hi : afG l u with
 | none => exact ⟨fun _ => rfl, fun h => by cases h⟩
 | some q =>
  obtain ⟨v, neg⟩ := q
  simp only
  unfold aqT
  cases hn : aqS l (acA l v).2.1 with
  | none => exact ⟨fun _ => rfl, fun h => by cases h⟩
  | some r =>
   obtain ⟨d, e, k, gr, x⟩ := r
   simp only
   split
   ·exact ⟨fun _ => rfl, fun h => by cases h⟩
   ·split
    ·exact ⟨fun _ => rfl, fun h => by cases h⟩
    ·rename_i hk
     have hd := (asG hn).1
     have hr := aaK (ajT (neg := neg) (e := e + (acA l v).2.2) hd)
     have h3 := bfK (mkN neg d (e + (acA l v).2.2)).1.1 (bdI hr (mkN neg d (e + (acA l v).2.2)).1.2.2)
     have ha := bgX l v
     refine ⟨fun h => absurd rfl h, fun _ => ⟨?_, ayG _ _ _, Int.natCast_nonneg k, ha.1, ha.2⟩⟩
     show zY (amI _ _ _) ≤ 2
     unfold amI at hk ⊢
     omega
theorem qI : ∀ l ∈ locs, l.grp ≠ [] := by
 intro l hl
 simp only [locs, List.mem_cons, List.not_mem_nil, or_false] at hl
 rcases hl with rfl | rfl | rfl | rfl | rfl | rfl <;> simp
end Go.Proofs.YtmmgbnolccpjoaaGreatDoor
