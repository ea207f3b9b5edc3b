import Derived.Test.YtmmgbnolccpjoaaGreatDoorYd
import Derived.Test.YtmmgbnolccpjoaaGreatDoorSsk
import Derived.Test.YtmmgbnolccpjoaaGreatDoorV4
import Derived.Test.YtmmgbnolccpjoaaGreatDoorU3
import Derived.Test.YtmmgbnolccpjoaaGreatDoorLgk
import Derived.Test.YtmmgbnolccpjoaaGreatDoorS6
namespace Go.Proofs.YtmmgbnolccpjoaaGreatDoor
open Go Go.RowKit

theorem zr74 : ∀ g, RelCells g [.str [], .str [], .str [], .str [], .str [], .str [], .str [], .bool false, .bool false, .slice 1 [] .full, .ptr none] (Value.cells (Go.Value.agg #[Go.Value.string { data := #[] }, Go.Value.string { data := #[] }, Go.Value.string { data := #[] }, Go.Value.string { data := #[] }, Go.Value.string { data := #[] }, Go.Value.string { data := #[] }, Go.Value.string { data := #[] }, Go.Value.bool false, Go.Value.bool false, Go.Value.slice none 0 0, Go.Value.pointer none])) := fun g => RelL.cells (.cons ((.str [] (Nat.zero_le _))) (.cons ((.str [] (Nat.zero_le _))) (.cons ((.str [] (Nat.zero_le _))) (.cons ((.str [] (Nat.zero_le _))) (.cons ((.str [] (Nat.zero_le _))) (.cons ((.str [] (Nat.zero_le _))) (.cons ((.str [] (Nat.zero_le _))) (.cons (.bool _) (.cons (.bool _) (.cons (.nilSlice _ _) (.cons (.ptr _) .nil)))))))))))
theorem pl74 (fs : Array Field) (hfs : Tryz.prog.underlying 74 = some (.struct fs)) : ∀ (i : Nat) f p, fs[i]? = some f → [(0, 10), (10, 1)][i]? = some p → ∀ w, (sizeOf f.type).run Tryz.prog w = .ok p.2 w := by
 have e := (Option.some.inj (hfs.symm.trans Tryz.underlying74))
 cases e
 intro i f p hf hp w
 match i with
 | 0 => cases hf; cases hp; exact Tryz.sizeOf29 w
 | 1 => cases hf; cases hp; exact Tryz.sizeOf71 w
 | i + 2 => simp at hp

def opA (l : Loc) (b : Nat) : AV := .iptr ((pL l (szA l)).cells ++ [erA l b])

set_option maxRecDepth 100000 in
theorem anD (l : Loc) (H : Heap) : ACall Tryz.prog 11 [pL l (szA l)] H (fun y H' => ∃ b, H.objs b = none ∧ y = opA l b ∧ H' = H.set b (.box 189 (qT aoF))) := by
 refine ACall.of_body Tryz.func11 rfl Tryz.ntmps11 Tryz.results11 rfl ?_
 iterate 2 refine AX ?_
 refine .e rfl (zO (tm rfl) (.inr ⟨_, rfl⟩)) (.p rfl (zD ahM) ?_)
 iterate 3 refine AX ?_
 refine AWP.draw [(0, true), (1, true), (2, false), (3, true), (4, true), (5, true)] rfl (by decide +kernel) ?_
 iterate 2 refine AX ?_
 refine .s rfl rfl (zC Tryz.call37 (evs1 rfl) (bbE l _)) ?_
 rintro _ _ ⟨b, hb0, rfl, rfl⟩
 refine .p rfl rfl (zL [(0, 10), (10, 1)] Tryz.underlying74 Tryz.zeroValue74 (zr74) rfl (pl74 _ Tryz.underlying74) (.cons (tm rfl) (.inr ⟨_, rfl⟩) (.cons (tm rfl) (.inl rfl) .nil)) rfl) ?_
 refine APlan.f rfl rfl (fun _ => zO (tm rfl) (.inr ⟨_, rfl⟩)) ?_
 iterate 4 refine AX ?_
 refine Ret.go (.cons (.tmp _ _ rfl) .nil) _ (Heap.le.refl _) ?_
 exact ⟨b, hb0, rfl, rfl⟩

set_option maxRecDepth 100000 in
theorem qZ (l : Loc) (hk : l.ok) (hg : l.grp ≠ []) (v : Val) (hv : v.bits < 18446744073709551616) (ht : v.text.length ≤ 1000) (f : Nat → List AV) (hf : ROK f) (b : Nat) (H : Heap) (hb : H.objs b = some (.box 189 (qT f))) : ACall Tryz.prog 12 [opA l b, v.av] H (fun y H' => y = .tuple [.int .u64 (((yJ l v).1 : Nat) : Int), .int .i64 (yJ l v).2] ∧ ∃ f', ROK f' ∧ H' = H.set b (.box 189 (qT f'))) := by
 refine ACall.of_body Tryz.func12 rfl Tryz.ntmps12 Tryz.results12 rfl ?_
 iterate 2 refine AX ?_
 refine .e rfl (zO (tm rfl) (.inr ⟨_, rfl⟩)) ?_
 iterate 7 refine AX ?_
 refine .p rfl (zA Tryz.underlying24 rfl Tryz.sizeOf3 (tm rfl)) ?_
 iterate 10 refine AX ?_
 refine AWP.cx rfl (fun hc10 => ?_) (fun hc10 => ?_)
 ·iterate 2 refine AX ?_
  refine .p rfl (zA Tryz.underlying24 rfl Tryz.sizeOf22 (tm rfl)) ?_
  iterate 8 refine AX ?_
  refine Ret.go (.cons (.tmp _ _ rfl) (.cons (.tmp _ _ rfl) .nil)) _ (Heap.le.refl _) ?_
  refine ⟨?_, f, hf, (Heap.set_self hb).symm⟩
  unfold yJ
  rw [if_pos (by omega)]; rfl
 ·iterate 6 refine AX ?_
  refine AWP.cx rfl (fun hc14 => ?_) (fun hc14 => ?_)
  ·iterate 2 refine AX ?_
   refine .p rfl (zA Tryz.underlying24 rfl Tryz.sizeOf4 (tm rfl)) ?_
   iterate 3 refine AX ?_
   refine AWP.cx rfl (fun hc17 => ?_) (fun hc17 => ?_)
   ·iterate 9 refine AX ?_
    refine Ret.go (.cons (.tmp _ _ rfl) (.cons (.tmp _ _ rfl) .nil)) _ (Heap.le.refl _) ?_
    refine ⟨?_, f, hf, (Heap.set_self hb).symm⟩
    unfold yJ
    rw [if_neg (by omega), if_pos ⟨by omega, hc17⟩]; rfl
   ·iterate 4 refine AX ?_
    refine AWP.draw [(0, true), (1, true), (2, true), (3, true)] rfl (by decide +kernel) ?_
    refine .p rfl rfl (zA Tryz.underlying24 rfl Tryz.sizeOf3 (tm rfl)) ?_
    iterate 6 refine AX ?_
    refine Ret.go (.cons (.tmp _ _ rfl) (.cons (.tmp _ _ rfl) .nil)) _ (Heap.le.refl _) ?_
    first
    | (refine ⟨?_, f1, hf1, rfl⟩; unfold yJ; rw [if_neg (by omega), if_neg (by omega), if_pos (by omega), if_pos (by omega)]; rfl)
    | (refine ⟨?_, f1, hf1, rfl⟩; unfold yJ; rw [if_neg (by omega), if_neg (by omega), if_pos (by omega), if_neg (by omega)]; rfl)
    | (refine ⟨?_, f, hf, (Heap.set_self hb).symm⟩; unfold yJ; rw [if_neg (by omega), if_neg (fun q => by rw [hc17] at q; exact absurd q.2 (by decide)), if_neg (by omega)]; rfl)
    | (refine ⟨?_, f, hf, (Heap.set_self hb).symm⟩; unfold yJ; rw [if_neg (by omega), if_neg (fun q => by omega), if_neg (by omega)]; rfl)
  ·iterate 6 refine AX ?_
   refine AWP.cx rfl (fun hc18 => ?_) (fun hc18 => ?_)
   ·refine AX ?_
    refine AWP.drawT (.op 0 true (.op 1 true (.op 2 true (.op 3 true (.op 4 true (.op 5 true (.two 6 (.op 7 true (.op 8 true (.op 9 true (.op 10 false (.op 11 false (.op 12 true .done)))))) 10 (.op 6 false (.op 7 true (.op 8 true (.op 9 true (.op 11 false (.op 12 true .done))))))))))))) rfl (by decide +kernel) ?_
    refine ATree.p rfl rfl (zT (tm rfl)) ?_
    refine ATree.p rfl rfl (aaL (tm rfl)) ?_
    refine ATree.p rfl rfl (zA Tryz.underlying74 rfl Tryz.sizeOf71 (tm rfl)) ?_
    refine ATree.p rfl rfl (aaM Tryz.isAgg71 (tm rfl)) ?_
    refine ATree.p rfl rfl (zA Tryz.underlying24 rfl Tryz.sizeOf9 (tm rfl)) ?_
    refine ATree.p rfl rfl (aaM Tryz.isAgg9 (tm rfl)) ?_
    refine ⟨?_, ?_⟩
    ·refine XTree.s rfl rfl (zC Tryz.call38 (evs2 rfl rfl) (amO l hk hg f hf v.text ht b _ (hb))) ?_
     rintro _ _ ⟨rfl, f1, hf1, rfl⟩
     skip
     refine ATree.p rfl rfl (zT (tm rfl)) ?_
     refine ATree.p rfl rfl (acD (tm rfl) rfl) ?_
     refine ATree.p rfl rfl (acD (tm rfl) rfl) ?_
     refine ATree.s rfl rfl (zG Tryz.zeroValue76 (zr76)) ?_
     rintro _ _ ⟨b6, hb6, rfl, hH⟩
     obtain rfl := hH.symm
     refine ATree.s0 rfl (zB Tryz.sizeOf76 (tm rfl) (tm rfl) rfl rfl (.inr ⟨_, rfl⟩) (Heap.objs_set_same _ _ _) (Nat.le_of_ble_eq_true rfl)) ?_
     rintro _ _ ⟨rfl, hH⟩
     obtain rfl := hH.symm
     try first | rw [Heap.set_set] | rw [Heap.set_under (by assumption)]
     refine ATree.p rfl rfl (zD (tm rfl)) ?_
     refine ATree.nil ?_
     refine AX ?_
     refine AWP.frz (t := 6) rfl (hb6) ?_
     iterate 7 refine AX ?_
     refine AWP.cx rfl (fun hc31 => ?_) (fun hc31 => ?_)
     ·iterate 10 refine AX ?_
      refine Ret.go (.cons (.tmp _ _ rfl) (.cons (.tmp _ _ rfl) .nil)) _ (Heap.le.refl _) ?_
      first
      | (refine ⟨?_, f1, hf1, rfl⟩; unfold yJ; rw [if_neg (by omega), if_neg (by omega), if_pos (by omega), if_pos (by omega)]; rfl)
      | (refine ⟨?_, f1, hf1, rfl⟩; unfold yJ; rw [if_neg (by omega), if_neg (by omega), if_pos (by omega), if_neg (by omega)]; rfl)
      | (refine ⟨?_, f, hf, (Heap.set_self hb).symm⟩; unfold yJ; rw [if_neg (by omega), if_neg (fun q => by rw [hc17] at q; exact absurd q.2 (by decide)), if_neg (by omega)]; rfl)
      | (refine ⟨?_, f, hf, (Heap.set_self hb).symm⟩; unfold yJ; rw [if_neg (by omega), if_neg (fun q => by omega), if_neg (by omega)]; rfl)
     ·iterate 4 refine AX ?_
      refine .p rfl (zA Tryz.underlying76 rfl Tryz.sizeOf22 (tm rfl)) ?_
      iterate 8 refine AX ?_
      refine Ret.go (.cons (.tmp _ _ rfl) (.cons (.tmp _ _ rfl) .nil)) _ (Heap.le.refl _) ?_
      first
      | (refine ⟨?_, f1, hf1, rfl⟩; unfold yJ; rw [if_neg (by omega), if_neg (by omega), if_pos (by omega), if_pos (by omega)]; rfl)
      | (refine ⟨?_, f1, hf1, rfl⟩; unfold yJ; rw [if_neg (by omega), if_neg (by omega), if_pos (by omega), if_neg (by omega)]; rfl)
      | (refine ⟨?_, f, hf, (Heap.set_self hb).symm⟩; unfold yJ; rw [if_neg (by omega), if_neg (fun q => by rw [hc17] at q; exact absurd q.2 (by decide)), if_neg (by omega)]; rfl)
      | (refine ⟨?_, f, hf, (Heap.set_self hb).symm⟩; unfold yJ; rw [if_neg (by omega), if_neg (fun q => by omega), if_neg (by omega)]; rfl)
    ·refine XTree.s rfl rfl (zG Tryz.zeroValue76 (zr76)) ?_
     rintro _ _ ⟨b6, hb6, rfl, hH⟩
     obtain rfl := hH.symm
     refine ATree.s rfl rfl (zC Tryz.call38 (evs2 rfl rfl) (amO l hk hg f hf v.text ht b _ (by exact (Heap.objs_set_ne _ _ (show b ≠ b6 by rintro rfl; rw [hb6] at hb; cases hb)).trans hb))) ?_
     rintro _ _ ⟨rfl, f1, hf1, rfl⟩
     have hn6 : b6 ≠ b := (by rintro rfl; rw [hb6] at hb; cases hb)
     rw [Heap.set_comm hn6]
     replace hb6 : (H.set b (.box 189 (qT f1))).objs b6 = none := (Heap.objs_set_ne _ _ hn6).trans hb6
     refine ATree.p rfl rfl (zT (tm rfl)) ?_
     refine ATree.p rfl rfl (acD (tm rfl) rfl) ?_
     refine ATree.p rfl rfl (acD (tm rfl) rfl) ?_
     refine ATree.s0 rfl (zB Tryz.sizeOf76 (tm rfl) (tm rfl) rfl rfl (.inr ⟨_, rfl⟩) (Heap.objs_set_same _ _ _) (Nat.le_of_ble_eq_true rfl)) ?_
     rintro _ _ ⟨rfl, hH⟩
     obtain rfl := hH.symm
     try first | rw [Heap.set_set] | rw [Heap.set_under (by assumption)]
     refine ATree.p rfl rfl (zD (tm rfl)) ?_
     refine ATree.nil ?_
     refine AX ?_
     refine AWP.frz (t := 6) rfl (hb6) ?_
     iterate 7 refine AX ?_
     refine AWP.cx rfl (fun hc31 => ?_) (fun hc31 => ?_)
     ·iterate 10 refine AX ?_
      refine Ret.go (.cons (.tmp _ _ rfl) (.cons (.tmp _ _ rfl) .nil)) _ (Heap.le.refl _) ?_
      first
      | (refine ⟨?_, f1, hf1, rfl⟩; unfold yJ; rw [if_neg (by omega), if_neg (by omega), if_pos (by omega), if_pos (by omega)]; rfl)
      | (refine ⟨?_, f1, hf1, rfl⟩; unfold yJ; rw [if_neg (by omega), if_neg (by omega), if_pos (by omega), if_neg (by omega)]; rfl)
      | (refine ⟨?_, f, hf, (Heap.set_self hb).symm⟩; unfold yJ; rw [if_neg (by omega), if_neg (fun q => by rw [hc17] at q; exact absurd q.2 (by decide)), if_neg (by omega)]; rfl)
      | (refine ⟨?_, f, hf, (Heap.set_self hb).symm⟩; unfold yJ; rw [if_neg (by omega), if_neg (fun q => by omega), if_neg (by omega)]; rfl)
     ·iterate 4 refine AX ?_
      refine .p rfl (zA Tryz.underlying76 rfl Tryz.sizeOf22 (tm rfl)) ?_
      iterate 8 refine AX ?_
      refine Ret.go (.cons (.tmp _ _ rfl) (.cons (.tmp _ _ rfl) .nil)) _ (Heap.le.refl _) ?_
      first
      | (refine ⟨?_, f1, hf1, rfl⟩; unfold yJ; rw [if_neg (by omega), if_neg (by omega), if_pos (by omega), if_pos (by omega)]; rfl)
      | (refine ⟨?_, f1, hf1, rfl⟩; unfold yJ; rw [if_neg (by omega), if_neg (by omega), if_pos (by omega), if_neg (by omega)]; rfl)
      | (refine ⟨?_, f, hf, (Heap.set_self hb).symm⟩; unfold yJ; rw [if_neg (by omega), if_neg (fun q => by rw [hc17] at q; exact absurd q.2 (by decide)), if_neg (by omega)]; rfl)
      | (refine ⟨?_, f, hf, (Heap.set_self hb).symm⟩; unfold yJ; rw [if_neg (by omega), if_neg (fun q => by omega), if_neg (by omega)]; rfl)
   ·iterate 4 refine AX ?_
    refine AWP.draw [(0, true), (1, true), (2, true), (3, true)] rfl (by decide +kernel) ?_
    refine .p rfl rfl (zA Tryz.underlying24 rfl Tryz.sizeOf3 (tm rfl)) ?_
    iterate 6 refine AX ?_
    refine Ret.go (.cons (.tmp _ _ rfl) (.cons (.tmp _ _ rfl) .nil)) _ (Heap.le.refl _) ?_
    first
    | (refine ⟨?_, f1, hf1, rfl⟩; unfold yJ; rw [if_neg (by omega), if_neg (by omega), if_pos (by omega), if_pos (by omega)]; rfl)
    | (refine ⟨?_, f1, hf1, rfl⟩; unfold yJ; rw [if_neg (by omega), if_neg (by omega), if_pos (by omega), if_neg (by omega)]; rfl)
    | (refine ⟨?_, f, hf, (Heap.set_self hb).symm⟩; unfold yJ; rw [if_neg (by omega), if_neg (fun q => by rw [hc17] at q; exact absurd q.2 (by decide)), if_neg (by omega)]; rfl)
    | (refine ⟨?_, f, hf, (Heap.set_self hb).symm⟩; unfold yJ; rw [if_neg (by omega), if_neg (fun q => by omega), if_neg (by omega)]; rfl)

set_option maxRecDepth 100000 in
theorem afM (p : AV) (v : Val) (hv : v.bits < 18446744073709551616) (ht : v.text.length ≤ 1000) (H : Heap) : ACall Tryz.prog 14 [p, v.av] H (fun y H' => y = .tuple [.bool (acV v).1, .int .i64 (acV v).2] ∧ H' = H) := by
 refine ACall.of_body Tryz.func14 rfl Tryz.ntmps14 Tryz.results14 rfl ?_
 iterate 2 refine AX ?_
 refine .e rfl (zO (tm rfl) (.inr ⟨_, rfl⟩)) ?_
 iterate 7 refine AX ?_
 refine .p rfl (zA Tryz.underlying24 rfl Tryz.sizeOf3 (tm rfl)) ?_
 iterate 10 refine AX ?_
 refine AWP.cx rfl (fun hc8 => ?_) (fun hc8 => ?_)
 ·iterate 2 refine AX ?_
  refine .p rfl (zA Tryz.underlying24 rfl Tryz.sizeOf22 (tm rfl)) ?_
  refine AX ?_
  refine .cl rfl Tryz.call40 (evs1 rfl) (aeU _ (by assumption) _) ?_
  iterate 8 refine AX ?_
  refine Ret.go (.cons (.tmp _ _ rfl) (.cons (.tmp _ _ rfl) .nil)) _ (Heap.le.refl _) ?_
  refine ⟨?_, rfl⟩
  unfold acV
  first
  | (rw [if_pos (by omega)]; rfl)
  | (rw [if_neg (by omega), if_pos (by omega), if_pos (by assumption)]; rfl)
  | (rw [if_neg (by omega), if_pos (by omega), if_neg (by assumption), if_pos (by assumption)]; rfl)
  | (rw [if_neg (by omega), if_pos (by omega), if_neg (by assumption), if_neg (by assumption)]; rfl)
  | (rw [if_neg (by omega), if_pos (by omega)]; rfl)
  | (rw [if_neg (by omega), if_neg (by omega)]; rfl)
 ·iterate 6 refine AX ?_
  refine AWP.cx rfl (fun hc14 => ?_) (fun hc14 => ?_)
  ·iterate 3 refine AX ?_
   refine .p rfl (zA Tryz.underlying24 rfl Tryz.sizeOf9 (tm rfl)) ?_
   refine AX ?_
   refine .cl rfl Tryz.call41 (evs1 rfl) (agD _ (by omega) _) ?_
   iterate 9 refine AX ?_
   refine AWP.cx rfl (fun hc19 => ?_) (fun hc19 => ?_)
   ·iterate 11 refine AX ?_
    refine Ret.go (.cons (.tmp _ _ rfl) (.cons (.tmp _ _ rfl) .nil)) _ (Heap.le.refl _) ?_
    refine ⟨?_, rfl⟩
    unfold acV
    first
    | (rw [if_pos (by omega)]; rfl)
    | (rw [if_neg (by omega), if_pos (by omega), if_pos (by assumption)]; rfl)
    | (rw [if_neg (by omega), if_pos (by omega), if_neg (by assumption), if_pos (by assumption)]; rfl)
    | (rw [if_neg (by omega), if_pos (by omega), if_neg (by assumption), if_neg (by assumption)]; rfl)
    | (rw [if_neg (by omega), if_pos (by omega)]; rfl)
    | (rw [if_neg (by omega), if_neg (by omega)]; rfl)
   ·iterate 6 refine AX ?_
    refine AWP.cx rfl (fun hc21 => ?_) (fun hc21 => ?_)
    ·iterate 11 refine AX ?_
     refine Ret.go (.cons (.tmp _ _ rfl) (.cons (.tmp _ _ rfl) .nil)) _ (Heap.le.refl _) ?_
     refine ⟨?_, rfl⟩
     unfold acV
     first
     | (rw [if_pos (by omega)]; rfl)
     | (rw [if_neg (by omega), if_pos (by omega), if_pos (by assumption)]; rfl)
     | (rw [if_neg (by omega), if_pos (by omega), if_neg (by assumption), if_pos (by assumption)]; rfl)
     | (rw [if_neg (by omega), if_pos (by omega), if_neg (by assumption), if_neg (by assumption)]; rfl)
     | (rw [if_neg (by omega), if_pos (by omega)]; rfl)
     | (rw [if_neg (by omega), if_neg (by omega)]; rfl)
    ·iterate 12 refine AX ?_
     refine Ret.go (.cons (.tmp _ _ rfl) (.cons (.tmp _ _ rfl) .nil)) _ (Heap.le.refl _) ?_
     refine ⟨?_, rfl⟩
     unfold acV
     first
     | (rw [if_pos (by omega)]; rfl)
     | (rw [if_neg (by omega), if_pos (by omega), if_pos (by assumption)]; rfl)
     | (rw [if_neg (by omega), if_pos (by omega), if_neg (by assumption), if_pos (by assumption)]; rfl)
     | (rw [if_neg (by omega), if_pos (by omega), if_neg (by assumption), if_neg (by assumption)]; rfl)
     | (rw [if_neg (by omega), if_pos (by omega)]; rfl)
     | (rw [if_neg (by omega), if_neg (by omega)]; rfl)
  ·iterate 4 refine AX ?_
   refine AWP.draw [(0, true), (1, true), (2, true), (3, true), (4, true), (5, true)] rfl (by decide +kernel) ?_
   refine .p rfl rfl (zA Tryz.underlying24 rfl Tryz.sizeOf4 (tm rfl)) ?_
   refine AX ?_
   refine .p rfl rfl (zA Tryz.underlying24 rfl Tryz.sizeOf3 (tm rfl)) ?_
   iterate 6 refine AX ?_
   refine Ret.go (.cons (.tmp _ _ rfl) (.cons (.tmp _ _ rfl) .nil)) _ (Heap.le.refl _) ?_
   refine ⟨?_, rfl⟩
   unfold acV
   first
   | (rw [if_pos (by omega)]; rfl)
   | (rw [if_neg (by omega), if_pos (by omega), if_pos (by assumption)]; rfl)
   | (rw [if_neg (by omega), if_pos (by omega), if_neg (by assumption), if_pos (by assumption)]; rfl)
   | (rw [if_neg (by omega), if_pos (by omega), if_neg (by assumption), if_neg (by assumption)]; rfl)
   | (rw [if_neg (by omega), if_pos (by omega)]; rfl)
   | (rw [if_neg (by omega), if_neg (by omega)]; rfl)

set_option maxRecDepth 100000 in
theorem ajH (l : Loc) (hk : l.ok) (b : Nat) (v : Val) (hv : v.bits < 18446744073709551616) (ht : v.text.length ≤ 1000) (H : Heap) : ACall Tryz.prog 16 [opA l b, v.av] H (fun y H' => y = .tuple [.str (abP l v).1, .int .i64 (abP l v).2] ∧ H' = H) := by
 refine ACall.of_body Tryz.func16 rfl Tryz.ntmps16 Tryz.results16 rfl ?_
 iterate 2 refine AX ?_
 refine .e rfl (zO (tm rfl) (.inr ⟨_, rfl⟩)) ?_
 iterate 7 refine AX ?_
 refine .p rfl (zA Tryz.underlying24 rfl Tryz.sizeOf3 (tm rfl)) ?_
 iterate 10 refine AX ?_
 refine AWP.cx rfl (fun hc8 => ?_) (fun hc8 => ?_)
 ·refine AX ?_
  refine AWP.draw [(0, true), (1, true), (2, true), (3, true), (4, true), (5, true), (6, false), (7, true), (8, true)] rfl (by decide +kernel) ?_
  refine .p rfl rfl (zA Tryz.underlying24 rfl Tryz.sizeOf22 (tm rfl)) ?_
  iterate 3 refine AX ?_
  refine .p rfl rfl (zA Tryz.underlying74 rfl Tryz.sizeOf29 (tm rfl)) ?_
  refine AX ?_
  refine .s rfl rfl (zC Tryz.call43 (evs2 rfl rfl) (aqQ l hk _ v.bits hv _)) ?_
  rintro _ _ ⟨rfl, hH⟩
  obtain rfl := hH.symm
  iterate 7 refine AX ?_
  refine Ret.go (.cons (.tmp _ _ rfl) (.cons (.tmp _ _ rfl) .nil)) _ (Heap.le.refl _) ?_
  refine ⟨?_, rfl⟩
  unfold abP
  first
  | (rw [if_pos (by omega)]; rfl)
  | (rw [if_neg (by omega), if_pos (by omega), if_pos (by assumption)]; rfl)
  | (rw [if_neg (by omega), if_pos (by omega), if_neg (by assumption), if_pos (by assumption)]; rfl)
  | (rw [if_neg (by omega), if_pos (by omega), if_neg (by assumption), if_neg (by assumption)]; rfl)
  | (rw [if_neg (by omega), if_pos (by omega)]; rfl)
  | (rw [if_neg (by omega), if_neg (by omega)]; rfl)
 ·iterate 6 refine AX ?_
  refine AWP.cx rfl (fun hc17 => ?_) (fun hc17 => ?_)
  ·iterate 2 refine AX ?_
   refine .p rfl (zA Tryz.underlying24 rfl Tryz.sizeOf4 (tm rfl)) ?_
   refine AX ?_
   refine .cl rfl Tryz.call44 (evs1 rfl) (ahV _ _) ?_
   iterate 7 refine AX ?_
   refine Ret.go (.cons (.tmp _ _ rfl) (.cons (.tmp _ _ rfl) .nil)) _ (Heap.le.refl _) ?_
   refine ⟨?_, rfl⟩
   unfold abP
   first
   | (rw [if_pos (by omega)]; rfl)
   | (rw [if_neg (by omega), if_pos (by omega), if_pos (by assumption)]; rfl)
   | (rw [if_neg (by omega), if_pos (by omega), if_neg (by assumption), if_pos (by assumption)]; rfl)
   | (rw [if_neg (by omega), if_pos (by omega), if_neg (by assumption), if_neg (by assumption)]; rfl)
   | (rw [if_neg (by omega), if_pos (by omega)]; rfl)
   | (rw [if_neg (by omega), if_neg (by omega)]; rfl)
  ·iterate 4 refine AX ?_
   refine AWP.draw [(0, true), (1, true), (2, true), (3, true), (4, true), (5, true)] rfl (by decide +kernel) ?_
   refine .p rfl rfl (zA Tryz.underlying24 rfl Tryz.sizeOf9 (tm rfl)) ?_
   refine AX ?_
   refine .p rfl rfl (zA Tryz.underlying24 rfl Tryz.sizeOf3 (tm rfl)) ?_
   iterate 6 refine AX ?_
   refine Ret.go (.cons (.tmp _ _ rfl) (.cons (.tmp _ _ rfl) .nil)) _ (Heap.le.refl _) ?_
   refine ⟨?_, rfl⟩
   unfold abP
   first
   | (rw [if_pos (by omega)]; rfl)
   | (rw [if_neg (by omega), if_pos (by omega), if_pos (by assumption)]; rfl)
   | (rw [if_neg (by omega), if_pos (by omega), if_neg (by assumption), if_pos (by assumption)]; rfl)
   | (rw [if_neg (by omega), if_pos (by omega), if_neg (by assumption), if_neg (by assumption)]; rfl)
   | (rw [if_neg (by omega), if_pos (by omega)]; rfl)
   | (rw [if_neg (by omega), if_neg (by omega)]; rfl)

set_option maxRecDepth 100000 in
theorem baG (x y : Nat) (hx : x < 18446744073709551616) (hy : y < 18446744073709551616) (H : Heap) : ACall Tryz.prog 64 [.int .u64 (x : Int), .int .u64 (y : Int)] H (fun z H' => z = (ahU (afJ x y)).av ∧ H' = H) := by
 have ha := aqD hx hy
 refine ACall.of_body Tryz.func64 rfl Tryz.ntmps64 Tryz.results64 rfl ?_
 iterate 2 refine AX ?_
 refine .s rfl (zG Tryz.zeroValue24 (zr24)) ?_
 rintro _ _ ⟨b4, hb4, rfl, hH⟩
 obtain rfl := hH.symm
 iterate 6 refine AX ?_
 refine .cl rfl Tryz.call131 (evs2 rfl rfl) (aoM _ _ (by assumption) (by assumption) _) (.cl rfl Tryz.call35 (evs1 rfl) (yP _ (by assumption) _) (.e0 (zB Tryz.sizeOf24 (tm rfl) (tm rfl) rfl rfl (.inr ⟨_, rfl⟩) (Heap.objs_set_same _ _ _) (Nat.le_of_ble_eq_true rfl)) ?_))
 try first | rw [Heap.set_set] | rw [Heap.set_under (by assumption)]
 iterate 2 refine AX ?_
 refine AWP.frz (t := 4) rfl (hb4) ?_
 refine AX ?_
 refine Ret.go (.cons (.cellI _ _ _ _ rfl Tryz.isAgg24 Tryz.sizeOf24 rfl) .nil) _ (Heap.le.refl _) ?_
 exact ⟨rfl, rfl⟩

set_option maxRecDepth 100000 in
theorem baZ (a b : Nat) (ha : a < 18446744073709551616) (hb : b < 18446744073709551616) (H : Heap) : ACall Tryz.prog 132 [.int .u64 (a : Int), .int .u64 (b : Int)] H (fun y H' => y = .int .u64 ((afJ a (amV b) : Nat) : Int) ∧ H' = H) := by
 have hn := alV hb
 refine ACall.of_body Tryz.func132 rfl Tryz.ntmps132 Tryz.results132 rfl ?_
 iterate 2 refine AX ?_
 refine .p rfl (zD (zE 0)) ?_
 iterate 6 refine AX ?_
 refine .cl rfl Tryz.call56 (evs1 rfl) (aoK _ (by assumption) _) (.cl rfl Tryz.call131 (evs2 rfl rfl) (aoM _ _ (by assumption) (by assumption) _) ?_)
 iterate 4 refine AX ?_
 refine Ret.go (.cons (.tmp _ _ rfl) .nil) _ (Heap.le.refl _) ?_
 exact ⟨rfl, rfl⟩

set_option maxRecDepth 100000 in
theorem baD (x y : Nat) (hx : x < 18446744073709551616) (hy : y < 18446744073709551616) (H : Heap) : ACall Tryz.prog 65 [.int .u64 (x : Int), .int .u64 (y : Int)] H (fun z H' => z = (ahU (afJ x (amV y))).av ∧ H' = H) := by
 have hn := alV hy
 have ha := aqD hx hn
 refine ACall.of_body Tryz.func65 rfl Tryz.ntmps65 Tryz.results65 rfl ?_
 iterate 2 refine AX ?_
 refine .s rfl (zG Tryz.zeroValue24 (zr24)) ?_
 rintro _ _ ⟨b4, hb4, rfl, hH⟩
 obtain rfl := hH.symm
 iterate 6 refine AX ?_
 refine .cl rfl Tryz.call132 (evs2 rfl rfl) (baZ x y hx hy _) (.cl rfl Tryz.call35 (evs1 rfl) (yP _ (by assumption) _) (.e0 (zB Tryz.sizeOf24 (tm rfl) (tm rfl) rfl rfl (.inr ⟨_, rfl⟩) (Heap.objs_set_same _ _ _) (Nat.le_of_ble_eq_true rfl)) ?_))
 try first | rw [Heap.set_set] | rw [Heap.set_under (by assumption)]
 iterate 2 refine AX ?_
 refine AWP.frz (t := 4) rfl (hb4) ?_
 refine AX ?_
 refine Ret.go (.cons (.cellI _ _ _ _ rfl Tryz.isAgg24 Tryz.sizeOf24 rfl) .nil) _ (Heap.le.refl _) ?_
 exact ⟨rfl, rfl⟩

set_option maxRecDepth 100000 in
theorem baE (x y : Nat) (hx : x < 18446744073709551616) (hy : y < 18446744073709551616) (H : Heap) : ACall Tryz.prog 66 [.int .u64 (x : Int), .int .u64 (y : Int)] H (fun z H' => z = (ahU (adH x y)).av ∧ H' = H) := by
 have ha := ahL x y
 refine ACall.of_body Tryz.func66 rfl Tryz.ntmps66 Tryz.results66 rfl ?_
 iterate 2 refine AX ?_
 refine .s rfl (zG Tryz.zeroValue24 (zr24)) ?_
 rintro _ _ ⟨b4, hb4, rfl, hH⟩
 obtain rfl := hH.symm
 iterate 6 refine AX ?_
 refine .cl rfl Tryz.call133 (evs2 rfl rfl) (aeD _ _ (by assumption) (by assumption) _) (.cl rfl Tryz.call35 (evs1 rfl) (yP _ (by assumption) _) (.e0 (zB Tryz.sizeOf24 (tm rfl) (tm rfl) rfl rfl (.inr ⟨_, rfl⟩) (Heap.objs_set_same _ _ _) (Nat.le_of_ble_eq_true rfl)) ?_))
 try first | rw [Heap.set_set] | rw [Heap.set_under (by assumption)]
 iterate 2 refine AX ?_
 refine AWP.frz (t := 4) rfl (hb4) ?_
 refine AX ?_
 refine Ret.go (.cons (.cellI _ _ _ _ rfl Tryz.isAgg24 Tryz.sizeOf24 rfl) .nil) _ (Heap.le.refl _) ?_
 exact ⟨rfl, rfl⟩

set_option maxRecDepth 100000 in
theorem baF (x y : Nat) (hx : x < 18446744073709551616) (hy : y < 18446744073709551616) (H : Heap) : ACall Tryz.prog 67 [.int .u64 (x : Int), .int .u64 (y : Int)] H (fun z H' => z = (divV x y).av ∧ H' = H) := by
 have ha := alZ x y
 refine ACall.of_body Tryz.func67 rfl Tryz.ntmps67 Tryz.results67 rfl ?_
 iterate 2 refine AX ?_
 refine .s rfl (zG Tryz.zeroValue24 (zr24)) ?_
 rintro _ _ ⟨b4, hb4, rfl, hH⟩
 obtain rfl := hH.symm
 iterate 6 refine AX ?_
 refine .cl rfl Tryz.call40 (evs1 rfl) (aeU _ (by assumption) _) ?_
 iterate 3 refine AX ?_
 refine AWP.cx rfl (fun hc7 => ?_) (fun hc7 => ?_)
 ·iterate 2 refine AX ?_
  refine .cl rfl Tryz.call53 (.cons zI .nil) (yZ _ _) (.e0 (zB Tryz.sizeOf24 (tm rfl) (tm rfl) rfl rfl (.inr ⟨_, rfl⟩) (Heap.objs_set_same _ _ _) (Nat.le_of_ble_eq_true rfl)) ?_)
  try first | rw [Heap.set_set] | rw [Heap.set_under (by assumption)]
  iterate 2 refine AX ?_
  refine AWP.frz (t := 4) rfl (hb4) ?_
  iterate 2 refine AX ?_
  refine Ret.go (.cons (.cellI _ _ _ _ rfl Tryz.isAgg24 Tryz.sizeOf24 rfl) .nil) _ (Heap.le.refl _) ?_
  refine ⟨?_, rfl⟩
  unfold divV
  rw [if_pos (by omega)]
  rfl
 ·iterate 6 refine AX ?_
  refine .cl rfl Tryz.call54 (evs2 rfl rfl) (aeE x y hx hy _) (.cl rfl Tryz.call35 (evs1 rfl) (yP _ (by assumption) _) (.e0 (zB Tryz.sizeOf24 (tm rfl) (tm rfl) rfl rfl (.inr ⟨_, rfl⟩) (Heap.objs_set_same _ _ _) (Nat.le_of_ble_eq_true rfl)) ?_))
  try first | rw [Heap.set_set] | rw [Heap.set_under (by assumption)]
  iterate 2 refine AX ?_
  refine AWP.frz (t := 4) rfl (hb4) ?_
  refine AX ?_
  refine Ret.go (.cons (.cellI _ _ _ _ rfl Tryz.isAgg24 Tryz.sizeOf24 rfl) .nil) _ (Heap.le.refl _) ?_
  refine ⟨?_, rfl⟩
  unfold divV
  rw [if_neg (by omega)]
  rfl

set_option maxRecDepth 100000 in
theorem asH (x y : Nat) (hx : x < 18446744073709551616) (hy : y < 18446744073709551616) (H : Heap) : ACall Tryz.prog 68 [.int .u64 (x : Int), .int .u64 (y : Int)] H (fun z H' => z = (axH x y).av ∧ H' = H) := by
 have hpl := bfX x (toN y).1
 have hsl := axY hx
 have hhl : yG false 2 0 false < 18446744073709551616 := acC _ _ _ _
 refine ACall.of_body Tryz.func68 rfl Tryz.ntmps68 Tryz.results68 rfl ?_
 iterate 2 refine AX ?_
 refine .s rfl (zG Tryz.zeroValue24 (zr24)) ?_
 rintro _ _ ⟨b4, hb4, rfl, hH⟩
 obtain rfl := hH.symm
 iterate 5 refine AX ?_
 refine .cl rfl Tryz.call40 (evs1 rfl) (aeU _ (by assumption) _) ?_
 iterate 7 refine AX ?_
 refine .cl rfl Tryz.call40 (evs1 rfl) (aeU _ (by assumption) _) ?_
 iterate 3 refine AX ?_
 refine AWP.cx rfl (fun hc12 => ?_) (fun hc12 => ?_)
 ·iterate 8 refine AX ?_
  refine AWP.cx rfl (fun hc13 => ?_) (fun hc13 => ?_)
  ·iterate 2 refine AX ?_
   refine .cl rfl Tryz.call53 (.cons zI .nil) (yZ _ _) (.e0 (zB Tryz.sizeOf24 (tm rfl) (tm rfl) rfl rfl (.inr ⟨_, rfl⟩) (Heap.objs_set_same _ _ _) (Nat.le_of_ble_eq_true rfl)) ?_)
   try first | rw [Heap.set_set] | rw [Heap.set_under (by assumption)]
   iterate 2 refine AX ?_
   refine AWP.frz (t := 4) rfl (hb4) ?_
   iterate 3 refine AX ?_
   refine Ret.go (.cons (.cellI _ _ _ _ rfl Tryz.isAgg24 Tryz.sizeOf24 rfl) .nil) _ (Heap.le.refl _) ?_
   refine ⟨?_, rfl⟩
   unfold axH
   first
   | (rw [if_pos ⟨by omega, by omega⟩]; rfl)
   | (rw [if_neg (by omega), if_pos ⟨by omega, by omega⟩]; rfl)
   | (rw [if_neg (by omega), if_neg (by omega), if_pos (by assumption)]; rfl)
   | (rw [if_neg (by omega), if_neg (by omega), if_neg (by assumption), if_pos (show y = afH from Int.ofNat_inj.1 hc47)]; rfl)
   | (rw [if_neg (by omega), if_neg (by omega), if_neg (by assumption), if_neg (show ¬ y = afH from fun q => hc47 (congrArg Int.ofNat q))]; rfl)
  ·iterate 7 refine AX ?_
   refine AWP.cx rfl (fun hc17 => ?_) (fun hc17 => ?_)
   ·iterate 2 refine AX ?_
    refine .cl rfl Tryz.call53 (.cons zI .nil) (yZ _ _) (.e0 (zB Tryz.sizeOf24 (tm rfl) (tm rfl) rfl rfl (.inr ⟨_, rfl⟩) (Heap.objs_set_same _ _ _) (Nat.le_of_ble_eq_true rfl)) ?_)
    try first | rw [Heap.set_set] | rw [Heap.set_under (by assumption)]
    iterate 2 refine AX ?_
    refine AWP.frz (t := 4) rfl (hb4) ?_
    iterate 3 refine AX ?_
    refine Ret.go (.cons (.cellI _ _ _ _ rfl Tryz.isAgg24 Tryz.sizeOf24 rfl) .nil) _ (Heap.le.refl _) ?_
    refine ⟨?_, rfl⟩
    unfold axH
    first
    | (rw [if_pos ⟨by omega, by omega⟩]; rfl)
    | (rw [if_neg (by omega), if_pos ⟨by omega, by omega⟩]; rfl)
    | (rw [if_neg (by omega), if_neg (by omega), if_pos (by assumption)]; rfl)
    | (rw [if_neg (by omega), if_neg (by omega), if_neg (by assumption), if_pos (show y = afH from Int.ofNat_inj.1 hc47)]; rfl)
    | (rw [if_neg (by omega), if_neg (by omega), if_neg (by assumption), if_neg (show ¬ y = afH from fun q => hc47 (congrArg Int.ofNat q))]; rfl)
   ·iterate 7 refine AX ?_
    refine .cl rfl Tryz.call134 (.cons (tm rfl) (.cons zI .nil)) (asX _ (by assumption) _) ?_
    iterate 7 refine AX ?_
    refine AWP.seqTo 39 (.bool (decide ((toN y).2 = 0 ∧ isN y = true ∧ -1000000 ≤ (toN y).1 ∧ (toN y).1 ≤ 1000000))) [0, 1, 4, 6] ?_ ?_
    ·-- region 8
     iterate 4 refine AX ?_
     refine zH (t := 28) rfl (fun hg28 => ?_) (fun hg28 => ?_)
     ·have hh28 := hg28; try simp only [decide_eq_true_eq] at hh28
      refine AX ?_
      refine .gs rfl rfl rfl (by assumption) (zC Tryz.call135 (evs1 rfl) (asY _ (by assumption) _)) ?_
      rintro _ _ ⟨rfl, hH⟩
      obtain rfl := hH.symm
      iterate 2 refine AX ?_
      refine zH (t := 32) rfl (fun hg32 => ?_) (fun hg32 => ?_)
      ·have hh32 := hg32; try simp only [decide_eq_true_eq, decide_eq_false_iff_not, Bool.not_eq_true', Bool.not_eq_false', Int.not_lt, Int.not_le, ne_eq, Decidable.not_not] at hh32
       iterate 4 refine AX ?_
       refine zH (t := 36) rfl (fun hg36 => ?_) (fun hg36 => ?_)
       ·have hh36 := hg36; try simp only [decide_eq_true_eq] at hh36
        iterate 4 refine AX ?_
        exact ⟨rfl, zS rfl (by (refine Eq.symm ?_; first | exact decide_eq_false (fun q => by omega) | exact decide_eq_false (fun q => by rw [q.2.1] at hg32; cases hg32) | exact decide_eq_decide.2 ⟨fun q => q.2.2.2, fun q => ⟨by omega, by assumption, by omega, q⟩⟩)) sX, rfl⟩
       ·have hh36 := hg36; try simp only [decide_eq_false_iff_not, Int.not_le] at hh36
        iterate 4 refine AX ?_
        exact ⟨rfl, zS rfl (by (refine Eq.symm ?_; first | exact decide_eq_false (fun q => by omega) | exact decide_eq_false (fun q => by rw [q.2.1] at hg32; cases hg32) | exact decide_eq_decide.2 ⟨fun q => q.2.2.2, fun q => ⟨by omega, by assumption, by omega, q⟩⟩)) sX, rfl⟩
      ·have hh32 := hg32; try simp only [decide_eq_true_eq, decide_eq_false_iff_not, Bool.not_eq_true', Bool.not_eq_false', Int.not_lt, Int.not_le, ne_eq, Decidable.not_not] at hh32
       iterate 8 refine AX ?_
       exact ⟨rfl, zS rfl (by (refine Eq.symm ?_; first | exact decide_eq_false (fun q => by omega) | exact decide_eq_false (fun q => by rw [q.2.1] at hg32; cases hg32) | exact decide_eq_decide.2 ⟨fun q => q.2.2.2, fun q => ⟨by omega, by assumption, by omega, q⟩⟩)) sX, rfl⟩
     ·have hh28 := hg28; try simp only [decide_eq_false_iff_not] at hh28
      iterate 12 refine AX ?_
      exact ⟨rfl, zS rfl (by (refine Eq.symm ?_; first | exact decide_eq_false (fun q => by omega) | exact decide_eq_false (fun q => by rw [q.2.1] at hg32; cases hg32) | exact decide_eq_decide.2 ⟨fun q => q.2.2.2, fun q => ⟨by omega, by assumption, by omega, q⟩⟩)) sX, rfl⟩
    ·refine AWP.sub [(39, _), (0, _), (1, _), (4, _), (6, _)] sX ?_
     refine AWP.cx rfl (fun hc39 => ?_) (fun hc39 => ?_)
     ·iterate 4 refine AX ?_
      refine .cl rfl Tryz.call136 (evs2 rfl rfl) (aoJ x hx _ (by omega) _) (.cl rfl Tryz.call35 (evs1 rfl) (yP _ (by assumption) _) (.e0 (zB Tryz.sizeOf24 (tm rfl) (tm rfl) rfl rfl (.inr ⟨_, rfl⟩) (Heap.objs_set_same _ _ _) (Nat.le_of_ble_eq_true rfl)) ?_))
      try first | rw [Heap.set_set] | rw [Heap.set_under (by assumption)]
      iterate 2 refine AX ?_
      refine AWP.frz (t := 4) rfl (hb4) ?_
      iterate 2 refine AX ?_
      refine Ret.go (.cons (.cellI _ _ _ _ rfl Tryz.isAgg24 Tryz.sizeOf24 rfl) .nil) _ (Heap.le.refl _) ?_
      refine ⟨?_, rfl⟩
      unfold axH
      first
      | (rw [if_pos ⟨by omega, by omega⟩]; rfl)
      | (rw [if_neg (by omega), if_pos ⟨by omega, by omega⟩]; rfl)
      | (rw [if_neg (by omega), if_neg (by omega), if_pos (by assumption)]; rfl)
      | (rw [if_neg (by omega), if_neg (by omega), if_neg (by assumption), if_pos (show y = afH from Int.ofNat_inj.1 hc47)]; rfl)
      | (rw [if_neg (by omega), if_neg (by omega), if_neg (by assumption), if_neg (show ¬ y = afH from fun q => hc47 (congrArg Int.ofNat q))]; rfl)
     ·iterate 6 refine AX ?_
      refine .cl rfl Tryz.call55 (.cons zI .nil) (acR 2 (by decide) _) (.cl rfl Tryz.call54 (.cons (zE 4607182418800017408) (evs1 rfl)) (aeE _ _ (by decide) hhl _) ?_)
      iterate 3 refine AX ?_
      refine AWP.cx rfl (fun hc47 => ?_) (fun hc47 => ?_)
      ·iterate 3 refine AX ?_
       refine .cl rfl Tryz.call137 (evs1 rfl) (amB _ (by assumption) _) (.cl rfl Tryz.call35 (evs1 rfl) (yP _ (by assumption) _) (.e0 (zB Tryz.sizeOf24 (tm rfl) (tm rfl) rfl rfl (.inr ⟨_, rfl⟩) (Heap.objs_set_same _ _ _) (Nat.le_of_ble_eq_true rfl)) ?_))
       try first | rw [Heap.set_set] | rw [Heap.set_under (by assumption)]
       iterate 2 refine AX ?_
       refine AWP.frz (t := 4) rfl (hb4) ?_
       iterate 2 refine AX ?_
       refine Ret.go (.cons (.cellI _ _ _ _ rfl Tryz.isAgg24 Tryz.sizeOf24 rfl) .nil) _ (Heap.le.refl _) ?_
       refine ⟨?_, rfl⟩
       unfold axH
       first
       | (rw [if_pos ⟨by omega, by omega⟩]; rfl)
       | (rw [if_neg (by omega), if_pos ⟨by omega, by omega⟩]; rfl)
       | (rw [if_neg (by omega), if_neg (by omega), if_pos (by assumption)]; rfl)
       | (rw [if_neg (by omega), if_neg (by omega), if_neg (by assumption), if_pos (show y = afH from Int.ofNat_inj.1 hc47)]; rfl)
       | (rw [if_neg (by omega), if_neg (by omega), if_neg (by assumption), if_neg (show ¬ y = afH from fun q => hc47 (congrArg Int.ofNat q))]; rfl)
      ·iterate 4 refine AX ?_
       refine .cl rfl Tryz.call53 (.cons zI .nil) (yZ _ _) (.e0 (zB Tryz.sizeOf24 (tm rfl) (tm rfl) rfl rfl (.inr ⟨_, rfl⟩) (Heap.objs_set_same _ _ _) (Nat.le_of_ble_eq_true rfl)) ?_)
       try first | rw [Heap.set_set] | rw [Heap.set_under (by assumption)]
       iterate 2 refine AX ?_
       refine AWP.frz (t := 4) rfl (hb4) ?_
       refine AX ?_
       refine Ret.go (.cons (.cellI _ _ _ _ rfl Tryz.isAgg24 Tryz.sizeOf24 rfl) .nil) _ (Heap.le.refl _) ?_
       refine ⟨?_, rfl⟩
       unfold axH
       first
       | (rw [if_pos ⟨by omega, by omega⟩]; rfl)
       | (rw [if_neg (by omega), if_pos ⟨by omega, by omega⟩]; rfl)
       | (rw [if_neg (by omega), if_neg (by omega), if_pos (by assumption)]; rfl)
       | (rw [if_neg (by omega), if_neg (by omega), if_neg (by assumption), if_pos (show y = afH from Int.ofNat_inj.1 hc47)]; rfl)
       | (rw [if_neg (by omega), if_neg (by omega), if_neg (by assumption), if_neg (show ¬ y = afH from fun q => hc47 (congrArg Int.ofNat q))]; rfl)
 ·iterate 6 refine AX ?_
  refine .cl rfl Tryz.call134 (.cons (tm rfl) (.cons zI .nil)) (asX _ (by assumption) _) ?_
  iterate 7 refine AX ?_
  refine AWP.seqTo 39 (.bool (decide ((toN y).2 = 0 ∧ isN y = true ∧ -1000000 ≤ (toN y).1 ∧ (toN y).1 ≤ 1000000))) [0, 1, 4, 6] ?_ ?_
  ·-- region 8
   iterate 4 refine AX ?_
   refine zH (t := 28) rfl (fun hg28 => ?_) (fun hg28 => ?_)
   ·have hh28 := hg28; try simp only [decide_eq_true_eq] at hh28
    refine AX ?_
    refine .gs rfl rfl rfl (by assumption) (zC Tryz.call135 (evs1 rfl) (asY _ (by assumption) _)) ?_
    rintro _ _ ⟨rfl, hH⟩
    obtain rfl := hH.symm
    iterate 2 refine AX ?_
    refine zH (t := 32) rfl (fun hg32 => ?_) (fun hg32 => ?_)
    ·have hh32 := hg32; try simp only [decide_eq_true_eq, decide_eq_false_iff_not, Bool.not_eq_true', Bool.not_eq_false', Int.not_lt, Int.not_le, ne_eq, Decidable.not_not] at hh32
     iterate 4 refine AX ?_
     refine zH (t := 36) rfl (fun hg36 => ?_) (fun hg36 => ?_)
     ·have hh36 := hg36; try simp only [decide_eq_true_eq] at hh36
      iterate 4 refine AX ?_
      exact ⟨rfl, zS rfl (by (refine Eq.symm ?_; first | exact decide_eq_false (fun q => by omega) | exact decide_eq_false (fun q => by rw [q.2.1] at hg32; cases hg32) | exact decide_eq_decide.2 ⟨fun q => q.2.2.2, fun q => ⟨by omega, by assumption, by omega, q⟩⟩)) sX, rfl⟩
     ·have hh36 := hg36; try simp only [decide_eq_false_iff_not, Int.not_le] at hh36
      iterate 4 refine AX ?_
      exact ⟨rfl, zS rfl (by (refine Eq.symm ?_; first | exact decide_eq_false (fun q => by omega) | exact decide_eq_false (fun q => by rw [q.2.1] at hg32; cases hg32) | exact decide_eq_decide.2 ⟨fun q => q.2.2.2, fun q => ⟨by omega, by assumption, by omega, q⟩⟩)) sX, rfl⟩
    ·have hh32 := hg32; try simp only [decide_eq_true_eq, decide_eq_false_iff_not, Bool.not_eq_true', Bool.not_eq_false', Int.not_lt, Int.not_le, ne_eq, Decidable.not_not] at hh32
     iterate 8 refine AX ?_
     exact ⟨rfl, zS rfl (by (refine Eq.symm ?_; first | exact decide_eq_false (fun q => by omega) | exact decide_eq_false (fun q => by rw [q.2.1] at hg32; cases hg32) | exact decide_eq_decide.2 ⟨fun q => q.2.2.2, fun q => ⟨by omega, by assumption, by omega, q⟩⟩)) sX, rfl⟩
   ·have hh28 := hg28; try simp only [decide_eq_false_iff_not] at hh28
    iterate 12 refine AX ?_
    exact ⟨rfl, zS rfl (by (refine Eq.symm ?_; first | exact decide_eq_false (fun q => by omega) | exact decide_eq_false (fun q => by rw [q.2.1] at hg32; cases hg32) | exact decide_eq_decide.2 ⟨fun q => q.2.2.2, fun q => ⟨by omega, by assumption, by omega, q⟩⟩)) sX, rfl⟩
  ·refine AWP.sub [(39, _), (0, _), (1, _), (4, _), (6, _)] sX ?_
   refine AWP.cx rfl (fun hc39 => ?_) (fun hc39 => ?_)
   ·iterate 4 refine AX ?_
    refine .cl rfl Tryz.call136 (evs2 rfl rfl) (aoJ x hx _ (by omega) _) (.cl rfl Tryz.call35 (evs1 rfl) (yP _ (by assumption) _) (.e0 (zB Tryz.sizeOf24 (tm rfl) (tm rfl) rfl rfl (.inr ⟨_, rfl⟩) (Heap.objs_set_same _ _ _) (Nat.le_of_ble_eq_true rfl)) ?_))
    try first | rw [Heap.set_set] | rw [Heap.set_under (by assumption)]
    iterate 2 refine AX ?_
    refine AWP.frz (t := 4) rfl (hb4) ?_
    iterate 2 refine AX ?_
    refine Ret.go (.cons (.cellI _ _ _ _ rfl Tryz.isAgg24 Tryz.sizeOf24 rfl) .nil) _ (Heap.le.refl _) ?_
    refine ⟨?_, rfl⟩
    unfold axH
    first
    | (rw [if_pos ⟨by omega, by omega⟩]; rfl)
    | (rw [if_neg (by omega), if_pos ⟨by omega, by omega⟩]; rfl)
    | (rw [if_neg (by omega), if_neg (by omega), if_pos (by assumption)]; rfl)
    | (rw [if_neg (by omega), if_neg (by omega), if_neg (by assumption), if_pos (show y = afH from Int.ofNat_inj.1 hc47)]; rfl)
    | (rw [if_neg (by omega), if_neg (by omega), if_neg (by assumption), if_neg (show ¬ y = afH from fun q => hc47 (congrArg Int.ofNat q))]; rfl)
   ·iterate 6 refine AX ?_
    refine .cl rfl Tryz.call55 (.cons zI .nil) (acR 2 (by decide) _) (.cl rfl Tryz.call54 (.cons (zE 4607182418800017408) (evs1 rfl)) (aeE _ _ (by decide) hhl _) ?_)
    iterate 3 refine AX ?_
    refine AWP.cx rfl (fun hc47 => ?_) (fun hc47 => ?_)
    ·iterate 3 refine AX ?_
     refine .cl rfl Tryz.call137 (evs1 rfl) (amB _ (by assumption) _) (.cl rfl Tryz.call35 (evs1 rfl) (yP _ (by assumption) _) (.e0 (zB Tryz.sizeOf24 (tm rfl) (tm rfl) rfl rfl (.inr ⟨_, rfl⟩) (Heap.objs_set_same _ _ _) (Nat.le_of_ble_eq_true rfl)) ?_))
     try first | rw [Heap.set_set] | rw [Heap.set_under (by assumption)]
     iterate 2 refine AX ?_
     refine AWP.frz (t := 4) rfl (hb4) ?_
     iterate 2 refine AX ?_
     refine Ret.go (.cons (.cellI _ _ _ _ rfl Tryz.isAgg24 Tryz.sizeOf24 rfl) .nil) _ (Heap.le.refl _) ?_
     refine ⟨?_, rfl⟩
     unfold axH
     first
     | (rw [if_pos ⟨by omega, by omega⟩]; rfl)
     | (rw [if_neg (by omega), if_pos ⟨by omega, by omega⟩]; rfl)
     | (rw [if_neg (by omega), if_neg (by omega), if_pos (by assumption)]; rfl)
     | (rw [if_neg (by omega), if_neg (by omega), if_neg (by assumption), if_pos (show y = afH from Int.ofNat_inj.1 hc47)]; rfl)
     | (rw [if_neg (by omega), if_neg (by omega), if_neg (by assumption), if_neg (show ¬ y = afH from fun q => hc47 (congrArg Int.ofNat q))]; rfl)
    ·iterate 4 refine AX ?_
     refine .cl rfl Tryz.call53 (.cons zI .nil) (yZ _ _) (.e0 (zB Tryz.sizeOf24 (tm rfl) (tm rfl) rfl rfl (.inr ⟨_, rfl⟩) (Heap.objs_set_same _ _ _) (Nat.le_of_ble_eq_true rfl)) ?_)
     try first | rw [Heap.set_set] | rw [Heap.set_under (by assumption)]
     iterate 2 refine AX ?_
     refine AWP.frz (t := 4) rfl (hb4) ?_
     refine AX ?_
     refine Ret.go (.cons (.cellI _ _ _ _ rfl Tryz.isAgg24 Tryz.sizeOf24 rfl) .nil) _ (Heap.le.refl _) ?_
     refine ⟨?_, rfl⟩
     unfold axH
     first
     | (rw [if_pos ⟨by omega, by omega⟩]; rfl)
     | (rw [if_neg (by omega), if_pos ⟨by omega, by omega⟩]; rfl)
     | (rw [if_neg (by omega), if_neg (by omega), if_pos (by assumption)]; rfl)
     | (rw [if_neg (by omega), if_neg (by omega), if_neg (by assumption), if_pos (show y = afH from Int.ofNat_inj.1 hc47)]; rfl)
     | (rw [if_neg (by omega), if_neg (by omega), if_neg (by assumption), if_neg (show ¬ y = afH from fun q => hc47 (congrArg Int.ofNat q))]; rfl)

set_option maxRecDepth 100000 in
theorem aeG (l : Loc) (hk : l.ok) (hg : l.grp ≠ []) (x : Val) (x_b : x.bits < 18446744073709551616) (x_t : x.text.length ≤ 1000) (u : Val) (u_b : u.bits < 18446744073709551616) (u_t : u.text.length ≤ 1000) (F : Nat → Nat → Val) (fn : FuncId) (hent : ∀ args w, (callFunc fn args).run Tryz.prog w = .ok (.enter fn args) w) (hF : ∀ x y, x < 18446744073709551616 → y < 18446744073709551616 → ∀ H, ACall Tryz.prog fn [.int .u64 ((x : Nat) : Int), .int .u64 ((y : Nat) : Int)] H (fun z H' => z = (F x y).av ∧ H' = H)) (f : Nat → List AV) (hf : ROK f) (b : Nat) (H : Heap) (hb : H.objs b = some (.box 189 (qT f))) : ACall Tryz.prog 63 [opA l b, x.av, u.av, .func fn []] H (fun y H' => y = (ajN l x u F).av ∧ ∃ f', ROK f' ∧ H' = H.set b (.box 189 (qT f'))) := by
 refine ACall.of_body Tryz.func63 rfl Tryz.ntmps63 Tryz.results63 rfl ?_
 iterate 2 refine AX ?_
 refine .e rfl (zO (tm rfl) (.inr ⟨_, rfl⟩)) (.e rfl (zO (tm rfl) (.inr ⟨_, rfl⟩)) (.s rfl (zG Tryz.zeroValue24 (zr24)) ?_))
 rintro _ _ ⟨b8, hb8, rfl, hH⟩
 obtain rfl := hH.symm
 iterate 3 refine AX ?_
 have h8b : b8 ≠ b := by rintro rfl; rw [hb8] at hb; cases hb
 iterate 3 refine AX ?_
 refine .s rfl (zC Tryz.call12 (evs2 rfl rfl) (qZ l hk hg x x_b x_t f hf b _ ((Heap.objs_set_ne _ _ h8b.symm).trans hb))) ?_
 rintro _ _ ⟨rfl, f1, hf1, rfl⟩
 rw [Heap.set_comm h8b]
 replace hb8 : (H.set b (.box 189 (qT f1))).objs b8 = none := (Heap.objs_set_ne _ _ h8b).trans hb8
 iterate 14 refine AX ?_
 refine AWP.cx rfl (fun hc19 => ?_) (fun hc19 => ?_)
 ·iterate 3 refine AX ?_
  refine .cl rfl Tryz.call53 (evs1 rfl) (yZ _ _) (.e0 (zB Tryz.sizeOf24 (tm rfl) (tm rfl) rfl rfl (.inr ⟨_, rfl⟩) (Heap.objs_set_same _ _ _) (Nat.le_of_ble_eq_true rfl)) ?_)
  try first | rw [Heap.set_set] | rw [Heap.set_under (by assumption)]
  iterate 2 refine AX ?_
  refine AWP.frz (t := 8) rfl (hb8) ?_
  iterate 2 refine AX ?_
  refine Ret.go (.cons (.cellI _ _ _ _ rfl Tryz.isAgg24 Tryz.sizeOf24 rfl) .nil) _ (Heap.le.refl _) ?_
  refine ⟨?_, f1, hf1, rfl⟩
  unfold ajN
  rw [if_pos (by simpa using hc19)]; rfl
 ·iterate 6 refine AX ?_
  refine .s rfl (zC Tryz.call12 (evs2 rfl rfl) (qZ l hk hg u u_b u_t f1 hf1 b _ ((Heap.objs_set_ne _ _ h8b.symm).trans (Heap.objs_set_same _ _ _)))) ?_
  rintro _ _ ⟨rfl, f2, hf2, rfl⟩
  rw [Heap.set_under h8b.symm]
  replace hb8 : (H.set b (.box 189 (qT f2))).objs b8 = none := Heap.fresh_set hb8 _
  iterate 14 refine AX ?_
  refine AWP.cx rfl (fun hc29 => ?_) (fun hc29 => ?_)
  ·iterate 3 refine AX ?_
   refine .cl rfl Tryz.call53 (evs1 rfl) (yZ _ _) (.e0 (zB Tryz.sizeOf24 (tm rfl) (tm rfl) rfl rfl (.inr ⟨_, rfl⟩) (Heap.objs_set_same _ _ _) (Nat.le_of_ble_eq_true rfl)) ?_)
   try first | rw [Heap.set_set] | rw [Heap.set_under (by assumption)]
   iterate 2 refine AX ?_
   refine AWP.frz (t := 8) rfl (hb8) ?_
   iterate 2 refine AX ?_
   refine Ret.go (.cons (.cellI _ _ _ _ rfl Tryz.isAgg24 Tryz.sizeOf24 rfl) .nil) _ (Heap.le.refl _) ?_
   refine ⟨?_, f2, hf2, rfl⟩
   unfold ajN
   rw [if_neg (by simpa using hc19), if_pos (by simpa using hc29)]; rfl
  ·iterate 7 refine AX ?_
   refine .e rfl (akI hent (tm rfl) (evs2 rfl rfl) (hF _ _ (afN x_b) (afN u_b) _)) (.e0 (zB Tryz.sizeOf24 (tm rfl) (tm rfl) rfl rfl (.inr ⟨_, rfl⟩) (Heap.objs_set_same _ _ _) (Nat.le_of_ble_eq_true rfl)) ?_)
   try first | rw [Heap.set_set] | rw [Heap.set_under (by assumption)]
   iterate 2 refine AX ?_
   refine AWP.frz (t := 8) rfl (hb8) ?_
   refine AX ?_
   refine Ret.go (.cons (.cellI _ _ _ _ rfl Tryz.isAgg24 Tryz.sizeOf24 rfl) .nil) _ (Heap.le.refl _) ?_
   refine ⟨?_, f2, hf2, rfl⟩
   unfold ajN
   rw [if_neg (by simpa using hc19), if_neg (by simpa using hc29)]; rfl

set_option maxRecDepth 100000 in
theorem agU (l : Loc) (hk : l.ok) (hg : l.grp ≠ []) (op : List UInt8) (v : Val) (v_b : v.bits < 18446744073709551616) (v_t : v.text.length ≤ 1000) (f : Nat → List AV) (hf : ROK f) (b : Nat) (H : Heap) (hb : H.objs b = some (.box 189 (qT f))) : ACall Tryz.prog 20 [opA l b, .str op, v.av] H (fun y H' => y = (aaU l op v).av ∧ ∃ f', ROK f' ∧ H' = H.set b (.box 189 (qT f'))) := by
 have htl := afN (l := l) v_b
 have hhl : hunN < 18446744073709551616 := acC _ _ _ _
 have hdl := alZ (yJ l v).1 hunN
 have hnl := alV htl
 refine ACall.of_body Tryz.func20 rfl Tryz.ntmps20 Tryz.results20 rfl ?_
 iterate 2 refine AX ?_
 refine .e rfl (zO (tm rfl) (.inr ⟨_, rfl⟩)) (.s rfl (zG Tryz.zeroValue24 (zr24)) ?_)
 rintro _ _ ⟨b6, hb6, rfl, hH⟩
 obtain rfl := hH.symm
 iterate 4 refine AX ?_
 refine AWP.seqTo 9 (.bool (decide (v.kind = 4 ∨ op = [43]))) [0, 1, 5, 6] ?_ ?_
 ·-- region 1
  refine AX ?_
  refine .p rfl (zA Tryz.underlying24 rfl Tryz.sizeOf3 (tm rfl)) ?_
  iterate 3 refine AX ?_
  refine zH (t := 13) rfl (fun hg13 => ?_) (fun hg13 => ?_)
  ·have hh13 := hg13; try simp only [decide_eq_true_eq] at hh13
   iterate 5 refine AX ?_
   exact ⟨rfl, zS rfl (by (refine Eq.symm ?_; first | exact decide_eq_true (.inl (by assumption)) | (refine decide_eq_decide.2 ⟨fun q => ?_, fun q => .inr q⟩; rcases q with q | q; exact absurd q (by assumption); exact q) | exact decide_eq_false (fun q => q.1 (by assumption)) | (rw [← decide_not]; exact decide_eq_decide.2 ⟨fun q => q.2, fun q => ⟨by assumption, q⟩⟩))) sX, rfl⟩
  ·have hh13 := hg13; try simp only [decide_eq_false_iff_not] at hh13
   iterate 5 refine AX ?_
   exact ⟨rfl, zS rfl (by (refine Eq.symm ?_; first | exact decide_eq_true (.inl (by assumption)) | (refine decide_eq_decide.2 ⟨fun q => ?_, fun q => .inr q⟩; rcases q with q | q; exact absurd q (by assumption); exact q) | exact decide_eq_false (fun q => q.1 (by assumption)) | (rw [← decide_not]; exact decide_eq_decide.2 ⟨fun q => q.2, fun q => ⟨by assumption, q⟩⟩))) sX, rfl⟩
 ·refine AWP.sub [(9, _), (0, _), (1, _), (5, _), (6, _)] sX ?_
  refine AWP.cx rfl (fun hc9 => ?_) (fun hc9 => ?_)
  ·iterate 3 refine AX ?_
   refine .e0 (zB Tryz.sizeOf24 (tm rfl) (tm rfl) rfl rfl (.inr ⟨_, rfl⟩) (Heap.objs_set_same _ _ _) (Nat.le_of_ble_eq_true rfl)) ?_
   try first | rw [Heap.set_set] | rw [Heap.set_under (by assumption)]
   iterate 2 refine AX ?_
   refine AWP.frz (t := 6) rfl (hb6) ?_
   iterate 3 refine AX ?_
   refine Ret.go (.cons (.cellI _ _ _ _ rfl Tryz.isAgg24 Tryz.sizeOf24 rfl) .nil) _ (Heap.le.refl _) ?_
   refine ⟨?_, f, hf, (Heap.set_self hb).symm⟩
   unfold aaU
   rw [if_pos hc9]; rfl
  ·refine AWP.seqTo 18 (.bool (decide (op ≠ [45] ∧ op ≠ [37]))) [0, 1, 5, 6] ?_ ?_
   ·-- region 3
    iterate 4 refine AX ?_
    refine zH (t := 21) rfl (fun hg21 => ?_) (fun hg21 => ?_)
    ·have hh21 := hg21; try simp only [decide_eq_false_iff_not, Bool.not_eq_true'] at hh21
     iterate 5 refine AX ?_
     exact ⟨rfl, zS rfl (by (refine Eq.symm ?_; first | exact decide_eq_true (.inl (by assumption)) | (refine decide_eq_decide.2 ⟨fun q => ?_, fun q => .inr q⟩; rcases q with q | q; exact absurd q (by assumption); exact q) | exact decide_eq_false (fun q => q.1 (by assumption)) | (rw [← decide_not]; exact decide_eq_decide.2 ⟨fun q => q.2, fun q => ⟨by assumption, q⟩⟩))) sX, rfl⟩
    ·have hh21 := hg21; try simp only [decide_eq_true_eq, Bool.not_eq_false'] at hh21
     iterate 5 refine AX ?_
     exact ⟨rfl, zS rfl (by (refine Eq.symm ?_; first | exact decide_eq_true (.inl (by assumption)) | (refine decide_eq_decide.2 ⟨fun q => ?_, fun q => .inr q⟩; rcases q with q | q; exact absurd q (by assumption); exact q) | exact decide_eq_false (fun q => q.1 (by assumption)) | (rw [← decide_not]; exact decide_eq_decide.2 ⟨fun q => q.2, fun q => ⟨by assumption, q⟩⟩))) sX, rfl⟩
   ·refine AWP.sub [(18, _), (0, _), (1, _), (5, _), (6, _)] sX ?_
    refine AWP.cx rfl (fun hc18 => ?_) (fun hc18 => ?_)
    ·iterate 2 refine AX ?_
     refine .cl rfl Tryz.call53 (.cons zI .nil) (yZ _ _) (.e0 (zB Tryz.sizeOf24 (tm rfl) (tm rfl) rfl rfl (.inr ⟨_, rfl⟩) (Heap.objs_set_same _ _ _) (Nat.le_of_ble_eq_true rfl)) ?_)
     try first | rw [Heap.set_set] | rw [Heap.set_under (by assumption)]
     iterate 2 refine AX ?_
     refine AWP.frz (t := 6) rfl (hb6) ?_
     iterate 3 refine AX ?_
     refine Ret.go (.cons (.cellI _ _ _ _ rfl Tryz.isAgg24 Tryz.sizeOf24 rfl) .nil) _ (Heap.le.refl _) ?_
     refine ⟨?_, f, hf, (Heap.set_self hb).symm⟩
     unfold aaU
     rw [if_neg hc9, if_pos hc18]; rfl
    ·have h8b : b6 ≠ b := by rintro rfl; rw [hb6] at hb; cases hb
     iterate 7 refine AX ?_
     refine .s rfl (zC Tryz.call12 (evs2 rfl rfl) (qZ l hk hg v v_b v_t f hf b _ ((Heap.objs_set_ne _ _ h8b.symm).trans hb))) ?_
     rintro _ _ ⟨rfl, f1, hf1, rfl⟩
     rw [Heap.set_comm h8b]
     replace hb6 : (H.set b (.box 189 (qT f1))).objs b6 = none := (Heap.objs_set_ne _ _ h8b).trans hb6
     iterate 14 refine AX ?_
     refine AWP.cx rfl (fun hc33 => ?_) (fun hc33 => ?_)
     ·iterate 3 refine AX ?_
      refine .cl rfl Tryz.call53 (evs1 rfl) (yZ _ _) (.e0 (zB Tryz.sizeOf24 (tm rfl) (tm rfl) rfl rfl (.inr ⟨_, rfl⟩) (Heap.objs_set_same _ _ _) (Nat.le_of_ble_eq_true rfl)) ?_)
      try first | rw [Heap.set_set] | rw [Heap.set_under (by assumption)]
      iterate 2 refine AX ?_
      refine AWP.frz (t := 6) rfl (hb6) ?_
      iterate 2 refine AX ?_
      refine Ret.go (.cons (.cellI _ _ _ _ rfl Tryz.isAgg24 Tryz.sizeOf24 rfl) .nil) _ (Heap.le.refl _) ?_
      refine ⟨?_, f1, hf1, rfl⟩
      unfold aaU
      rw [if_neg hc9, if_neg hc18, if_pos (by simpa using hc33)]; rfl
     ·iterate 9 refine AX ?_
      refine AWP.cx rfl (fun hc37 => ?_) (fun hc37 => ?_)
      ·iterate 3 refine AX ?_
       refine .cl rfl Tryz.call55 (.cons zI .nil) (acR 100 (by decide) _) (.cl rfl Tryz.call54 (evs2 rfl rfl) (aeE _ _ htl hhl _) (.cl rfl Tryz.call35 (evs1 rfl) (yP _ hdl _) (.e0 (zB Tryz.sizeOf24 (tm rfl) (tm rfl) rfl rfl (.inr ⟨_, rfl⟩) (Heap.objs_set_same _ _ _) (Nat.le_of_ble_eq_true rfl)) ?_)))
       try first | rw [Heap.set_set] | rw [Heap.set_under (by assumption)]
       iterate 2 refine AX ?_
       refine AWP.frz (t := 6) rfl (hb6) ?_
       iterate 2 refine AX ?_
       refine Ret.go (.cons (.cellI _ _ _ _ rfl Tryz.isAgg24 Tryz.sizeOf24 rfl) .nil) _ (Heap.le.refl _) ?_
       refine ⟨?_, f1, hf1, rfl⟩
       unfold aaU
       rw [if_neg hc9, if_neg hc18, if_neg (by simpa using hc33), if_pos (by simpa using hc37)]; rfl
      ·iterate 5 refine AX ?_
       refine .cl rfl Tryz.call56 (evs1 rfl) (aoK _ htl _) (.cl rfl Tryz.call35 (evs1 rfl) (yP _ hnl _) (.e0 (zB Tryz.sizeOf24 (tm rfl) (tm rfl) rfl rfl (.inr ⟨_, rfl⟩) (Heap.objs_set_same _ _ _) (Nat.le_of_ble_eq_true rfl)) ?_))
       try first | rw [Heap.set_set] | rw [Heap.set_under (by assumption)]
       iterate 2 refine AX ?_
       refine AWP.frz (t := 6) rfl (hb6) ?_
       refine AX ?_
       refine Ret.go (.cons (.cellI _ _ _ _ rfl Tryz.isAgg24 Tryz.sizeOf24 rfl) .nil) _ (Heap.le.refl _) ?_
       refine ⟨?_, f1, hf1, rfl⟩
       unfold aaU
       rw [if_neg hc9, if_neg hc18, if_neg (by simpa using hc33), if_neg (by simpa using hc37)]; rfl

set_option maxRecDepth 100000 in
theorem yT (l : Loc) (hk : l.ok) (hg : l.grp ≠ []) (op : List UInt8) (x : Val) (x_b : x.bits < 18446744073709551616) (x_t : x.text.length ≤ 1000) (u : Val) (u_b : u.bits < 18446744073709551616) (u_t : u.text.length ≤ 1000) (lx : (abP l x).1.length ≤ 1000000) (lu : (abP l u).1.length ≤ 1000000) (f : Nat → List AV) (hf : ROK f) (b : Nat) (H : Heap) (hb : H.objs b = some (.box 189 (qT f))) : ACall Tryz.prog 22 [opA l b, .str op, x.av, u.av] H (fun y H' => y = (yB l op x u).av ∧ ∃ f', ROK f' ∧ H' = H.set b (.box 189 (qT f'))) := by
 have hcat : ((abP l x).1 ++ (abP l u).1).length ≤ maxLen := by rw [List.length_append, zN]; omega
 refine ACall.of_body Tryz.func22 rfl Tryz.ntmps22 Tryz.results22 rfl ?_
 iterate 2 refine AX ?_
 refine .e rfl (zO (tm rfl) (.inr ⟨_, rfl⟩)) (.e rfl (zO (tm rfl) (.inr ⟨_, rfl⟩)) (.s rfl (zG Tryz.zeroValue24 (zr24)) ?_))
 rintro _ _ ⟨b8, hb8, rfl, hH⟩
 obtain rfl := hH.symm
 iterate 5 refine AX ?_
 have h8b : b8 ≠ b := by rintro rfl; rw [hb8] at hb; cases hb
 refine AX ?_
 refine .p rfl (zA Tryz.underlying24 rfl Tryz.sizeOf3 (tm rfl)) ?_
 iterate 5 refine AX ?_
 refine AWP.cx rfl (fun hc14 => ?_) (fun hc14 => ?_)
 ·iterate 3 refine AX ?_
  refine .e0 (zB Tryz.sizeOf24 (tm rfl) (tm rfl) rfl rfl (.inr ⟨_, rfl⟩) (Heap.objs_set_same _ _ _) (Nat.le_of_ble_eq_true rfl)) ?_
  try first | rw [Heap.set_set] | rw [Heap.set_under (by assumption)]
  iterate 2 refine AX ?_
  refine AWP.frz (t := 8) rfl (hb8) ?_
  iterate 3 refine AX ?_
  refine Ret.go (.cons (.cellI _ _ _ _ rfl Tryz.isAgg24 Tryz.sizeOf24 rfl) .nil) _ (Heap.le.refl _) ?_
  refine ⟨?_, f, hf, (Heap.set_self hb).symm⟩
  unfold yB
  rw [if_pos hc14]; rfl
 ·iterate 2 refine AX ?_
  refine .p rfl (zA Tryz.underlying24 rfl Tryz.sizeOf3 (tm rfl)) ?_
  iterate 5 refine AX ?_
  refine AWP.cx rfl (fun hc19 => ?_) (fun hc19 => ?_)
  ·iterate 3 refine AX ?_
   refine .e0 (zB Tryz.sizeOf24 (tm rfl) (tm rfl) rfl rfl (.inr ⟨_, rfl⟩) (Heap.objs_set_same _ _ _) (Nat.le_of_ble_eq_true rfl)) ?_
   try first | rw [Heap.set_set] | rw [Heap.set_under (by assumption)]
   iterate 2 refine AX ?_
   refine AWP.frz (t := 8) rfl (hb8) ?_
   iterate 3 refine AX ?_
   refine Ret.go (.cons (.cellI _ _ _ _ rfl Tryz.isAgg24 Tryz.sizeOf24 rfl) .nil) _ (Heap.le.refl _) ?_
   refine ⟨?_, f, hf, (Heap.set_self hb).symm⟩
   unfold yB
   rw [if_neg hc14, if_pos hc19]; rfl
  ·iterate 8 refine AX ?_
   refine .cl rfl Tryz.call18 (evs3 rfl rfl rfl) (aaW _ x u x_b u_b (by omega) (by omega) _) ?_
   iterate 16 refine AX ?_
   refine AWP.cx rfl (fun hc29 => ?_) (fun hc29 => ?_)
   ·iterate 4 refine AX ?_
    refine .cl rfl Tryz.call61 (evs1 rfl) (abE _ _) (.e0 (zB Tryz.sizeOf24 (tm rfl) (tm rfl) rfl rfl (.inr ⟨_, rfl⟩) (Heap.objs_set_same _ _ _) (Nat.le_of_ble_eq_true rfl)) ?_)
    try first | rw [Heap.set_set] | rw [Heap.set_under (by assumption)]
    iterate 2 refine AX ?_
    refine AWP.frz (t := 8) rfl (hb8) ?_
    iterate 3 refine AX ?_
    refine Ret.go (.cons (.cellI _ _ _ _ rfl Tryz.isAgg24 Tryz.sizeOf24 rfl) .nil) _ (Heap.le.refl _) ?_
    refine ⟨?_, f, hf, (Heap.set_self hb).symm⟩
    unfold yB
    rw [if_neg hc14, if_neg hc19, if_pos hc29]; rfl
   ·iterate 6 refine AX ?_
    refine AWP.cx rfl (fun hc34 => ?_) (fun hc34 => ?_)
    ·iterate 4 refine AX ?_
     refine .cl rfl Tryz.call61 (evs1 rfl) (abE _ _) (.e0 (zB Tryz.sizeOf24 (tm rfl) (tm rfl) rfl rfl (.inr ⟨_, rfl⟩) (Heap.objs_set_same _ _ _) (Nat.le_of_ble_eq_true rfl)) ?_)
     try first | rw [Heap.set_set] | rw [Heap.set_under (by assumption)]
     iterate 2 refine AX ?_
     refine AWP.frz (t := 8) rfl (hb8) ?_
     iterate 3 refine AX ?_
     refine Ret.go (.cons (.cellI _ _ _ _ rfl Tryz.isAgg24 Tryz.sizeOf24 rfl) .nil) _ (Heap.le.refl _) ?_
     refine ⟨?_, f, hf, (Heap.set_self hb).symm⟩
     unfold yB
     rw [if_neg hc14, if_neg hc19, if_neg hc29, if_pos hc34]; rfl
    ·iterate 6 refine AX ?_
     refine AWP.cx rfl (fun hc39 => ?_) (fun hc39 => ?_)
     ·iterate 4 refine AX ?_
      refine .cl rfl Tryz.call61 (evs1 rfl) (abE _ _) (.e0 (zB Tryz.sizeOf24 (tm rfl) (tm rfl) rfl rfl (.inr ⟨_, rfl⟩) (Heap.objs_set_same _ _ _) (Nat.le_of_ble_eq_true rfl)) ?_)
      try first | rw [Heap.set_set] | rw [Heap.set_under (by assumption)]
      iterate 2 refine AX ?_
      refine AWP.frz (t := 8) rfl (hb8) ?_
      iterate 3 refine AX ?_
      refine Ret.go (.cons (.cellI _ _ _ _ rfl Tryz.isAgg24 Tryz.sizeOf24 rfl) .nil) _ (Heap.le.refl _) ?_
      refine ⟨?_, f, hf, (Heap.set_self hb).symm⟩
      unfold yB
      rw [if_neg hc14, if_neg hc19, if_neg hc29, if_neg hc34, if_pos hc39]; rfl
     ·iterate 6 refine AX ?_
      refine AWP.cx rfl (fun hc44 => ?_) (fun hc44 => ?_)
      ·iterate 4 refine AX ?_
       refine .cl rfl Tryz.call61 (evs1 rfl) (abE _ _) (.e0 (zB Tryz.sizeOf24 (tm rfl) (tm rfl) rfl rfl (.inr ⟨_, rfl⟩) (Heap.objs_set_same _ _ _) (Nat.le_of_ble_eq_true rfl)) ?_)
       try first | rw [Heap.set_set] | rw [Heap.set_under (by assumption)]
       iterate 2 refine AX ?_
       refine AWP.frz (t := 8) rfl (hb8) ?_
       iterate 3 refine AX ?_
       refine Ret.go (.cons (.cellI _ _ _ _ rfl Tryz.isAgg24 Tryz.sizeOf24 rfl) .nil) _ (Heap.le.refl _) ?_
       refine ⟨?_, f, hf, (Heap.set_self hb).symm⟩
       unfold yB
       rw [if_neg hc14, if_neg hc19, if_neg hc29, if_neg hc34, if_neg hc39, if_pos hc44]; rfl
      ·iterate 6 refine AX ?_
       refine AWP.cx rfl (fun hc49 => ?_) (fun hc49 => ?_)
       ·iterate 4 refine AX ?_
        refine .cl rfl Tryz.call61 (evs1 rfl) (abE _ _) (.e0 (zB Tryz.sizeOf24 (tm rfl) (tm rfl) rfl rfl (.inr ⟨_, rfl⟩) (Heap.objs_set_same _ _ _) (Nat.le_of_ble_eq_true rfl)) ?_)
        try first | rw [Heap.set_set] | rw [Heap.set_under (by assumption)]
        iterate 2 refine AX ?_
        refine AWP.frz (t := 8) rfl (hb8) ?_
        iterate 3 refine AX ?_
        refine Ret.go (.cons (.cellI _ _ _ _ rfl Tryz.isAgg24 Tryz.sizeOf24 rfl) .nil) _ (Heap.le.refl _) ?_
        refine ⟨?_, f, hf, (Heap.set_self hb).symm⟩
        unfold yB
        rw [if_neg hc14, if_neg hc19, if_neg hc29, if_neg hc34, if_neg hc39, if_neg hc44, if_pos hc49]; rfl
       ·iterate 6 refine AX ?_
        refine AWP.cx rfl (fun hc54 => ?_) (fun hc54 => ?_)
        ·iterate 4 refine AX ?_
         refine .cl rfl Tryz.call61 (evs1 rfl) (abE _ _) (.e0 (zB Tryz.sizeOf24 (tm rfl) (tm rfl) rfl rfl (.inr ⟨_, rfl⟩) (Heap.objs_set_same _ _ _) (Nat.le_of_ble_eq_true rfl)) ?_)
         try first | rw [Heap.set_set] | rw [Heap.set_under (by assumption)]
         iterate 2 refine AX ?_
         refine AWP.frz (t := 8) rfl (hb8) ?_
         iterate 3 refine AX ?_
         refine Ret.go (.cons (.cellI _ _ _ _ rfl Tryz.isAgg24 Tryz.sizeOf24 rfl) .nil) _ (Heap.le.refl _) ?_
         refine ⟨?_, f, hf, (Heap.set_self hb).symm⟩
         unfold yB
         rw [if_neg hc14, if_neg hc19, if_neg hc29, if_neg hc34, if_neg hc39, if_neg hc44, if_neg hc49, if_pos hc54]; rfl
        ·iterate 6 refine AX ?_
         refine AWP.cx rfl (fun hc59 => ?_) (fun hc59 => ?_)
         ·iterate 4 refine AX ?_
          refine .cl rfl Tryz.call16 (evs2 rfl rfl) (ajH l hk b x x_b x_t _) ?_
          iterate 11 refine AX ?_
          refine .cl rfl Tryz.call16 (evs2 rfl rfl) (ajH l hk b u u_b u_t _) ?_
          iterate 11 refine AX ?_
          refine .p rfl (yD (tm rfl) (tm rfl) (by rw [← List.length_append]; exact hcat)) (.cl rfl Tryz.call62 (evs1 rfl) (akC _ hcat _) (.e0 (zB Tryz.sizeOf24 (tm rfl) (tm rfl) rfl rfl (.inr ⟨_, rfl⟩) (Heap.objs_set_same _ _ _) (Nat.le_of_ble_eq_true rfl)) ?_))
          try first | rw [Heap.set_set] | rw [Heap.set_under (by assumption)]
          iterate 2 refine AX ?_
          refine AWP.frz (t := 8) rfl (hb8) ?_
          iterate 3 refine AX ?_
          refine Ret.go (.cons (.cellI _ _ _ _ rfl Tryz.isAgg24 Tryz.sizeOf24 rfl) .nil) _ (Heap.le.refl _) ?_
          refine ⟨?_, f, hf, (Heap.set_self hb).symm⟩
          unfold yB
          rw [if_neg hc14, if_neg hc19, if_neg hc29, if_neg hc34, if_neg hc39, if_neg hc44, if_neg hc49, if_neg hc54, if_pos hc59]; rfl
         ·iterate 6 refine AX ?_
          refine AWP.cx rfl (fun hc77 => ?_) (fun hc77 => ?_)
          ·iterate 5 refine AX ?_
           refine .s rfl (zC Tryz.call63 (.cons (tm rfl) (.cons (tm rfl) (.cons (tm rfl) (.cons (.func _) .nil)))) (aeG l hk hg x x_b x_t u u_b u_t (fun x y => ahU (afJ x y)) 64 Tryz.call64 (fun x y hx hy H => baG x y hx hy H) f hf b _ ((Heap.objs_set_ne _ _ h8b.symm).trans hb))) ?_
           rintro _ _ ⟨rfl, f1, hf1, rfl⟩
           rw [Heap.set_comm h8b]
           replace hb8 : (H.set b (.box 189 (qT f1))).objs b8 = none := (Heap.objs_set_ne _ _ h8b).trans hb8
           refine .e0 (zB Tryz.sizeOf24 (tm rfl) (tm rfl) rfl rfl (.inr ⟨_, rfl⟩) (Heap.objs_set_same _ _ _) (Nat.le_of_ble_eq_true rfl)) ?_
           try first | rw [Heap.set_set] | rw [Heap.set_under (by assumption)]
           iterate 2 refine AX ?_
           refine AWP.frz (t := 8) rfl (hb8) ?_
           iterate 3 refine AX ?_
           refine Ret.go (.cons (.cellI _ _ _ _ rfl Tryz.isAgg24 Tryz.sizeOf24 rfl) .nil) _ (Heap.le.refl _) ?_
           refine ⟨?_, f1, hf1, rfl⟩
           unfold yB
           rw [if_neg hc14, if_neg hc19, if_neg hc29, if_neg hc34, if_neg hc39, if_neg hc44, if_neg hc49, if_neg hc54, if_neg hc59, if_pos hc77]; rfl
          ·iterate 6 refine AX ?_
           refine AWP.cx rfl (fun hc83 => ?_) (fun hc83 => ?_)
           ·iterate 5 refine AX ?_
            refine .s rfl (zC Tryz.call63 (.cons (tm rfl) (.cons (tm rfl) (.cons (tm rfl) (.cons (.func _) .nil)))) (aeG l hk hg x x_b x_t u u_b u_t (fun x y => ahU (afJ x (amV y))) 65 Tryz.call65 (fun x y hx hy H => baD x y hx hy H) f hf b _ ((Heap.objs_set_ne _ _ h8b.symm).trans hb))) ?_
            rintro _ _ ⟨rfl, f1, hf1, rfl⟩
            rw [Heap.set_comm h8b]
            replace hb8 : (H.set b (.box 189 (qT f1))).objs b8 = none := (Heap.objs_set_ne _ _ h8b).trans hb8
            refine .e0 (zB Tryz.sizeOf24 (tm rfl) (tm rfl) rfl rfl (.inr ⟨_, rfl⟩) (Heap.objs_set_same _ _ _) (Nat.le_of_ble_eq_true rfl)) ?_
            try first | rw [Heap.set_set] | rw [Heap.set_under (by assumption)]
            iterate 2 refine AX ?_
            refine AWP.frz (t := 8) rfl (hb8) ?_
            iterate 3 refine AX ?_
            refine Ret.go (.cons (.cellI _ _ _ _ rfl Tryz.isAgg24 Tryz.sizeOf24 rfl) .nil) _ (Heap.le.refl _) ?_
            refine ⟨?_, f1, hf1, rfl⟩
            unfold yB
            rw [if_neg hc14, if_neg hc19, if_neg hc29, if_neg hc34, if_neg hc39, if_neg hc44, if_neg hc49, if_neg hc54, if_neg hc59, if_neg hc77, if_pos hc83]; rfl
           ·iterate 6 refine AX ?_
            refine AWP.cx rfl (fun hc89 => ?_) (fun hc89 => ?_)
            ·iterate 5 refine AX ?_
             refine .s rfl (zC Tryz.call63 (.cons (tm rfl) (.cons (tm rfl) (.cons (tm rfl) (.cons (.func _) .nil)))) (aeG l hk hg x x_b x_t u u_b u_t (fun x y => ahU (adH x y)) 66 Tryz.call66 (fun x y hx hy H => baE x y hx hy H) f hf b _ ((Heap.objs_set_ne _ _ h8b.symm).trans hb))) ?_
             rintro _ _ ⟨rfl, f1, hf1, rfl⟩
             rw [Heap.set_comm h8b]
             replace hb8 : (H.set b (.box 189 (qT f1))).objs b8 = none := (Heap.objs_set_ne _ _ h8b).trans hb8
             refine .e0 (zB Tryz.sizeOf24 (tm rfl) (tm rfl) rfl rfl (.inr ⟨_, rfl⟩) (Heap.objs_set_same _ _ _) (Nat.le_of_ble_eq_true rfl)) ?_
             try first | rw [Heap.set_set] | rw [Heap.set_under (by assumption)]
             iterate 2 refine AX ?_
             refine AWP.frz (t := 8) rfl (hb8) ?_
             iterate 3 refine AX ?_
             refine Ret.go (.cons (.cellI _ _ _ _ rfl Tryz.isAgg24 Tryz.sizeOf24 rfl) .nil) _ (Heap.le.refl _) ?_
             refine ⟨?_, f1, hf1, rfl⟩
             unfold yB
             rw [if_neg hc14, if_neg hc19, if_neg hc29, if_neg hc34, if_neg hc39, if_neg hc44, if_neg hc49, if_neg hc54, if_neg hc59, if_neg hc77, if_neg hc83, if_pos hc89]; rfl
            ·iterate 6 refine AX ?_
             refine AWP.cx rfl (fun hc95 => ?_) (fun hc95 => ?_)
             ·iterate 5 refine AX ?_
              refine .s rfl (zC Tryz.call63 (.cons (tm rfl) (.cons (tm rfl) (.cons (tm rfl) (.cons (.func _) .nil)))) (aeG l hk hg x x_b x_t u u_b u_t divV 67 Tryz.call67 (fun x y hx hy H => baF x y hx hy H) f hf b _ ((Heap.objs_set_ne _ _ h8b.symm).trans hb))) ?_
              rintro _ _ ⟨rfl, f1, hf1, rfl⟩
              rw [Heap.set_comm h8b]
              replace hb8 : (H.set b (.box 189 (qT f1))).objs b8 = none := (Heap.objs_set_ne _ _ h8b).trans hb8
              refine .e0 (zB Tryz.sizeOf24 (tm rfl) (tm rfl) rfl rfl (.inr ⟨_, rfl⟩) (Heap.objs_set_same _ _ _) (Nat.le_of_ble_eq_true rfl)) ?_
              try first | rw [Heap.set_set] | rw [Heap.set_under (by assumption)]
              iterate 2 refine AX ?_
              refine AWP.frz (t := 8) rfl (hb8) ?_
              iterate 3 refine AX ?_
              refine Ret.go (.cons (.cellI _ _ _ _ rfl Tryz.isAgg24 Tryz.sizeOf24 rfl) .nil) _ (Heap.le.refl _) ?_
              refine ⟨?_, f1, hf1, rfl⟩
              unfold yB
              rw [if_neg hc14, if_neg hc19, if_neg hc29, if_neg hc34, if_neg hc39, if_neg hc44, if_neg hc49, if_neg hc54, if_neg hc59, if_neg hc77, if_neg hc83, if_neg hc89, if_pos hc95]; rfl
             ·iterate 6 refine AX ?_
              refine AWP.cx rfl (fun hc101 => ?_) (fun hc101 => ?_)
              ·iterate 5 refine AX ?_
               refine .s rfl (zC Tryz.call63 (.cons (tm rfl) (.cons (tm rfl) (.cons (tm rfl) (.cons (.func _) .nil)))) (aeG l hk hg x x_b x_t u u_b u_t axH 68 Tryz.call68 (fun x y hx hy H => asH x y hx hy H) f hf b _ ((Heap.objs_set_ne _ _ h8b.symm).trans hb))) ?_
               rintro _ _ ⟨rfl, f1, hf1, rfl⟩
               rw [Heap.set_comm h8b]
               replace hb8 : (H.set b (.box 189 (qT f1))).objs b8 = none := (Heap.objs_set_ne _ _ h8b).trans hb8
               refine .e0 (zB Tryz.sizeOf24 (tm rfl) (tm rfl) rfl rfl (.inr ⟨_, rfl⟩) (Heap.objs_set_same _ _ _) (Nat.le_of_ble_eq_true rfl)) ?_
               try first | rw [Heap.set_set] | rw [Heap.set_under (by assumption)]
               iterate 2 refine AX ?_
               refine AWP.frz (t := 8) rfl (hb8) ?_
               iterate 3 refine AX ?_
               refine Ret.go (.cons (.cellI _ _ _ _ rfl Tryz.isAgg24 Tryz.sizeOf24 rfl) .nil) _ (Heap.le.refl _) ?_
               refine ⟨?_, f1, hf1, rfl⟩
               unfold yB
               rw [if_neg hc14, if_neg hc19, if_neg hc29, if_neg hc34, if_neg hc39, if_neg hc44, if_neg hc49, if_neg hc54, if_neg hc59, if_neg hc77, if_neg hc83, if_neg hc89, if_neg hc95, if_pos hc101]; rfl
              ·iterate 5 refine AX ?_
               refine .cl rfl Tryz.call53 (.cons zI .nil) (yZ _ _) (.e0 (zB Tryz.sizeOf24 (tm rfl) (tm rfl) rfl rfl (.inr ⟨_, rfl⟩) (Heap.objs_set_same _ _ _) (Nat.le_of_ble_eq_true rfl)) ?_)
               try first | rw [Heap.set_set] | rw [Heap.set_under (by assumption)]
               iterate 2 refine AX ?_
               refine AWP.frz (t := 8) rfl (hb8) ?_
               refine AX ?_
               refine Ret.go (.cons (.cellI _ _ _ _ rfl Tryz.isAgg24 Tryz.sizeOf24 rfl) .nil) _ (Heap.le.refl _) ?_
               refine ⟨?_, f, hf, (Heap.set_self hb).symm⟩
               unfold yB
               rw [if_neg hc14, if_neg hc19, if_neg hc29, if_neg hc34, if_neg hc39, if_neg hc44, if_neg hc49, if_neg hc54, if_neg hc59, if_neg hc77, if_neg hc83, if_neg hc89, if_neg hc95, if_neg hc101]; rfl

end Go.Proofs.YtmmgbnolccpjoaaGreatDoor
