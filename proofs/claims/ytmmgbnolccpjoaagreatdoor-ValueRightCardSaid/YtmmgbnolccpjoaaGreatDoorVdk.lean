import Derived.Test.YtmmgbnolccpjoaaGreatDoorYd
import Derived.Test.YtmmgbnolccpjoaaGreatDoorSsk
import Derived.Test.YtmmgbnolccpjoaaGreatDoorVbk
import Derived.Test.YtmmgbnolccpjoaaGreatDoorV4
namespace Go.Proofs.YtmmgbnolccpjoaaGreatDoor
open Go Go.RowKit

def ops17 : List (List UInt8) := [[43], [45], [42], [47], [94], [38], [61], [60, 62], [60], [60, 61], [62], [62, 61], [37]]

theorem ops_len : ops17.length = 13 := rfl

attribute [local irreducible] yB aaU yO

set_option maxRecDepth 100000 in
theorem bbY (hsh : ∀ H, ACall Tryz.prog 8 [] H (fun y H' => y = .bool true ∧ H' = H)) (c : Int) (hc : -9223372036854775808 ≤ c ∧ c ≤ 9223372036854775807) (v : Val) (v_b : v.bits < 18446744073709551616) (v_m : v.text.length ≤ maxLen) (w : Val) (w_b : w.bits < 18446744073709551616) (w_m : w.text.length ≤ maxLen) (d : Int) (hd : -9223372036854775808 ≤ d ∧ d ≤ 9223372036854775807) (H : Heap) : ACall Tryz.prog 7 [.int .i64 c, v.av, w.av, .int .i64 d] H (fun y H' => y = .bool true ∧ H' = H) := by
 refine ACall.of_body Tryz.func7 rfl Tryz.ntmps7 Tryz.results7 rfl ?_
 iterate 2 refine AX ?_
 refine .e rfl (zO (tm rfl) (.inr ⟨_, rfl⟩)) (.e rfl (zO (tm rfl) (.inr ⟨_, rfl⟩)) ?_)
 iterate 5 refine AX ?_
 refine .cl rfl Tryz.call8 .nil (hsh _) ?_
 iterate 6 refine AX ?_
 refine .cl rfl Tryz.call30 (evs1 rfl) (adK v v_b v_m _) ?_
 iterate 6 refine AX ?_
 refine .cl rfl Tryz.call30 (evs1 rfl) (adK w w_b w_m _) ?_
 iterate 4 refine AX ?_
 refine AWP.seqTo 34 (.bool (!yO v || !yO w)) [0, 3, 5, 6, 8, 9] ?_ ?_
 ·-- region 4
  iterate 8 refine AX ?_
  refine zH (t := 31) rfl (fun hg31 => ?_) (fun hg31 => ?_)
  ·iterate 4 refine AX ?_
   exact ⟨rfl, zS rfl (by (simp_all; done)) sX, rfl⟩
  ·iterate 4 refine AX ?_
   exact ⟨rfl, zS rfl (by (simp_all; done)) sX, rfl⟩
 ·refine AWP.sub [(34, _), (0, _), (3, _), (5, _), (6, _), (8, _), (9, _)] sX ?_
  refine AWP.cx rfl (fun hc34 => ?_) (fun hc34 => ?_)
  ·iterate 8 refine AX ?_
   refine Ret.go (.cons (.tmp _ _ rfl) .nil) _ (Heap.le.refl _) ?_
   exact ⟨rfl, rfl⟩
  ·simp only [Bool.or_eq_false_iff, Bool.not_eq_false'] at hc34
   obtain ⟨ra, rb⟩ := hc34
   have ta := adV ra
   have tb := adV rb
   iterate 5 refine AX ?_
   refine .s rfl (zC Tryz.call10 (evs1 rfl) (avR d hd _)) ?_
   rintro _ _ ⟨⟨l, hlm, rfl⟩, hH⟩
   obtain rfl := hH.symm
   have hk := aaB l hlm
   have hgr := qI l hlm
   iterate 3 refine AX ?_
   refine .s rfl (zG Tryz.zeroValue29 (zr29)) ?_
   rintro _ _ ⟨b12, hb12, rfl, hH⟩
   obtain rfl := hH.symm
   refine .s rfl (zG Tryz.zeroValue31 (zr31)) ?_
   rintro _ _ ⟨b13, hb13, rfl, hH⟩
   obtain rfl := hH.symm
   have hn12_13 := Heap.ne_of (Heap.objs_set_same _ _ _) hb13
   refine .e0 (zB Tryz.sizeOf29 (tm rfl) (tm rfl) rfl rfl (.inr ⟨_, rfl⟩) ((Heap.objs_set_ne _ _ (by assumption)).trans (Heap.objs_set_same _ _ _)) (Nat.le_of_ble_eq_true rfl)) ?_
   try first | rw [Heap.set_set] | rw [Heap.set_under (by assumption)]
   refine .e0 (zB Tryz.sizeOf31 (tm rfl) (tm rfl) rfl rfl (.inr ⟨_, rfl⟩) (Heap.objs_set_same _ _ _) (Nat.le_of_ble_eq_true rfl)) ?_
   try first | rw [Heap.set_set] | rw [Heap.set_under (by assumption)]
   iterate 2 refine AX ?_
   refine AWP.frz (t := 13) rfl (Heap.fresh_set hb13 _) ?_
   refine AWP.frz (t := 12) rfl (hb12) ?_
   iterate 3 refine AX ?_
   refine .s rfl (zC Tryz.call11 (evs1 rfl) (anD l _)) ?_
   rintro _ _ ⟨b, hb0, rfl, rfl⟩
   iterate 5 refine AX ?_
   refine .s rfl (aoV Tryz.underlying51 Tryz.sizeOf9 Tryz.zeroValue9 rfl rfl rfl (.cons (zM rfl) (.inl rfl) (.cons (zM rfl) (.inl rfl) (.cons (zM rfl) (.inl rfl) (.cons (zM rfl) (.inl rfl) (.cons (zM rfl) (.inl rfl) (.cons (zM rfl) (.inl rfl) (.cons (zM rfl) (.inl rfl) (.cons (zM rfl) (.inl rfl) (.cons (zM rfl) (.inl rfl) (.cons (zM rfl) (.inl rfl) (.cons (zM rfl) (.inl rfl) (.cons (zM rfl) (.inl rfl) (.cons (zM rfl) (.inl rfl) .nil))))))))))))) (aaH ⟨rfl, rfl⟩ (aaH ⟨rfl, rfl⟩ (aaH ⟨rfl, rfl⟩ (aaH ⟨rfl, rfl⟩ (aaH ⟨rfl, rfl⟩ (aaH ⟨rfl, rfl⟩ (aaH ⟨rfl, rfl⟩ (aaH ⟨rfl, rfl⟩ (aaH ⟨rfl, rfl⟩ (aaH ⟨rfl, rfl⟩ (aaH ⟨rfl, rfl⟩ (aaH ⟨rfl, rfl⟩ (aaH ⟨rfl, rfl⟩ bdP)))))))))))))) ?_
   rintro y43 _ ⟨hv43, hH⟩
   replace hv43 : y43 = .slice 1 (ops17.map AV.str) .full := hv43
   subst hv43
   obtain rfl := hH.symm
   refine AX ?_
   refine .s rfl (zC Tryz.call24 (.cons (tm rfl) (.cons zI .nil)) (anW 13 (by decide) c hc _)) ?_
   rintro _ _ ⟨⟨k, hk13, rfl⟩, hH⟩
   obtain rfl := hH.symm
   have hkl : ((k : Nat) : Int).toNat < ops17.length := by rw [ops_len]; omega
   iterate 6 refine AX ?_
   obtain ⟨op, hop⟩ : ∃ op, op = ops17[((k : Nat) : Int).toNat]'hkl := ⟨_, rfl⟩
   rw [← hop]
   have hb1 := awG (l := l) (op := op) v_b w_b
   have hu1 := ayU (l := l) (op := op) v_b
   have hb2 : (yB l op v w).text.length ≤ maxLen := Nat.le_trans (adV (ajG ra rb)) (by rw [zN]; decide)
   have hu2 : (aaU l op v).text.length ≤ maxLen := Nat.le_trans (adV (agE ra)) (by rw [zN]; decide)
   iterate 5 refine AX ?_
   refine .s rfl (zC Tryz.call22 (.cons (tm rfl) (evs3 rfl rfl rfl)) (yT l hk hgr op v v_b ta w w_b tb (aiA hlm ra) (aiA hlm rb) aoF asS b _ (Heap.objs_set_same _ _ _))) ?_
   rintro _ _ ⟨rfl, f1, hf1, rfl⟩
   rw [Heap.set_set]
   refine .s rfl (zG Tryz.zeroValue24 (zr24)) ?_
   rintro _ _ ⟨b16, hb16, rfl, hH⟩
   obtain rfl := hH.symm
   refine .e0 (zB Tryz.sizeOf24 (tm rfl) (tm rfl) rfl rfl (.inr ⟨_, rfl⟩) (Heap.objs_set_same _ _ _) (Nat.le_of_ble_eq_true rfl)) ?_
   try first | rw [Heap.set_set] | rw [Heap.set_under (by assumption)]
   iterate 2 refine AX ?_
   refine AWP.frz (t := 16) rfl (hb16) ?_
   iterate 5 refine AX ?_
   refine .s rfl (zC Tryz.call20 (evs3 rfl rfl rfl) (agU l hk hgr op v v_b ta f1 hf1 b _ (Heap.objs_set_same _ _ _))) ?_
   rintro _ _ ⟨rfl, f2, hf2, rfl⟩
   rw [Heap.set_set]
   refine .s rfl (zG Tryz.zeroValue24 (zr24)) ?_
   rintro _ _ ⟨b17, hb17, rfl, hH⟩
   obtain rfl := hH.symm
   refine .e0 (zB Tryz.sizeOf24 (tm rfl) (tm rfl) rfl rfl (.inr ⟨_, rfl⟩) (Heap.objs_set_same _ _ _) (Nat.le_of_ble_eq_true rfl)) ?_
   try first | rw [Heap.set_set] | rw [Heap.set_under (by assumption)]
   iterate 2 refine AX ?_
   refine AWP.frz (t := 17) rfl (hb17) ?_
   iterate 3 refine AX ?_
   refine .cl rfl Tryz.call30 (evs1 rfl) (adK (yB l op v w) hb1 hb2 _) ?_
   iterate 6 refine AX ?_
   refine .cl rfl Tryz.call30 (evs1 rfl) (adK (aaU l op v) hu1 hu2 _) ?_
   iterate 6 refine AX ?_
   refine .p rfl (zA Tryz.underlying24 rfl Tryz.sizeOf3 (tm rfl)) ?_
   iterate 4 refine AX ?_
   refine AWP.cx rfl (fun hc63 => ?_) (fun hc63 => ?_)
   ·refine AWP.seqTo 8 (.bool (decide (yB l op v w = v) && decide (aaU l op v = v))) [6, 16, 18, 19] ?_ ?_
    ·-- region 14
     iterate 3 refine AX ?_
     refine .p rfl (yH Tryz.eqGuardType24 (tm rfl) (tm rfl) (eqVal (yB l op v w) (v))) ?_
     refine AX ?_
     refine zH (t := 67) rfl (fun hg67 => ?_) (fun hg67 => ?_)
     ·iterate 2 refine AX ?_
      refine .gp rfl rfl rfl (by assumption) (yH Tryz.eqGuardType24 (tm rfl) (tm rfl) (eqVal (aaU l op v) (v))) ?_
      iterate 3 refine AX ?_
      exact ⟨rfl, zS rfl (by (rw [hg67]; rfl)) sX, rfl⟩
     ·iterate 6 refine AX ?_
      exact ⟨rfl, zS rfl (by (rw [hg67]; rfl)) sX, rfl⟩
    ·refine AWP.sub [(8, _), (6, _), (16, _), (18, _), (19, _)] sX ?_
     iterate 2 refine AX ?_
     refine Ret.go (.cons (.tmp _ _ rfl) .nil) H (Heap.le_set hb0 _) ?_
     refine ⟨?_, rfl⟩
     have hl := akS (l := l) (op := op) ra rb
     rw [if_pos hc63] at hl
     exact congrArg AV.bool hl
   ·iterate 5 refine AX ?_
    refine .p rfl (zA Tryz.underlying24 rfl Tryz.sizeOf3 (tm rfl)) ?_
    iterate 4 refine AX ?_
    refine AWP.cx rfl (fun hc74 => ?_) (fun hc74 => ?_)
    ·refine AWP.seqTo 8 (.bool (decide (yB l op v w = w) && yO (aaU l op v))) [18, 19] ?_ ?_
     ·-- region 16
      iterate 3 refine AX ?_
      refine .p rfl (yH Tryz.eqGuardType24 (tm rfl) (tm rfl) (eqVal (yB l op v w) (w))) ?_
      refine AX ?_
      refine zH (t := 78) rfl (fun hg78 => ?_) (fun hg78 => ?_)
      ·iterate 4 refine AX ?_
       exact ⟨rfl, zS rfl (by (rw [hg78]; rfl)) sX, rfl⟩
      ·iterate 4 refine AX ?_
       exact ⟨rfl, zS rfl (by (rw [hg78]; rfl)) sX, rfl⟩
     ·refine AWP.sub [(8, _), (18, _), (19, _)] sX ?_
      iterate 2 refine AX ?_
      refine Ret.go (.cons (.tmp _ _ rfl) .nil) H (Heap.le_set hb0 _) ?_
      refine ⟨?_, rfl⟩
      have hl := akS (l := l) (op := op) ra rb
      rw [if_neg hc63, if_pos hc74] at hl
      exact congrArg AV.bool hl
    ·iterate 2 refine AX ?_
     refine AWP.seqTo 8 (.bool (yO (yB l op v w) && yO (aaU l op v))) [] ?_ ?_
     ·-- region 17
      iterate 3 refine AX ?_
      refine zH (t := 82) rfl (fun hg82 => ?_) (fun hg82 => ?_)
      ·iterate 4 refine AX ?_
       exact ⟨rfl, zS rfl (by (rw [hg82]; rfl)) qM, rfl⟩
      ·iterate 4 refine AX ?_
       exact ⟨rfl, zS rfl (by (rw [hg82]; rfl)) qM, rfl⟩
     ·refine AWP.sub [(8, _)] (zP rfl qM) ?_
      refine AX ?_
      refine Ret.go (.cons (.tmp _ _ rfl) .nil) H (Heap.le_set hb0 _) ?_
      refine ⟨?_, rfl⟩
      have hl := akS (l := l) (op := op) ra rb
      rw [if_neg hc63, if_neg hc74] at hl
      exact congrArg AV.bool hl

end Go.Proofs.YtmmgbnolccpjoaaGreatDoor
