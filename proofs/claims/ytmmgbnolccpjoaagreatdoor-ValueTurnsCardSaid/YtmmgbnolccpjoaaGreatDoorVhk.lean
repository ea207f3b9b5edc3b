import Derived.Test.YtmmgbnolccpjoaaGreatDoorVfk
set_option maxHeartbeats 1000000
namespace Go.Proofs.YtmmgbnolccpjoaaGreatDoor
open Go.Proofs.Tryz
open Go Go.RowKit
set_option maxRecDepth 100000

attribute [local irreducible] qV aaV abB agG

theorem bnL (hsh : ∀ H, ACall prog 8 [] H (fun y H' => y = .bool true ∧ H' = H)) (v : Val) (v_b : v.bits < 18446744073709551616) (v_m : v.text.length ≤ maxLen) (c : Int) (hc : -9223372036854775808 ≤ c ∧ c ≤ 9223372036854775807) (H : Heap) : ACall prog 3 [v.av, .int .i64 c] H (fun y H' => y = .bool true ∧ H' = H) := by
 refine ACall.of_body func3 rfl ntmps3 results3 rfl ?_
 iterate 8 refine AX ?_
 refine .cl rfl call8 .nil (hsh _) ?_
 iterate 6 refine AX ?_
 refine .cl rfl call9 (evs1 rfl) (awQ v v_b _) ?_
 iterate 4 refine AX ?_
 refine AWP.seqTo 30 (.bool (!agG v)) [1, 2, 4, 5] ?_ ?_
 ·-- region 3
  iterate 8 refine AX ?_
  exact ⟨rfl, zO rfl aD sX, rfl⟩
 refine AWP.sub [(30, _), (1, _), (2, _), (4, _), (5, _)] sX ?_
 refine AWP.cx rfl (fun hc30 => ?_) (fun hc30 => ?_)
 ·iterate 9 refine AX ?_
  exact ⟨rfl, rfl⟩
 have ra : agG v = true := by simpa using hc30
 have ta := auG ra
 iterate 5 refine AX ?_
 refine .s rfl (zB call10 (evs1 rfl) (bfC c hc _)) ?_
 rintro _ _ ⟨⟨l, hlm, rfl⟩, hH⟩
 obtain rfl := hH.symm
 have hk := abF l hlm
 have hgr := aaC l hlm
 have hle := bxA l hlm
 have h76 : decide ((((qV l v).1 : Nat) : Int) = (((qV l v).1 : Nat) : Int)) = true := bG rfl
 have h80 : decide ((qV l v).2 = (qV l v).2) = true := bG rfl
 have h85 : decide ((aaV v).1 = (aaV v).1) = true := bG rfl
 have h85b : ((aaV v).1 == (aaV v).1) = true := beq_self_eq_true _
 have h90 : decide ((aaV v).2 = (aaV v).2) = true := bG rfl
 have h95 : decide ((abB l v).1 = (abB l v).1) = true := bG rfl
 have h100 : decide ((abB l v).2 = (abB l v).2) = true := bG rfl
 iterate 3 refine AX ?_
 refine .al zr29 (fun b7 hb7 => ?_)
 refine .al zr31 (fun b8 hb8 => ?_)
 have hn7_8 := Heap.ne_of (oS _ _ _) hb8
 iterate 4 refine AX ?_
 refine AWP.frz (t := 8) rfl (fS hb8 _) ?_
 refine AWP.frz (t := 7) rfl (hb7) ?_
 iterate 3 refine AX ?_
 refine .s rfl (zB call11 (evs1 rfl) (atL l _)) ?_
 rintro _ _ ⟨b, hb0, rfl, rfl⟩
 iterate 7 refine AX ?_
 refine .s rfl (zB C12 (evs2 rfl rfl) (aaE l hk hgr v v_b ta avA bbD b _ (oS _ _ _))) ?_
 rintro _ _ ⟨rfl, f1, hf1, rfl⟩
 rw [sS]
 iterate 11 refine AX ?_
 refine .cl rfl call13 (evs2 rfl rfl) (aqQ l hle hk hgr v v_b ta _) ?_
 rw [← buW ra]
 iterate 11 refine AX ?_
 refine .cl rfl C14 (evs2 rfl rfl) (agF _ v v_b ta _) ?_
 iterate 10 refine AX ?_
 refine .cl rfl call15 (evs1 rfl) (awP v v_b ta _) ?_
 rw [← boI v_b ra]
 iterate 11 refine AX ?_
 refine .cl rfl call16 (evs2 rfl rfl) (aiZ l hk b v v_b ta _) ?_
 iterate 11 refine AX ?_
 refine .cl rfl call17 (evs2 rfl rfl) (awO l hk v v_b ta _) ?_
 rw [← boH ra]
 iterate 20 refine AX ?_
 refine .gp rfl rfl rfl aB (baB U4 (tm rfl) (tm rfl)) ?_
 iterate 20 refine AX ?_
 refine Ret.go (.cons (.tmp _ _ rfl) .nil) H (Heap.le_set hb0 _) ?_
 exact ⟨congrArg AV.bool h100, rfl⟩

end Go.Proofs.YtmmgbnolccpjoaaGreatDoor
