/-
  The six laws, walked: each comes to true, and leaves what it was given.
-/
import Derived.Test.YtdibiongjkmlpaaGs
namespace Go.Proofs.Ytdibiongjkmlpaa
open Go Go.RowKit

set_option maxRecDepth 100000 in
theorem Afters_calls (l : List RNode) (tl : Tail) (hl : l.length ≤ maxLen) (hall : ∀ r, r ∈ l → r.ok) (cells : List Int) (tl2 : Tail) (hcl : cells.length ≤ maxLen) (h64 : I64s cells) (H : Heap) : ACall Try.prog 3 [.slice 2 (l.map RNode.av) tl, .slice 1 (cells.map (.int .i64)) tl2] H (fun x H' => x = .bool true ∧ H' = H) := by
  refine ACall.of_body Try.func3 rfl Try.ntmps3 Try.results3 rfl ?_
  refine AWP.seq ?_
  -- region 0
  refine AWP.region ?_
  refine AList.p rfl (pure_assign ev_bool) ?_
  refine AList.nil ?_
  refine Next.go ?_
  refine AWP.seq ?_
  -- region 1
  refine AWP.region ?_
  refine AList.s rfl (step_call0 Try.call9 .nil (shown_calls _)) ?_
  rintro _ _ ⟨rfl, hH⟩
  obtain rfl := hH.symm
  refine AList.p rfl (pure_assign (.tmp _ _ rfl)) ?_
  refine AList.nil ?_
  refine Next.go ?_
  refine AWP.seq ?_
  refine AWP.seq ?_
  -- region 2
  refine AWP.region ?_
  refine AList.p rfl (pure_move (.tmp _ _ rfl)) ?_
  refine AList.p rfl (pure_not (.tmp _ _ rfl)) ?_
  refine AList.nil ?_
  refine Next.go ?_
  -- c0
  refine AWP.cond_false (.tmp _ _ rfl) (by first | rfl | assumption) ?_
  refine AWP.skip ?_
  refine Next.go ?_
  refine AWP.seq ?_
  -- region 4
  refine AWP.region ?_
  refine AList.p rfl (pure_move (.tmp _ _ rfl)) ?_
  refine AList.s rfl (step_call0 Try.call10 (.cons (.tmp _ _ rfl) .nil) (made_calls l tl hl hall _)) ?_
  rintro _ H0 ⟨b, m, b2, rfl, hle, hb0, hm0, hb20, hb2m, hb2b, hp, hrb⟩
  have hok := (mk_ok (l.take 40) (by simp; omega)).mono (k := 40) (by simp; omega)
  have hmok := mM_ok (l.take 40)
  generalize mM (l.take 40) = M at *
  generalize mG (l.take 40) = G at *
  refine AList.p rfl (pure_move (.tmp _ _ rfl)) ?_
  refine AList.p rfl (pure_extract (.tmp _ _ rfl) rfl) ?_
  refine AList.p rfl (pure_extract (.tmp _ _ rfl) rfl) ?_
  refine AList.p rfl (pure_extract (.tmp _ _ rfl) rfl) ?_
  refine AList.p rfl (pure_assign (.tmp _ _ rfl)) ?_
  refine AList.p rfl (pure_assign (.tmp _ _ rfl)) ?_
  refine AList.p rfl (pure_assign (.tmp _ _ rfl)) ?_
  refine AList.nil ?_
  refine Next.go ?_
  refine AWP.seq ?_
  -- region 5
  refine AWP.region ?_
  refine AList.p rfl (pure_move (.tmp _ _ rfl)) ?_
  refine AList.s rfl (step_call0 Try.call11 (.cons (.tmp _ _ rfl) .nil) (some_calls cells _ hcl h64 _)) ?_
  rintro _ _ ⟨rfl, hH⟩
  obtain rfl := hH
  have hcsl := someL_len cells
  have hcs64 := someL_64 h64
  generalize someL cells = cs at *
  refine AList.p rfl (pure_assign (.tmp _ _ rfl)) ?_
  refine AList.nil ?_
  refine Next.go ?_
  refine AWP.seq ?_
  -- region 6
  refine AWP.region ?_
  refine AList.p rfl (pure_move (.tmp _ _ rfl)) ?_
  refine AList.p rfl (pure_move (.tmp _ _ rfl)) ?_
  refine AList.gp rfl rfl rfl (by first | rfl | assumption) (pure_move (.tmp _ _ rfl)) ?_
  refine AList.gp rfl rfl rfl (by first | rfl | assumption) (pure_move (.tmp _ _ rfl)) ?_
  refine AList.gs rfl rfl rfl (by first | rfl | assumption) (step_call0 Try.call13 (.cons (.tmp _ _ rfl) (.cons (.tmp _ _ rfl) .nil)) (pAfter_calls b m M hok.hA (hok.hM (by omega)) hok.hk cs _ (by omega) hcs64 _ hp)) ?_
  rintro _ _ ⟨inn25, hnd25, hin25, rfl, hH⟩
  obtain rfl := hH.symm
  refine AList.gp rfl rfl rfl (by first | rfl | assumption) (pure_move (.tmp _ _ rfl)) ?_
  refine AList.gp rfl rfl rfl (by first | rfl | assumption) (pure_move (.tmp _ _ rfl)) ?_
  refine AList.gs rfl rfl rfl (by first | rfl | assumption) (step_call0 Try.call14 (.cons (.tmp _ _ rfl) (.cons (.tmp _ _ rfl) .nil)) (rAfter_calls b2 G (hok.hG (by omega)) hok.hAG hok.h64c cs _ (by omega) hcs64 _ hrb)) ?_
  rintro _ _ ⟨inn2, hin2, rfl, hH⟩
  obtain rfl := hH
  refine AList.gs rfl rfl rfl (by first | rfl | assumption) (step_call0 Try.call12 (.cons (.tmp _ _ rfl) (.cons (.tmp _ _ rfl) .nil)) (same_e _ _ _ _ _ (hok.tie.after hnd25 hin25 hin2))) ?_
  rintro _ _ ⟨rfl, hH⟩
  obtain rfl := hH.symm
  refine AList.p rfl (pure_pickT (.tmp _ _ rfl) (by first | rfl | assumption) (.tmp _ _ rfl)) ?_
  refine AList.p rfl (pure_assign (.tmp _ _ rfl)) ?_
  refine AList.nil ?_
  refine Next.go ?_
  refine AWP.ret ?_
  -- ret 0
  refine Ret.go (.cons (.tmp _ _ rfl) .nil) _ (hle) ?_
  exact ⟨rfl, rfl⟩

set_option maxRecDepth 100000 in
theorem Orders_calls (l : List RNode) (tl : Tail) (hl : l.length ≤ maxLen) (hall : ∀ r, r ∈ l → r.ok) (cells : List Int) (tl2 : Tail) (hcl : cells.length ≤ maxLen) (h64 : I64s cells) (H : Heap) : ACall Try.prog 4 [.slice 2 (l.map RNode.av) tl, .slice 1 (cells.map (.int .i64)) tl2] H (fun x H' => x = .bool true ∧ H' = H) := by
  refine ACall.of_body Try.func4 rfl Try.ntmps4 Try.results4 rfl ?_
  refine AWP.seq ?_
  -- region 0
  refine AWP.region ?_
  refine AList.p rfl (pure_assign ev_bool) ?_
  refine AList.nil ?_
  refine Next.go ?_
  refine AWP.seq ?_
  -- region 1
  refine AWP.region ?_
  refine AList.s rfl (step_call0 Try.call9 .nil (shown_calls _)) ?_
  rintro _ _ ⟨rfl, hH⟩
  obtain rfl := hH.symm
  refine AList.p rfl (pure_assign (.tmp _ _ rfl)) ?_
  refine AList.nil ?_
  refine Next.go ?_
  refine AWP.seq ?_
  refine AWP.seq ?_
  -- region 2
  refine AWP.region ?_
  refine AList.p rfl (pure_move (.tmp _ _ rfl)) ?_
  refine AList.p rfl (pure_not (.tmp _ _ rfl)) ?_
  refine AList.nil ?_
  refine Next.go ?_
  -- c0
  refine AWP.cond_false (.tmp _ _ rfl) (by first | rfl | assumption) ?_
  refine AWP.skip ?_
  refine Next.go ?_
  refine AWP.seq ?_
  -- region 4
  refine AWP.region ?_
  refine AList.p rfl (pure_move (.tmp _ _ rfl)) ?_
  refine AList.s rfl (step_call0 Try.call10 (.cons (.tmp _ _ rfl) .nil) (made_calls l tl hl hall _)) ?_
  rintro _ H0 ⟨b, m, b2, rfl, hle, hb0, hm0, hb20, hb2m, hb2b, hp, hrb⟩
  have hok := (mk_ok (l.take 40) (by simp; omega)).mono (k := 40) (by simp; omega)
  have hmok := mM_ok (l.take 40)
  generalize mM (l.take 40) = M at *
  generalize mG (l.take 40) = G at *
  refine AList.p rfl (pure_move (.tmp _ _ rfl)) ?_
  refine AList.p rfl (pure_extract (.tmp _ _ rfl) rfl) ?_
  refine AList.p rfl (pure_extract (.tmp _ _ rfl) rfl) ?_
  refine AList.p rfl (pure_extract (.tmp _ _ rfl) rfl) ?_
  refine AList.p rfl (pure_assign (.tmp _ _ rfl)) ?_
  refine AList.p rfl (pure_assign (.tmp _ _ rfl)) ?_
  refine AList.p rfl (pure_assign (.tmp _ _ rfl)) ?_
  refine AList.nil ?_
  refine Next.go ?_
  refine AWP.seq ?_
  refine AWP.seq ?_
  -- region 5
  refine AWP.region ?_
  refine AList.p rfl (pure_move (.tmp _ _ rfl)) ?_
  refine AList.p rfl (pure_not (.tmp _ _ rfl)) ?_
  refine AList.nil ?_
  refine Next.go ?_
  -- c1
  refine AWP.cond_false (.tmp _ _ rfl) (by first | rfl | assumption) ?_
  refine AWP.skip ?_
  refine Next.go ?_
  refine AWP.seq ?_
  -- region 7
  refine AWP.region ?_
  refine AList.p rfl (pure_move (.tmp _ _ rfl)) ?_
  refine AList.s rfl (step_call0 Try.call11 (.cons (.tmp _ _ rfl) .nil) (some_calls cells _ hcl h64 _)) ?_
  rintro _ _ ⟨rfl, hH⟩
  obtain rfl := hH
  have hcsl := someL_len cells
  have hcs64 := someL_64 h64
  generalize someL cells = cs at *
  refine AList.p rfl (pure_assign (.tmp _ _ rfl)) ?_
  refine AList.nil ?_
  refine Next.go ?_
  refine AWP.seq ?_
  -- region 8
  refine AWP.region ?_
  refine AList.p rfl (pure_move (.tmp _ _ rfl)) ?_
  refine AList.p rfl (pure_move (.tmp _ _ rfl)) ?_
  refine AList.s rfl (step_call0 Try.call15 (.cons (.tmp _ _ rfl) (.cons (.tmp _ _ rfl) .nil)) (pOrder_calls b m M hok.hA cs _ (by omega) hcs64 _ hp)) ?_
  rintro _ _ ⟨rfl, hH⟩
  obtain rfl := hH.symm
  refine AList.p rfl (pure_move (.tmp _ _ rfl)) ?_
  refine AList.p rfl (pure_extract (.tmp _ _ rfl) rfl) ?_
  refine AList.p rfl (pure_extract (.tmp _ _ rfl) rfl) ?_
  refine AList.p rfl (pure_assign (.tmp _ _ rfl)) ?_
  refine AList.p rfl (pure_assign (.tmp _ _ rfl)) ?_
  refine AList.nil ?_
  refine Next.go ?_
  refine AWP.seq ?_
  -- region 9
  refine AWP.region ?_
  refine AList.p rfl (pure_move (.tmp _ _ rfl)) ?_
  refine AList.p rfl (pure_move (.tmp _ _ rfl)) ?_
  refine AList.s rfl (step_call0 Try.call16 (.cons (.tmp _ _ rfl) (.cons (.tmp _ _ rfl) .nil)) (rOrder_calls b2 G (hok.hG (by omega)) hok.hAG cs _ (by omega) _ hrb)) ?_
  rw [← hok.tie.needsOne, ← pRising_eq]
  rintro _ _ ⟨rfl, hH⟩
  obtain rfl := hH
  refine AList.p rfl (pure_move (.tmp _ _ rfl)) ?_
  refine AList.p rfl (pure_extract (.tmp _ _ rfl) rfl) ?_
  refine AList.p rfl (pure_extract (.tmp _ _ rfl) rfl) ?_
  refine AList.p rfl (pure_assign (.tmp _ _ rfl)) ?_
  refine AList.p rfl (pure_assign (.tmp _ _ rfl)) ?_
  refine AList.nil ?_
  refine Next.go ?_
  refine AWP.seq ?_
  -- region 10
  refine AWP.region ?_
  refine AList.p rfl (pure_move (.tmp _ _ rfl)) ?_
  refine AList.p rfl (pure_move (.tmp _ _ rfl)) ?_
  refine AList.s rfl (step_call0 Try.call12 (.cons (.tmp _ _ rfl) (.cons (.tmp _ _ rfl) .nil)) (same_e _ _ _ _ _ rfl)) ?_
  rintro _ _ ⟨rfl, hH⟩
  obtain rfl := hH.symm
  refine AList.p rfl (pure_move (.tmp _ _ rfl)) ?_
  refine AList.gp rfl rfl rfl (by first | rfl | assumption) (pure_move (.tmp _ _ rfl)) ?_
  refine AList.gp rfl rfl rfl (by first | rfl | assumption) (pure_move (.tmp _ _ rfl)) ?_
  refine AList.gs rfl rfl rfl (by first | rfl | assumption) (step_call0 Try.call12 (.cons (.tmp _ _ rfl) (.cons (.tmp _ _ rfl) .nil)) (same_e _ _ _ _ _ rfl)) ?_
  rintro _ _ ⟨rfl, hH⟩
  obtain rfl := hH.symm
  refine AList.p rfl (pure_pickT (.tmp _ _ rfl) (by first | rfl | assumption) (.tmp _ _ rfl)) ?_
  refine AList.p rfl (pure_assign (.tmp _ _ rfl)) ?_
  refine AList.nil ?_
  refine Next.go ?_
  refine AWP.ret ?_
  -- ret 0
  refine Ret.go (.cons (.tmp _ _ rfl) .nil) _ (hle) ?_
  exact ⟨rfl, rfl⟩

set_option maxRecDepth 100000 in
theorem Sets_calls (l : List RNode) (tl : Tail) (hl : l.length ≤ maxLen) (hall : ∀ r, r ∈ l → r.ok) (c : Int) (hc : -9223372036854775808 ≤ c ∧ c ≤ 9223372036854775807) (H : Heap) : ACall Try.prog 7 [.slice 2 (l.map RNode.av) tl, .int .i64 c] H (fun x H' => x = .bool true ∧ H' = H) := by
  refine ACall.of_body Try.func7 rfl Try.ntmps7 Try.results7 rfl ?_
  refine AWP.seq ?_
  -- region 0
  refine AWP.region ?_
  refine AList.p rfl (pure_assign ev_bool) ?_
  refine AList.nil ?_
  refine Next.go ?_
  refine AWP.seq ?_
  -- region 1
  refine AWP.region ?_
  refine AList.s rfl (step_call0 Try.call9 .nil (shown_calls _)) ?_
  rintro _ _ ⟨rfl, hH⟩
  obtain rfl := hH.symm
  refine AList.p rfl (pure_assign (.tmp _ _ rfl)) ?_
  refine AList.nil ?_
  refine Next.go ?_
  refine AWP.seq ?_
  refine AWP.seq ?_
  -- region 2
  refine AWP.region ?_
  refine AList.p rfl (pure_move (.tmp _ _ rfl)) ?_
  refine AList.p rfl (pure_not (.tmp _ _ rfl)) ?_
  refine AList.nil ?_
  refine Next.go ?_
  -- c0
  refine AWP.cond_false (.tmp _ _ rfl) (by first | rfl | assumption) ?_
  refine AWP.skip ?_
  refine Next.go ?_
  refine AWP.seq ?_
  -- region 4
  refine AWP.region ?_
  refine AList.p rfl (pure_move (.tmp _ _ rfl)) ?_
  refine AList.s rfl (step_call0 Try.call10 (.cons (.tmp _ _ rfl) .nil) (made_calls l tl hl hall _)) ?_
  rintro _ H0 ⟨b, m, b2, rfl, hle, hb0, hm0, hb20, hb2m, hb2b, hp, hrb⟩
  have hok := (mk_ok (l.take 40) (by simp; omega)).mono (k := 40) (by simp; omega)
  have hmok := mM_ok (l.take 40)
  generalize mM (l.take 40) = M at *
  generalize mG (l.take 40) = G at *
  refine AList.p rfl (pure_move (.tmp _ _ rfl)) ?_
  refine AList.p rfl (pure_extract (.tmp _ _ rfl) rfl) ?_
  refine AList.p rfl (pure_extract (.tmp _ _ rfl) rfl) ?_
  refine AList.p rfl (pure_extract (.tmp _ _ rfl) rfl) ?_
  refine AList.p rfl (pure_assign (.tmp _ _ rfl)) ?_
  refine AList.p rfl (pure_assign (.tmp _ _ rfl)) ?_
  refine AList.p rfl (pure_assign (.tmp _ _ rfl)) ?_
  refine AList.nil ?_
  refine Next.go ?_
  refine AWP.seq ?_
  refine AWP.seq ?_
  -- region 5
  refine AWP.region ?_
  refine AList.p rfl (pure_move (.tmp _ _ rfl)) ?_
  refine AList.p rfl (pure_not (.tmp _ _ rfl)) ?_
  refine AList.p rfl (pure_move (.tmp _ _ rfl)) ?_
  refine AList.gp rfl rfl rfl (by first | rfl | assumption) (pure_move (.tmp _ _ rfl)) ?_
  refine AList.gs rfl rfl rfl (by first | rfl | assumption) (step_call0 Try.call21 (.cons (.tmp _ _ rfl) .nil) (pCells_calls b m M _ (hok.hM (by omega)) hok.hk hp)) ?_
  rintro _ _ ⟨rfl, hH⟩
  obtain rfl := hH.symm
  refine AList.gp rfl rfl rfl (by first | rfl | assumption) (pure_move (.tmp _ _ rfl)) ?_
  refine AList.gs rfl rfl rfl (by first | rfl | assumption) (step_call0 Try.call22 (.cons (.tmp _ _ rfl) .nil) (rCells_calls b2 G (hok.hG (by omega)) _ hrb)) ?_
  rw [← hok.tie.cells]
  rintro _ _ ⟨rfl, hH⟩
  obtain rfl := hH
  refine AList.gs rfl rfl rfl (by first | rfl | assumption) (step_call0 Try.call12 (.cons (.tmp _ _ rfl) (.cons (.tmp _ _ rfl) .nil)) (same_e _ _ _ _ _ rfl)) ?_
  rintro _ _ ⟨rfl, hH⟩
  obtain rfl := hH.symm
  refine AList.gp rfl rfl rfl (by first | rfl | assumption) (pure_not (.tmp _ _ rfl)) ?_
  refine AList.p rfl (pure_pickF (.tmp _ _ rfl) (by first | rfl | assumption) (.tmp _ _ rfl)) ?_
  refine AList.p rfl (pure_move (.tmp _ _ rfl)) ?_
  refine AList.gp rfl rfl rfl (by first | rfl | assumption) (pure_move (.tmp _ _ rfl)) ?_
  refine AList.gp rfl rfl rfl (by first | rfl | assumption) (pure_move (.tmp _ _ rfl)) ?_
  refine AList.gs rfl rfl rfl (by first | rfl | assumption) (step_call0 Try.call18 (.cons (.tmp _ _ rfl) (.cons (.tmp _ _ rfl) .nil)) (pDirect_calls b m M hok.hA (hok.hM (by omega)) hok.hk _ (by first | assumption | omega) _ hp)) ?_
  rintro _ _ ⟨rfl, hH⟩
  obtain rfl := hH.symm
  refine AList.gp rfl rfl rfl (by first | rfl | assumption) (pure_move (.tmp _ _ rfl)) ?_
  refine AList.gp rfl rfl rfl (by first | rfl | assumption) (pure_move (.tmp _ _ rfl)) ?_
  refine AList.gs rfl rfl rfl (by first | rfl | assumption) (step_call0 Try.call23 (.cons (.tmp _ _ rfl) (.cons (.tmp _ _ rfl) .nil)) (rDirect_calls b2 G (hok.hG (by omega)) hok.hAG _ (by first | assumption | omega) _ hrb)) ?_
  rw [← hok.tie.direct]
  rintro _ _ ⟨rfl, hH⟩
  obtain rfl := hH
  refine AList.gs rfl rfl rfl (by first | rfl | assumption) (step_call0 Try.call12 (.cons (.tmp _ _ rfl) (.cons (.tmp _ _ rfl) .nil)) (same_e _ _ _ _ _ rfl)) ?_
  rintro _ _ ⟨rfl, hH⟩
  obtain rfl := hH.symm
  refine AList.gp rfl rfl rfl (by first | rfl | assumption) (pure_not (.tmp _ _ rfl)) ?_
  refine AList.p rfl (pure_pickF (.tmp _ _ rfl) (by first | rfl | assumption) (.tmp _ _ rfl)) ?_
  refine AList.p rfl (pure_move (.tmp _ _ rfl)) ?_
  refine AList.gp rfl rfl rfl (by first | rfl | assumption) (pure_move (.tmp _ _ rfl)) ?_
  refine AList.gp rfl rfl rfl (by first | rfl | assumption) (pure_move (.tmp _ _ rfl)) ?_
  refine AList.gs rfl rfl rfl (by first | rfl | assumption) (step_call0 Try.call25 (.cons (.tmp _ _ rfl) (.cons (.tmp _ _ rfl) .nil)) (pAreas_calls b m M hok.hA _ _ hp)) ?_
  rintro _ _ ⟨rfl, hH⟩
  obtain rfl := hH.symm
  refine AList.gp rfl rfl rfl (by first | rfl | assumption) (pure_move (.tmp _ _ rfl)) ?_
  refine AList.gp rfl rfl rfl (by first | rfl | assumption) (pure_move (.tmp _ _ rfl)) ?_
  refine AList.gs rfl rfl rfl (by first | rfl | assumption) (step_call0 Try.call26 (.cons (.tmp _ _ rfl) (.cons (.tmp _ _ rfl) .nil)) (rAreas_calls b2 G (hok.hG (by omega)) _ _ hrb)) ?_
  rw [← hok.tie.areas]
  rintro _ _ ⟨rfl, hH⟩
  obtain rfl := hH
  refine AList.gs rfl rfl rfl (by first | rfl | assumption) (step_call0 Try.call24 (.cons (.tmp _ _ rfl) (.cons (.tmp _ _ rfl) .nil)) (sameAreas_e (pAreas M c) (pAreas M c) _ _ (by have := hok.areasM c; omega) _ rfl)) ?_
  rintro _ _ ⟨rfl, hH⟩
  obtain rfl := hH.symm
  refine AList.gp rfl rfl rfl (by first | rfl | assumption) (pure_not (.tmp _ _ rfl)) ?_
  refine AList.p rfl (pure_pickF (.tmp _ _ rfl) (by first | rfl | assumption) (.tmp _ _ rfl)) ?_
  refine AList.nil ?_
  refine Next.go ?_
  -- c1
  refine AWP.cond_false (.tmp _ _ rfl) (by first | rfl | assumption) ?_
  refine AWP.skip ?_
  refine Next.go ?_
  refine AWP.seq ?_
  -- region 7
  refine AWP.region ?_
  refine AList.p rfl (pure_move (.tmp _ _ rfl)) ?_
  refine AList.s rfl (step_call0 Try.call27 (.cons (.tmp _ _ rfl) .nil) (atRaw_calls _ hc _)) ?_
  rintro _ _ ⟨rfl, hH⟩
  obtain rfl := hH.symm
  have hca := atRaw_bd c hc
  have hce : isCell (atRaw c) = true := by unfold isCell; simp; omega
  generalize atRaw c = n at *
  refine AList.p rfl (pure_assign (.tmp _ _ rfl)) ?_
  refine AList.nil ?_
  refine Next.go ?_
  refine AWP.seq ?_
  -- region 8
  refine AWP.region ?_
  refine AList.p rfl (pure_move (.tmp _ _ rfl)) ?_
  refine AList.p rfl (pure_move (.tmp _ _ rfl)) ?_
  refine AList.s rfl (step_call0 Try.call18 (.cons (.tmp _ _ rfl) (.cons (.tmp _ _ rfl) .nil)) (pDirect_calls b m M hok.hA (hok.hM (by omega)) hok.hk _ (by first | assumption | omega) _ hp)) ?_
  rintro _ _ ⟨rfl, hH⟩
  obtain rfl := hH.symm
  refine AList.p rfl (pure_move (.tmp _ _ rfl)) ?_
  refine AList.p rfl (pure_move (.tmp _ _ rfl)) ?_
  refine AList.s rfl (step_call0 Try.call23 (.cons (.tmp _ _ rfl) (.cons (.tmp _ _ rfl) .nil)) (rDirect_calls b2 G (hok.hG (by omega)) hok.hAG _ (by first | assumption | omega) _ hrb)) ?_
  rw [← hok.tie.direct]
  rintro _ _ ⟨rfl, hH⟩
  obtain rfl := hH
  refine AList.s rfl (step_call0 Try.call12 (.cons (.tmp _ _ rfl) (.cons (.tmp _ _ rfl) .nil)) (same_e _ _ _ _ _ rfl)) ?_
  rintro _ _ ⟨rfl, hH⟩
  obtain rfl := hH.symm
  refine AList.p rfl (pure_move (.tmp _ _ rfl)) ?_
  refine AList.gp rfl rfl rfl (by first | rfl | assumption) (pure_move (.tmp _ _ rfl)) ?_
  refine AList.gp rfl rfl rfl (by first | rfl | assumption) (pure_move (.tmp _ _ rfl)) ?_
  refine AList.gs rfl rfl rfl (by first | rfl | assumption) (step_call0 Try.call25 (.cons (.tmp _ _ rfl) (.cons (.tmp _ _ rfl) .nil)) (pAreas_calls b m M hok.hA _ _ hp)) ?_
  rintro _ _ ⟨rfl, hH⟩
  obtain rfl := hH.symm
  refine AList.gp rfl rfl rfl (by first | rfl | assumption) (pure_move (.tmp _ _ rfl)) ?_
  refine AList.gp rfl rfl rfl (by first | rfl | assumption) (pure_move (.tmp _ _ rfl)) ?_
  refine AList.gs rfl rfl rfl (by first | rfl | assumption) (step_call0 Try.call26 (.cons (.tmp _ _ rfl) (.cons (.tmp _ _ rfl) .nil)) (rAreas_calls b2 G (hok.hG (by omega)) _ _ hrb)) ?_
  rw [← hok.tie.areas]
  rintro _ _ ⟨rfl, hH⟩
  obtain rfl := hH
  refine AList.gs rfl rfl rfl (by first | rfl | assumption) (step_call0 Try.call24 (.cons (.tmp _ _ rfl) (.cons (.tmp _ _ rfl) .nil)) (sameAreas_e (pAreas M n) (pAreas M n) _ _ (by have := hok.areasM n; omega) _ rfl)) ?_
  rintro _ _ ⟨rfl, hH⟩
  obtain rfl := hH.symm
  refine AList.p rfl (pure_pickT (.tmp _ _ rfl) (by first | rfl | assumption) (.tmp _ _ rfl)) ?_
  refine AList.p rfl (pure_assign (.tmp _ _ rfl)) ?_
  refine AList.nil ?_
  refine Next.go ?_
  refine AWP.ret ?_
  -- ret 0
  refine Ret.go (.cons (.tmp _ _ rfl) .nil) _ (hle) ?_
  exact ⟨rfl, rfl⟩

def rea_J (b m : Nat) (M : PG) (n : Int) (L : List Int) (H : Heap) : Nat → Env → Heap → Prop := fun k env H1 => ∃ (i t : Nat), i ≤ L.length ∧ (L.take i).any (fun y => decide (n ∈ pDirect M y)) = false ∧ env = [(0, .ptr (some ⟨b, 0, none⟩)), (1, .int .i64 n), (9, .slice 1 (L.map (.int .i64)) (.own t)), (10, .int .i64 i)] ∧ H.le H1 ∧ k = L.length - i

set_option maxRecDepth 100000 in
theorem reached_calls (b m : Nat) (M : PG) (hA : ∀ c, (pAreas M c).length ≤ 10000) (hM : M.length ≤ 10000) (hk : (M.map (·.1)).Nodup ∧ I64s (M.map (·.1))) (n : Int) (a c : List Int) (ta tc : Tail) (hac : a.length + c.length ≤ 100000) (ha64 : I64s a) (hc64 : I64s c) (H : Heap) (hp : PBox H b m M) : ACall Try.prog 19 [.ptr (some ⟨b, 0, none⟩), .int .i64 n, .slice 1 (a.map (.int .i64)) ta, .slice 1 (c.map (.int .i64)) tc] H (fun x H' => x = .bool ((a ++ c).any fun y => decide (n ∈ pDirect M y)) ∧ H' = H) := by
  have hle := Heap.le.refl H
  have h64l : I64s (a ++ c) := fun x hx => (List.mem_append.1 hx).elim (ha64 x) (hc64 x)
  have hll : (a ++ c).length ≤ 100000 := by simp; omega
  refine ACall.of_body Try.func19 rfl Try.ntmps19 Try.results19 rfl ?_
  refine AWP.seq ?_
  -- region 0
  refine AWP.region ?_
  refine AList.p rfl (pure_assign ev_bool) ?_
  refine AList.nil ?_
  refine Next.go ?_
  refine AWP.seq ?_
  -- region 1
  refine AWP.region ?_
  refine AList.s rfl (step_bs0 Try.underlying23 Try.sizeOf3 Try.zeroValue3 ) ?_
  rintro _ _ ⟨rfl, hH⟩
  obtain rfl := hH.symm
  refine AList.p rfl (pure_move (.tmp _ _ rfl)) ?_
  refine AList.s rfl (step_append Try.underlying23 Try.underlying23 Try.sizeOf3 Try.typeInfo3 Try.zeroValue3 rfl (by decide) (.tmp _ _ rfl) (.tmp _ _ rfl) (by exact .full) (by show (_ + _) * 8 ≤ _; simp; omega) (by repeat' (first | exact row_int _ | exact row_n | exact row_c ⟨rfl, rfl⟩ row_n | exact row_drop (row_int _) | exact row_take (row_int _) | refine row_app ?_ ?_ | exact row_n)) (by repeat' (first | exact row_int _ | exact row_n | exact row_c ⟨rfl, rfl⟩ row_n | exact row_drop (row_int _) | exact row_take (row_int _) | refine row_app ?_ ?_))) ?_
  rintro _ _ ⟨t14, ht14, rfl, hH⟩
  obtain rfl := hH.symm
  have hf14 := Heap.fresh_of hle ht14
  have hle14 := Heap.le_in hle t14
  refine AList.p rfl (pure_move (.tmp _ _ rfl)) ?_
  refine AList.s rfl (step_append Try.underlying23 Try.underlying23 Try.sizeOf3 Try.typeInfo3 Try.zeroValue3 rfl (by decide) (.tmp _ _ rfl) (.tmp _ _ rfl) (by exact .own _ (by first | assumption | exact Heap.toks_live_same _ _)) (by show (_ + _) * 8 ≤ _; simp; omega) (by repeat' (first | exact row_int _ | exact row_n | exact row_c ⟨rfl, rfl⟩ row_n | exact row_drop (row_int _) | exact row_take (row_int _) | refine row_app ?_ ?_ | exact row_int _)) (by repeat' (first | exact row_int _ | exact row_n | exact row_c ⟨rfl, rfl⟩ row_n | exact row_drop (row_int _) | exact row_take (row_int _) | refine row_app ?_ ?_))) ?_
  rintro _ _ ⟨t16, ht16, rfl, hH⟩
  obtain rfl := hH.symm
  have hf16 := Heap.fresh_of hle14 ht16
  have hle16 := Heap.le_in (Heap.le_out (t := t14) hle14 (by assumption)) t16
  refine AList.p rfl (pure_assign (.tmp _ _ rfl)) ?_
  refine AList.nil ?_
  refine Next.go ?_
  refine AWP.seq ?_
  refine AWP.seq ?_
  -- region 2
  refine AWP.region ?_
  refine AList.p rfl (pure_assign ev_int) ?_
  refine AList.nil ?_
  refine Next.go ?_
  refine AWP.block ?_
  -- L0
  refine AWP.loopW (rea_J b m M n (a ++ c) H) ((a ++ c).length) ⟨0, t16, Nat.zero_le _, rfl, rfl, hle16, by omega⟩ (sub_c rfl (sub_c rfl (sub_e rfl (slice_eq (by simp)) (sub_c rfl sub_n)))) (Heap.le.refl _) ?_
  rintro _ _ H1 ⟨i, t, hi, hno, rfl, hle, rfl⟩
  refine AWP.seq ?_
  refine AWP.seq ?_
  -- region 3
  refine AWP.region ?_
  refine AList.p rfl (pure_move (.tmp _ _ rfl)) ?_
  refine AList.p rfl (pure_move (.tmp _ _ rfl)) ?_
  first | (refine AList.p rfl (pure_lenL Try.underlying23 (.tmp _ _ rfl)) ?_) | (refine AList.p rfl (pure_lenS Try.underlying23 (.tmp _ _ rfl)) ?_) | (refine AList.p rfl (pure_lenM Try.underlying23 (.tmp _ _ rfl)) ?_)
  refine AList.p rfl (pure_lss (.tmp _ _ rfl) (.tmp _ _ rfl)) ?_
  refine AList.nil ?_
  refine Next.go ?_
  -- c0
  refine AWP.cond (.tmp _ _ rfl) (fun hc20 => ?_) (fun hc20 => ?_)
  · try simp only [decide_eq_true_eq] at hc20
    refine AWP.skip ?_
    refine Next.go ?_
    refine AWP.seq ?_
    refine AWP.block ?_
    refine AWP.seq ?_
    -- region 5
    refine AWP.region ?_
    refine AList.p rfl (pure_move (.tmp _ _ rfl)) ?_
    refine AList.p rfl (pure_move (.tmp _ _ rfl)) ?_
    refine AList.p rfl (pure_move (.tmp _ _ rfl)) ?_
    first | (refine AList.p rfl (pure_indexL Try.underlying23 Try.sizeOf3 (.tmp _ _ rfl) (.tmp _ _ rfl) (by omega) (by omega)) ?_) | (refine AList.p rfl (pure_indexM Try.underlying23 Try.sizeOf3 (.tmp _ _ rfl) (.tmp _ _ rfl) (by omega) (by omega)) ?_)
    first | (refine AList.p rfl (pure_load1 Try.isAgg3 (.tmp _ _ rfl)) ?_) | (refine AList.s rfl (step_load1 Try.isAgg3 (.tmp _ _ rfl) (by first | assumption | exact (by assumption : Heap.le _ _).objs _ _ (by assumption) | exact Heap.objs_set_same _ _ _ | exact (Heap.objs_set_ne _ _ (by assumption)).trans (Heap.objs_set_same _ _ _) | exact (Heap.objs_set_ne _ _ (by assumption)).trans ((Heap.objs_set_ne _ _ (by assumption)).trans (Heap.objs_set_same _ _ _)) | exact (Heap.objs_set_ne _ _ (by assumption)).trans (by assumption)) rfl) ?_; rintro _ _ ⟨rfl, hH⟩; obtain rfl := hH.symm)
    refine AList.s rfl (step_call0 Try.call18 (.cons (.tmp _ _ rfl) (.cons (.tmp _ _ rfl) .nil)) (pDirect_calls b m M hA hM hk _ (h64l _ (List.getElem_mem _)) _ (hp.mono hle))) ?_
    rintro _ _ ⟨rfl, hH⟩
    obtain rfl := hH.symm
    refine AList.p rfl (pure_move (.tmp _ _ rfl)) ?_
    refine AList.s rfl (step_call0 Try.call17 (.cons (.tmp _ _ rfl) (.cons (.tmp _ _ rfl) .nil)) (has_e _ _ _ _)) ?_
    rintro _ _ ⟨rfl, hH⟩
    obtain rfl := hH.symm
    refine AList.p rfl (pure_assign (.tmp _ _ rfl)) ?_
    refine AList.nil ?_
    refine Next.go ?_
    refine AWP.seq ?_
    -- region 6
    refine AWP.region ?_
    refine AList.p rfl (pure_move (.tmp _ _ rfl)) ?_
    refine AList.nil ?_
    refine Next.go ?_
    -- c1
    refine AWP.cond (.tmp _ _ rfl) (fun hc31 => ?_) (fun hc31 => ?_)
    · try simp only [decide_eq_true_eq] at hc31
      refine AWP.seq ?_
      -- region 7
      refine AWP.region ?_
      refine AList.p rfl (pure_assign ev_bool) ?_
      refine AList.nil ?_
      refine Next.go ?_
      refine AWP.ret ?_
      refine Block.rt ?_
      refine Next.rt ?_
      refine Next.rt ?_
      refine Block.rt ?_
      refine Next.rt ?_
      -- ret 0
      refine Ret.go (.cons (.tmp _ _ rfl) .nil) _ (hle) ?_
      refine ⟨?_, rfl⟩
      show AV.bool true = _
      rw [List.any_eq_true.2 ⟨_, List.getElem_mem _, by simpa using hc31⟩]
    · try simp only [decide_eq_false_iff_not] at hc31
      refine AWP.skip ?_
      refine Block.go ?_
      refine Next.go ?_
      -- region 4
      refine AWP.region ?_
      refine AList.p rfl (pure_move (.tmp _ _ rfl)) ?_
      refine AList.p rfl (pure_add (.tmp _ _ rfl) ev_int (by omega)) ?_
      refine AList.p rfl (pure_assign (.tmp _ _ rfl)) ?_
      refine AList.nil ?_
      refine Next.go ?_
      refine Round.mk (J := rea_J b m M n (a ++ c) H) ⟨i + 1, t, by omega, by rw [take_succ_get (a ++ c) i (by omega), List.any_append, hno]; simpa using hc31, rfl, hle, rfl⟩ (sub_c rfl (sub_c rfl (sub_c rfl (sub_c rfl sub_n)))) (Heap.le.refl _) (by omega)
  · try simp only [decide_eq_false_iff_not, Int.not_lt] at hc20
    refine AWP.exit ?_
    refine Next.ex ?_
    refine Next.ex ?_
    refine Block.hit ?_
    refine Next.go ?_
    refine AWP.seq ?_
    -- region 8
    refine AWP.region ?_
    refine AList.p rfl (pure_assign ev_bool) ?_
    refine AList.nil ?_
    refine Next.go ?_
    refine AWP.ret ?_
    -- ret 1
    refine Ret.go (.cons (.tmp _ _ rfl) .nil) _ (hle) ?_
    refine ⟨?_, rfl⟩
    rw [List.take_of_length_le (by omega)] at hno
    rw [hno]
    rfl

theorem reached_t (b m : Nat) (M : PG) (hA : ∀ c, (pAreas M c).length ≤ 10000) (hM : M.length ≤ 10000) (hk : (M.map (·.1)).Nodup ∧ I64s (M.map (·.1))) (n : Int) (a c : List Int) (ta tc : Tail) (hac : a.length + c.length ≤ 100000) (ha64 : I64s a) (hc64 : I64s c) (H : Heap) (hp : PBox H b m M)
    (h : ((a ++ c).any fun y => decide (n ∈ pDirect M y)) = true) : ACall Try.prog 19 [.ptr (some ⟨b, 0, none⟩), .int .i64 n, .slice 1 (a.map (.int .i64)) ta, .slice 1 (c.map (.int .i64)) tc] H fun x H' => x = .bool true ∧ H' = H :=
  (reached_calls b m M hA hM hk n a c ta tc hac ha64 hc64 H hp).mono fun _ _ ⟨hx, hH⟩ => ⟨by rw [hx, h], hH⟩

def gr_J0 (b m : Nat) (M : PG) (cs a bb : List Int) (H : Heap) : Nat → Env → Heap → Prop := fun k env H1 => ∃ i : Nat, i ≤ bb.length ∧ env = [(6, .ptr (some ⟨b, 0, none⟩)), (9, .slice 1 (cs.map (.int .i64)) .shared), (10, .slice 1 (a.map (.int .i64)) .shared), (11, .slice 1 (bb.map (.int .i64)) .shared), (12, .int .i64 i)] ∧ PBox H1 b m M ∧ H.le H1 ∧ k = bb.length - i

def gr_J1 (b m : Nat) (M : PG) (cs a : List Int) (H : Heap) : Nat → Env → Heap → Prop := fun k env H1 => ∃ i : Nat, i ≤ cs.length ∧ env = [(6, .ptr (some ⟨b, 0, none⟩)), (9, .slice 1 (cs.map (.int .i64)) .shared), (10, .slice 1 (a.map (.int .i64)) .shared), (14, .int .i64 i)] ∧ PBox H1 b m M ∧ H.le H1 ∧ k = cs.length - i

def gr_J2 (b m : Nat) (M : PG) (cs a d : List Int) (i : Nat) (H : Heap) : Nat → Env → Heap → Prop := fun k env H1 => ∃ j : Nat, j ≤ d.length ∧ env = [(6, .ptr (some ⟨b, 0, none⟩)), (9, .slice 1 (cs.map (.int .i64)) .shared), (10, .slice 1 (a.map (.int .i64)) .shared), (14, .int .i64 i), (15, .slice 1 (d.map (.int .i64)) .shared), (16, .int .i64 j)] ∧ PBox H1 b m M ∧ H.le H1 ∧ k = d.length - j

def gr_J3 (b m : Nat) (M : PG) (cs a : List Int) (H : Heap) : Nat → Env → Heap → Prop := fun k env H1 => ∃ i : Nat, i ≤ a.length ∧ env = [(6, .ptr (some ⟨b, 0, none⟩)), (9, .slice 1 (cs.map (.int .i64)) .shared), (10, .slice 1 (a.map (.int .i64)) .shared), (18, .int .i64 i)] ∧ PBox H1 b m M ∧ H.le H1 ∧ k = a.length - i

set_option maxRecDepth 100000 in
theorem Reaches_calls (l : List RNode) (tl : Tail) (hl : l.length ≤ maxLen) (hall : ∀ r, r ∈ l → r.ok) (cells : List Int) (tl2 : Tail) (hcl : cells.length ≤ maxLen) (h64 : I64s cells) (H : Heap) : ACall Try.prog 5 [.slice 2 (l.map RNode.av) tl, .slice 1 (cells.map (.int .i64)) tl2] H (fun x H' => x = .bool true ∧ H' = H) := by
  refine ACall.of_body Try.func5 rfl Try.ntmps5 Try.results5 rfl ?_
  refine AWP.seq ?_
  -- region 0
  refine AWP.region ?_
  refine AList.p rfl (pure_assign ev_bool) ?_
  refine AList.nil ?_
  refine Next.go ?_
  refine AWP.seq ?_
  -- region 1
  refine AWP.region ?_
  refine AList.s rfl (step_call0 Try.call9 .nil (shown_calls _)) ?_
  rintro _ _ ⟨rfl, hH⟩
  obtain rfl := hH.symm
  refine AList.p rfl (pure_assign (.tmp _ _ rfl)) ?_
  refine AList.nil ?_
  refine Next.go ?_
  refine AWP.seq ?_
  refine AWP.seq ?_
  -- region 2
  refine AWP.region ?_
  refine AList.p rfl (pure_move (.tmp _ _ rfl)) ?_
  refine AList.p rfl (pure_not (.tmp _ _ rfl)) ?_
  refine AList.nil ?_
  refine Next.go ?_
  -- c0
  refine AWP.cond_false (.tmp _ _ rfl) (by first | rfl | assumption) ?_
  refine AWP.skip ?_
  refine Next.go ?_
  refine AWP.seq ?_
  -- region 4
  refine AWP.region ?_
  refine AList.p rfl (pure_move (.tmp _ _ rfl)) ?_
  refine AList.s rfl (step_call0 Try.call10 (.cons (.tmp _ _ rfl) .nil) (made_calls l tl hl hall _)) ?_
  rintro _ H0 ⟨b, m, b2, rfl, hle, hb0, hm0, hb20, hb2m, hb2b, hp, hrb⟩
  have hok := (mk_ok (l.take 40) (by simp; omega)).mono (k := 40) (by simp; omega)
  have hmok := mM_ok (l.take 40)
  generalize mM (l.take 40) = M at *
  generalize mG (l.take 40) = G at *
  refine AList.p rfl (pure_move (.tmp _ _ rfl)) ?_
  refine AList.p rfl (pure_extract (.tmp _ _ rfl) rfl) ?_
  refine AList.p rfl (pure_extract (.tmp _ _ rfl) rfl) ?_
  refine AList.p rfl (pure_extract (.tmp _ _ rfl) rfl) ?_
  refine AList.p rfl (pure_assign (.tmp _ _ rfl)) ?_
  refine AList.p rfl (pure_assign (.tmp _ _ rfl)) ?_
  refine AList.p rfl (pure_assign (.tmp _ _ rfl)) ?_
  refine AList.nil ?_
  refine Next.go ?_
  refine AWP.seq ?_
  refine AWP.seq ?_
  -- region 5
  refine AWP.region ?_
  refine AList.p rfl (pure_move (.tmp _ _ rfl)) ?_
  refine AList.p rfl (pure_not (.tmp _ _ rfl)) ?_
  refine AList.nil ?_
  refine Next.go ?_
  -- c1
  refine AWP.cond_false (.tmp _ _ rfl) (by first | rfl | assumption) ?_
  refine AWP.skip ?_
  refine Next.go ?_
  refine AWP.seq ?_
  -- region 7
  refine AWP.region ?_
  refine AList.p rfl (pure_move (.tmp _ _ rfl)) ?_
  refine AList.s rfl (step_call0 Try.call11 (.cons (.tmp _ _ rfl) .nil) (some_calls cells _ hcl h64 _)) ?_
  rintro _ _ ⟨rfl, hH⟩
  obtain rfl := hH
  have hcsl := someL_len cells
  have hcs64 := someL_64 h64
  generalize someL cells = cs at *
  refine AList.p rfl (pure_assign (.tmp _ _ rfl)) ?_
  refine AList.nil ?_
  refine Next.go ?_
  refine AWP.seq ?_
  -- region 8
  refine AWP.region ?_
  refine AList.p rfl (pure_move (.tmp _ _ rfl)) ?_
  refine AList.p rfl (pure_move (.tmp _ _ rfl)) ?_
  refine AList.s rfl (step_call0 Try.call13 (.cons (.tmp _ _ rfl) (.cons (.tmp _ _ rfl) .nil)) (pAfter_calls b m M hok.hA (hok.hM (by omega)) hok.hk cs _ (by omega) hcs64 _ hp)) ?_
  rintro _ _ ⟨inn35, hnd35, hin35, rfl, hH⟩
  obtain rfl := hH.symm
  have hup := sorted_up hnd35
  have ham : ∀ x, x ∈ inn35.mergeSort (fun x y => decide (x ≤ y)) ↔ Hangs (pNeeds M) (M.map (·.1)) cs x := fun x => (sorted_mem _ x).trans (hin35 x)
  generalize inn35.mergeSort (fun x y => decide (x ≤ y)) = a at *
  have hal := hangs_len hup ham
  rw [List.length_map] at hal
  have hMl := hok.hM (by omega)
  have ha64 : I64s a := fun x hx => hok.hk.2 x ((ham x).1 hx).mem
  refine AList.p rfl (pure_assign (.tmp _ _ rfl)) ?_
  refine AList.nil ?_
  refine Next.go ?_
  refine AWP.seq ?_
  -- region 9
  refine AWP.region ?_
  refine AList.p rfl (pure_move (.tmp _ _ rfl)) ?_
  refine AList.p rfl (pure_move (.tmp _ _ rfl)) ?_
  refine AList.s rfl (step_call0 Try.call13 (.cons (.tmp _ _ rfl) (.cons (.tmp _ _ rfl) .nil)) (pAfter_calls b m M hok.hA (hok.hM (by omega)) hok.hk a _ (by omega) ha64 _ hp)) ?_
  rintro _ _ ⟨inn38, hnd38, hin38, rfl, hH⟩
  obtain rfl := hH.symm
  have hupb := sorted_up hnd38
  have hbm : ∀ x, x ∈ inn38.mergeSort (fun x y => decide (x ≤ y)) ↔ Hangs (pNeeds M) (M.map (·.1)) a x := fun x => (sorted_mem _ x).trans (hin38 x)
  generalize inn38.mergeSort (fun x y => decide (x ≤ y)) = bb at *
  have hbl := hangs_len hupb hbm
  rw [List.length_map] at hbl
  refine AList.p rfl (pure_assign (.tmp _ _ rfl)) ?_
  refine AList.nil ?_
  refine Next.go ?_
  refine AWP.seq ?_
  refine AWP.seq ?_
  -- region 10
  refine AWP.region ?_
  refine AList.p rfl (pure_assign ev_int) ?_
  refine AList.nil ?_
  refine Next.go ?_
  refine AWP.block ?_
  -- L0
  refine AWP.loopW (gr_J0 b m M cs a bb H) (bb.length) ⟨0, Nat.zero_le _, rfl, hp, hle, by omega⟩ (sub_c rfl (sub_c rfl (sub_c rfl (sub_c rfl (sub_c rfl sub_n))))) (Heap.le.refl _) ?_
  rintro _ _ H1 ⟨i, hi, rfl, hp, hle, rfl⟩
  refine AWP.seq ?_
  refine AWP.seq ?_
  -- region 11
  refine AWP.region ?_
  refine AList.p rfl (pure_move (.tmp _ _ rfl)) ?_
  refine AList.p rfl (pure_move (.tmp _ _ rfl)) ?_
  first | (refine AList.p rfl (pure_lenL Try.underlying23 (.tmp _ _ rfl)) ?_) | (refine AList.p rfl (pure_lenS Try.underlying23 (.tmp _ _ rfl)) ?_) | (refine AList.p rfl (pure_lenM Try.underlying23 (.tmp _ _ rfl)) ?_)
  refine AList.p rfl (pure_lss (.tmp _ _ rfl) (.tmp _ _ rfl)) ?_
  refine AList.nil ?_
  refine Next.go ?_
  -- c2
  refine AWP.cond (.tmp _ _ rfl) (fun hc42 => ?_) (fun hc42 => ?_)
  · try simp only [decide_eq_true_eq] at hc42
    refine AWP.skip ?_
    refine Next.go ?_
    refine AWP.seq ?_
    refine AWP.block ?_
    refine AWP.seq ?_
    -- region 13
    refine AWP.region ?_
    refine AList.p rfl (pure_move (.tmp _ _ rfl)) ?_
    refine AList.p rfl (pure_move (.tmp _ _ rfl)) ?_
    refine AList.p rfl (pure_move (.tmp _ _ rfl)) ?_
    first | (refine AList.p rfl (pure_indexL Try.underlying23 Try.sizeOf3 (.tmp _ _ rfl) (.tmp _ _ rfl) (by omega) (by omega)) ?_) | (refine AList.p rfl (pure_indexM Try.underlying23 Try.sizeOf3 (.tmp _ _ rfl) (.tmp _ _ rfl) (by omega) (by omega)) ?_)
    first | (refine AList.p rfl (pure_load1 Try.isAgg3 (.tmp _ _ rfl)) ?_) | (refine AList.s rfl (step_load1 Try.isAgg3 (.tmp _ _ rfl) (by first | assumption | exact (by assumption : Heap.le _ _).objs _ _ (by assumption) | exact Heap.objs_set_same _ _ _ | exact (Heap.objs_set_ne _ _ (by assumption)).trans (Heap.objs_set_same _ _ _) | exact (Heap.objs_set_ne _ _ (by assumption)).trans ((Heap.objs_set_ne _ _ (by assumption)).trans (Heap.objs_set_same _ _ _)) | exact (Heap.objs_set_ne _ _ (by assumption)).trans (by assumption)) rfl) ?_; rintro _ _ ⟨rfl, hH⟩; obtain rfl := hH.symm)
    refine AList.s rfl (step_call0 Try.call17 (.cons (.tmp _ _ rfl) (.cons (.tmp _ _ rfl) .nil)) (has_t a _ _ _ ((ham _).2 (Hangs.trans (fun x hx => (ham x).1 hx) ((hbm _).1 (List.getElem_mem _)))))) ?_
    rintro _ _ ⟨rfl, hH⟩
    obtain rfl := hH.symm
    refine AList.p rfl (pure_assign (.tmp _ _ rfl)) ?_
    refine AList.nil ?_
    refine Next.go ?_
    refine AWP.seq ?_
    -- region 14
    refine AWP.region ?_
    refine AList.p rfl (pure_move (.tmp _ _ rfl)) ?_
    refine AList.p rfl (pure_not (.tmp _ _ rfl)) ?_
    refine AList.nil ?_
    refine Next.go ?_
    -- c3
    refine AWP.cond_false (.tmp _ _ rfl) (by first | rfl | assumption) ?_
    refine AWP.skip ?_
    refine Block.go ?_
    refine Next.go ?_
    -- region 12
    refine AWP.region ?_
    refine AList.p rfl (pure_move (.tmp _ _ rfl)) ?_
    refine AList.p rfl (pure_add (.tmp _ _ rfl) ev_int (by omega)) ?_
    refine AList.p rfl (pure_assign (.tmp _ _ rfl)) ?_
    refine AList.nil ?_
    refine Next.go ?_
    refine Round.mk (J := gr_J0 b m M cs a bb H) ⟨i + 1, by omega, rfl, hp, hle, rfl⟩ (sub_c rfl (sub_c rfl (sub_c rfl (sub_c rfl (sub_c rfl sub_n))))) (Heap.le.refl _) (by omega)
  · try simp only [decide_eq_false_iff_not, Int.not_lt] at hc42
    refine AWP.exit ?_
    refine Next.ex ?_
    refine Next.ex ?_
    refine Block.hit ?_
    refine Next.go ?_
    refine AWP.seq ?_
    refine AWP.seq ?_
    -- region 16
    refine AWP.region ?_
    refine AList.p rfl (pure_assign ev_int) ?_
    refine AList.nil ?_
    refine Next.go ?_
    refine AWP.block ?_
    -- L1
    refine AWP.loopW (gr_J1 b m M cs a H) (cs.length) ⟨0, Nat.zero_le _, rfl, hp, hle, by omega⟩ (sub_c rfl (sub_c rfl (sub_c rfl (sub_c rfl sub_n)))) (Heap.le.refl _) ?_
    rintro _ _ H1 ⟨i, hi, rfl, hp, hle, rfl⟩
    refine AWP.seq ?_
    refine AWP.seq ?_
    -- region 17
    refine AWP.region ?_
    refine AList.p rfl (pure_move (.tmp _ _ rfl)) ?_
    refine AList.p rfl (pure_move (.tmp _ _ rfl)) ?_
    first | (refine AList.p rfl (pure_lenL Try.underlying23 (.tmp _ _ rfl)) ?_) | (refine AList.p rfl (pure_lenS Try.underlying23 (.tmp _ _ rfl)) ?_) | (refine AList.p rfl (pure_lenM Try.underlying23 (.tmp _ _ rfl)) ?_)
    refine AList.p rfl (pure_lss (.tmp _ _ rfl) (.tmp _ _ rfl)) ?_
    refine AList.nil ?_
    refine Next.go ?_
    -- c4
    refine AWP.cond (.tmp _ _ rfl) (fun hc56 => ?_) (fun hc56 => ?_)
    · try simp only [decide_eq_true_eq] at hc56
      refine AWP.skip ?_
      refine Next.go ?_
      refine AWP.seq ?_
      refine AWP.block ?_
      refine AWP.seq ?_
      -- region 19
      refine AWP.region ?_
      refine AList.p rfl (pure_move (.tmp _ _ rfl)) ?_
      refine AList.p rfl (pure_move (.tmp _ _ rfl)) ?_
      refine AList.p rfl (pure_move (.tmp _ _ rfl)) ?_
      first | (refine AList.p rfl (pure_indexL Try.underlying23 Try.sizeOf3 (.tmp _ _ rfl) (.tmp _ _ rfl) (by omega) (by omega)) ?_) | (refine AList.p rfl (pure_indexM Try.underlying23 Try.sizeOf3 (.tmp _ _ rfl) (.tmp _ _ rfl) (by omega) (by omega)) ?_)
      first | (refine AList.p rfl (pure_load1 Try.isAgg3 (.tmp _ _ rfl)) ?_) | (refine AList.s rfl (step_load1 Try.isAgg3 (.tmp _ _ rfl) (by first | assumption | exact (by assumption : Heap.le _ _).objs _ _ (by assumption) | exact Heap.objs_set_same _ _ _ | exact (Heap.objs_set_ne _ _ (by assumption)).trans (Heap.objs_set_same _ _ _) | exact (Heap.objs_set_ne _ _ (by assumption)).trans ((Heap.objs_set_ne _ _ (by assumption)).trans (Heap.objs_set_same _ _ _)) | exact (Heap.objs_set_ne _ _ (by assumption)).trans (by assumption)) rfl) ?_; rintro _ _ ⟨rfl, hH⟩; obtain rfl := hH.symm)
      refine AList.s rfl (step_call0 Try.call18 (.cons (.tmp _ _ rfl) (.cons (.tmp _ _ rfl) .nil)) (pDirect_calls b m M hok.hA (hok.hM (by omega)) hok.hk _ (hcs64 _ (List.getElem_mem _)) _ hp)) ?_
      rintro _ _ ⟨rfl, hH⟩
      obtain rfl := hH.symm
      refine AList.p rfl (pure_assign (.tmp _ _ rfl)) ?_
      refine AList.nil ?_
      refine Next.go ?_
      refine AWP.seq ?_
      -- region 20
      refine AWP.region ?_
      refine AList.p rfl (pure_assign ev_int) ?_
      refine AList.nil ?_
      refine Next.go ?_
      refine AWP.block ?_
      -- L2
      refine AWP.loopW (gr_J2 b m M cs a (pDirect M (cs[(i : Int).toNat]'(by omega))) i H) ((pDirect M (cs[(i : Int).toNat]'(by omega))).length) ⟨0, Nat.zero_le _, rfl, hp, hle, by omega⟩ (sub_c rfl (sub_c rfl (sub_c rfl (sub_c rfl (sub_c rfl (sub_c rfl sub_n)))))) (Heap.le.refl _) ?_
      rintro _ _ H1 ⟨j, hj, rfl, hp, hle, rfl⟩
      have hdl := pDirect_len M (cs[(i : Int).toNat]'(by omega))
      refine AWP.seq ?_
      refine AWP.seq ?_
      -- region 21
      refine AWP.region ?_
      refine AList.p rfl (pure_move (.tmp _ _ rfl)) ?_
      refine AList.p rfl (pure_move (.tmp _ _ rfl)) ?_
      first | (refine AList.p rfl (pure_lenL Try.underlying23 (.tmp _ _ rfl)) ?_) | (refine AList.p rfl (pure_lenS Try.underlying23 (.tmp _ _ rfl)) ?_) | (refine AList.p rfl (pure_lenM Try.underlying23 (.tmp _ _ rfl)) ?_)
      refine AList.p rfl (pure_lss (.tmp _ _ rfl) (.tmp _ _ rfl)) ?_
      refine AList.nil ?_
      refine Next.go ?_
      -- c5
      refine AWP.cond (.tmp _ _ rfl) (fun hc68 => ?_) (fun hc68 => ?_)
      · try simp only [decide_eq_true_eq] at hc68
        refine AWP.skip ?_
        refine Next.go ?_
        refine AWP.seq ?_
        refine AWP.block ?_
        refine AWP.seq ?_
        -- region 23
        refine AWP.region ?_
        refine AList.p rfl (pure_move (.tmp _ _ rfl)) ?_
        refine AList.p rfl (pure_move (.tmp _ _ rfl)) ?_
        refine AList.p rfl (pure_move (.tmp _ _ rfl)) ?_
        first | (refine AList.p rfl (pure_indexL Try.underlying23 Try.sizeOf3 (.tmp _ _ rfl) (.tmp _ _ rfl) (by omega) (by omega)) ?_) | (refine AList.p rfl (pure_indexM Try.underlying23 Try.sizeOf3 (.tmp _ _ rfl) (.tmp _ _ rfl) (by omega) (by omega)) ?_)
        first | (refine AList.p rfl (pure_load1 Try.isAgg3 (.tmp _ _ rfl)) ?_) | (refine AList.s rfl (step_load1 Try.isAgg3 (.tmp _ _ rfl) (by first | assumption | exact (by assumption : Heap.le _ _).objs _ _ (by assumption) | exact Heap.objs_set_same _ _ _ | exact (Heap.objs_set_ne _ _ (by assumption)).trans (Heap.objs_set_same _ _ _) | exact (Heap.objs_set_ne _ _ (by assumption)).trans ((Heap.objs_set_ne _ _ (by assumption)).trans (Heap.objs_set_same _ _ _)) | exact (Heap.objs_set_ne _ _ (by assumption)).trans (by assumption)) rfl) ?_; rintro _ _ ⟨rfl, hH⟩; obtain rfl := hH.symm)
        refine AList.s rfl (step_call0 Try.call17 (.cons (.tmp _ _ rfl) (.cons (.tmp _ _ rfl) .nil)) (has_t a _ _ _ ((ham _).2 (by have h := (mem_pDirect M _ _).1 (List.getElem_mem (by omega : (j : Int).toNat < (pDirect M (cs[(i : Int).toNat]'(by omega))).length)); exact .one h.1 (List.getElem_mem _) h.2)))) ?_
        rintro _ _ ⟨rfl, hH⟩
        obtain rfl := hH.symm
        refine AList.p rfl (pure_assign (.tmp _ _ rfl)) ?_
        refine AList.nil ?_
        refine Next.go ?_
        refine AWP.seq ?_
        -- region 24
        refine AWP.region ?_
        refine AList.p rfl (pure_move (.tmp _ _ rfl)) ?_
        refine AList.p rfl (pure_not (.tmp _ _ rfl)) ?_
        refine AList.nil ?_
        refine Next.go ?_
        -- c6
        refine AWP.cond_false (.tmp _ _ rfl) (by first | rfl | assumption) ?_
        refine AWP.skip ?_
        refine Block.go ?_
        refine Next.go ?_
        -- region 22
        refine AWP.region ?_
        refine AList.p rfl (pure_move (.tmp _ _ rfl)) ?_
        refine AList.p rfl (pure_add (.tmp _ _ rfl) ev_int (by omega)) ?_
        refine AList.p rfl (pure_assign (.tmp _ _ rfl)) ?_
        refine AList.nil ?_
        refine Next.go ?_
        refine Round.mk (J := gr_J2 b m M cs a (pDirect M (cs[(i : Int).toNat]'(by omega))) i H) ⟨j + 1, by omega, rfl, hp, hle, rfl⟩ (sub_c rfl (sub_c rfl (sub_c rfl (sub_c rfl (sub_c rfl (sub_c rfl sub_n)))))) (Heap.le.refl _) (by omega)
      · try simp only [decide_eq_false_iff_not, Int.not_lt] at hc68
        refine AWP.exit ?_
        refine Next.ex ?_
        refine Next.ex ?_
        refine Block.hit ?_
        refine Block.go ?_
        refine Next.go ?_
        -- region 18
        refine AWP.region ?_
        refine AList.p rfl (pure_move (.tmp _ _ rfl)) ?_
        refine AList.p rfl (pure_add (.tmp _ _ rfl) ev_int (by omega)) ?_
        refine AList.p rfl (pure_assign (.tmp _ _ rfl)) ?_
        refine AList.nil ?_
        refine Next.go ?_
        refine Round.mk (J := gr_J1 b m M cs a H) ⟨i + 1, by omega, rfl, hp, hle, rfl⟩ (sub_c rfl (sub_c rfl (sub_c rfl (sub_c rfl sub_n)))) (Heap.le.refl _) (by omega)
    · try simp only [decide_eq_false_iff_not, Int.not_lt] at hc56
      refine AWP.exit ?_
      refine Next.ex ?_
      refine Next.ex ?_
      refine Block.hit ?_
      refine Next.go ?_
      refine AWP.seq ?_
      refine AWP.seq ?_
      -- region 26
      refine AWP.region ?_
      refine AList.p rfl (pure_assign ev_int) ?_
      refine AList.nil ?_
      refine Next.go ?_
      refine AWP.block ?_
      -- L3
      refine AWP.loopW (gr_J3 b m M cs a H) (a.length) ⟨0, Nat.zero_le _, rfl, hp, hle, by omega⟩ (sub_c rfl (sub_c rfl (sub_c rfl (sub_c rfl sub_n)))) (Heap.le.refl _) ?_
      rintro _ _ H1 ⟨i, hi, rfl, hp, hle, rfl⟩
      refine AWP.seq ?_
      refine AWP.seq ?_
      -- region 27
      refine AWP.region ?_
      refine AList.p rfl (pure_move (.tmp _ _ rfl)) ?_
      refine AList.p rfl (pure_move (.tmp _ _ rfl)) ?_
      first | (refine AList.p rfl (pure_lenL Try.underlying23 (.tmp _ _ rfl)) ?_) | (refine AList.p rfl (pure_lenS Try.underlying23 (.tmp _ _ rfl)) ?_) | (refine AList.p rfl (pure_lenM Try.underlying23 (.tmp _ _ rfl)) ?_)
      refine AList.p rfl (pure_lss (.tmp _ _ rfl) (.tmp _ _ rfl)) ?_
      refine AList.nil ?_
      refine Next.go ?_
      -- c7
      refine AWP.cond (.tmp _ _ rfl) (fun hc82 => ?_) (fun hc82 => ?_)
      · try simp only [decide_eq_true_eq] at hc82
        refine AWP.skip ?_
        refine Next.go ?_
        refine AWP.seq ?_
        refine AWP.block ?_
        refine AWP.seq ?_
        -- region 29
        refine AWP.region ?_
        refine AList.p rfl (pure_move (.tmp _ _ rfl)) ?_
        refine AList.p rfl (pure_move (.tmp _ _ rfl)) ?_
        refine AList.p rfl (pure_move (.tmp _ _ rfl)) ?_
        first | (refine AList.p rfl (pure_indexL Try.underlying23 Try.sizeOf3 (.tmp _ _ rfl) (.tmp _ _ rfl) (by omega) (by omega)) ?_) | (refine AList.p rfl (pure_indexM Try.underlying23 Try.sizeOf3 (.tmp _ _ rfl) (.tmp _ _ rfl) (by omega) (by omega)) ?_)
        first | (refine AList.p rfl (pure_load1 Try.isAgg3 (.tmp _ _ rfl)) ?_) | (refine AList.s rfl (step_load1 Try.isAgg3 (.tmp _ _ rfl) (by first | assumption | exact (by assumption : Heap.le _ _).objs _ _ (by assumption) | exact Heap.objs_set_same _ _ _ | exact (Heap.objs_set_ne _ _ (by assumption)).trans (Heap.objs_set_same _ _ _) | exact (Heap.objs_set_ne _ _ (by assumption)).trans ((Heap.objs_set_ne _ _ (by assumption)).trans (Heap.objs_set_same _ _ _)) | exact (Heap.objs_set_ne _ _ (by assumption)).trans (by assumption)) rfl) ?_; rintro _ _ ⟨rfl, hH⟩; obtain rfl := hH.symm)
        refine AList.p rfl (pure_move (.tmp _ _ rfl)) ?_
        refine AList.p rfl (pure_move (.tmp _ _ rfl)) ?_
        refine AList.s rfl (step_call0 Try.call19 (.cons (.tmp _ _ rfl) (.cons (.tmp _ _ rfl) (.cons (.tmp _ _ rfl) (.cons (.tmp _ _ rfl) .nil)))) (reached_t b m M hok.hA (hok.hM (by omega)) hok.hk _ cs a _ _ (by omega) hcs64 ha64 _ hp (hangs_reach ham (List.getElem_mem _)))) ?_
        rintro _ _ ⟨rfl, hH⟩
        obtain rfl := hH.symm
        refine AList.p rfl (pure_assign (.tmp _ _ rfl)) ?_
        refine AList.nil ?_
        refine Next.go ?_
        refine AWP.seq ?_
        -- region 30
        refine AWP.draw [(0, true), (1, true), (2, true), (3, true), (4, true), (5, true), (6, true), (7, true), (8, true), (9, true), (10, true), (11, true), (12, true), (13, true), (14, true), (15, true), (16, true), (17, true)] rfl (by decide +kernel) ?_
        refine APlan.p rfl rfl (pure_move (.tmp _ _ rfl)) ?_
        refine APlan.p rfl rfl (pure_not (.tmp _ _ rfl)) ?_
        refine APlan.p rfl rfl (pure_move (.tmp _ _ rfl)) ?_
        refine APlan.gp rfl rfl rfl rfl (by first | rfl | assumption) (pure_move (.tmp _ _ rfl)) ?_
        refine APlan.gp rfl rfl rfl rfl (by first | rfl | assumption) (pure_gtr (.tmp _ _ rfl) ev_int) ?_
        refine APlan.gp rfl rfl rfl rfl (by first | rfl | assumption) (pure_move (.tmp _ _ rfl)) ?_
        -- the guard in slot 98
        refine bool_casesP (t := 98) rfl (fun hg98 => ?_) (fun hg98 => ?_)
        · have hh98 := hg98; try simp only [decide_eq_true_eq] at hh98
          refine APlan.gp rfl rfl rfl rfl (by first | rfl | assumption) (pure_move (.tmp _ _ rfl)) ?_
          refine APlan.gp rfl rfl rfl rfl (by first | rfl | assumption) (pure_move (.tmp _ _ rfl)) ?_
          first | (refine APlan.gp rfl rfl rfl rfl (by first | rfl | assumption) (pure_indexL Try.underlying23 Try.sizeOf3 (.tmp _ _ rfl) (.tmp _ _ rfl) (by omega) (by omega)) ?_) | (refine APlan.gp rfl rfl rfl rfl (by first | rfl | assumption) (pure_indexM Try.underlying23 Try.sizeOf3 (.tmp _ _ rfl) (.tmp _ _ rfl) (by omega) (by omega)) ?_)
          first | (refine APlan.gp rfl rfl rfl rfl (by first | rfl | assumption) (pure_load1 Try.isAgg3 (.tmp _ _ rfl)) ?_) | (refine APlan.gf rfl rfl rfl rfl (by first | rfl | assumption) (fun _ => step_load1 Try.isAgg3 (.tmp _ _ rfl) (by first | assumption | exact (by assumption : Heap.le _ _).objs _ _ (by assumption) | exact Heap.objs_set_same _ _ _ | exact (Heap.objs_set_ne _ _ (by assumption)).trans (Heap.objs_set_same _ _ _) | exact (Heap.objs_set_ne _ _ (by assumption)).trans ((Heap.objs_set_ne _ _ (by assumption)).trans (Heap.objs_set_same _ _ _)) | exact (Heap.objs_set_ne _ _ (by assumption)).trans (by assumption)) rfl) ?_)
          refine APlan.gp rfl rfl rfl rfl (by first | rfl | assumption) (pure_move (.tmp _ _ rfl)) ?_
          refine APlan.gp rfl rfl rfl rfl (by first | rfl | assumption) (pure_move (.tmp _ _ rfl)) ?_
          refine APlan.gp rfl rfl rfl rfl (by first | rfl | assumption) (pure_sub (.tmp _ _ rfl) ev_int (by omega)) ?_
          first | (refine APlan.gp rfl rfl rfl rfl (by first | rfl | assumption) (pure_indexL Try.underlying23 Try.sizeOf3 (.tmp _ _ rfl) (.tmp _ _ rfl) (by omega) (by omega)) ?_) | (refine APlan.gp rfl rfl rfl rfl (by first | rfl | assumption) (pure_indexM Try.underlying23 Try.sizeOf3 (.tmp _ _ rfl) (.tmp _ _ rfl) (by omega) (by omega)) ?_)
          first | (refine APlan.gp rfl rfl rfl rfl (by first | rfl | assumption) (pure_load1 Try.isAgg3 (.tmp _ _ rfl)) ?_) | (refine APlan.gf rfl rfl rfl rfl (by first | rfl | assumption) (fun _ => step_load1 Try.isAgg3 (.tmp _ _ rfl) (by first | assumption | exact (by assumption : Heap.le _ _).objs _ _ (by assumption) | exact Heap.objs_set_same _ _ _ | exact (Heap.objs_set_ne _ _ (by assumption)).trans (Heap.objs_set_same _ _ _) | exact (Heap.objs_set_ne _ _ (by assumption)).trans ((Heap.objs_set_ne _ _ (by assumption)).trans (Heap.objs_set_same _ _ _)) | exact (Heap.objs_set_ne _ _ (by assumption)).trans (by assumption)) rfl) ?_)
          refine APlan.gp rfl rfl rfl rfl (by first | rfl | assumption) (pure_leq (.tmp _ _ rfl) (.tmp _ _ rfl)) ?_
          refine APlan.gp rfl rfl rfl rfl (by first | rfl | assumption) (pure_pickT (.tmp _ _ rfl) (by first | rfl | assumption) (.tmp _ _ rfl)) ?_
          refine APlan.p rfl rfl (pure_pickF (.tmp _ _ rfl) (by first | rfl | assumption) (.tmp _ _ rfl)) ?_
          refine APlan.nil ?_
          refine Next.go ?_
          -- c8
          refine AWP.cond (.tmp _ _ rfl) (fun hc110 => ?_) (fun hc110 => ?_)
          · try simp only [decide_eq_true_eq] at hc110
            exact absurd hc110 (up_at hup (by omega) (by omega) (by omega))
          · try simp only [decide_eq_false_iff_not, Int.not_le] at hc110
            refine AWP.skip ?_
            refine Block.go ?_
            refine Next.go ?_
            -- region 28
            refine AWP.region ?_
            refine AList.p rfl (pure_move (.tmp _ _ rfl)) ?_
            refine AList.p rfl (pure_add (.tmp _ _ rfl) ev_int (by omega)) ?_
            refine AList.p rfl (pure_assign (.tmp _ _ rfl)) ?_
            refine AList.nil ?_
            refine Next.go ?_
            refine Round.mk (J := gr_J3 b m M cs a H) ⟨i + 1, by omega, rfl, hp, hle, rfl⟩ (sub_c rfl (sub_c rfl (sub_c rfl (sub_c rfl sub_n)))) (Heap.le.refl _) (by omega)
        · have hh98 := hg98; try simp only [decide_eq_false_iff_not, Int.not_lt] at hh98
          refine APlan.gn rfl rfl rfl rfl (by first | rfl | assumption) ?_
          refine APlan.gn rfl rfl rfl rfl (by first | rfl | assumption) ?_
          refine APlan.gn rfl rfl rfl rfl (by first | rfl | assumption) ?_
          refine APlan.gn rfl rfl rfl rfl (by first | rfl | assumption) ?_
          refine APlan.gn rfl rfl rfl rfl (by first | rfl | assumption) ?_
          refine APlan.gn rfl rfl rfl rfl (by first | rfl | assumption) ?_
          refine APlan.gn rfl rfl rfl rfl (by first | rfl | assumption) ?_
          refine APlan.gn rfl rfl rfl rfl (by first | rfl | assumption) ?_
          refine APlan.gn rfl rfl rfl rfl (by first | rfl | assumption) ?_
          refine APlan.gn rfl rfl rfl rfl (by first | rfl | assumption) ?_
          refine APlan.gp rfl rfl rfl rfl (by first | rfl | assumption) (pure_pickF (.tmp _ _ rfl) (by first | rfl | assumption) ev_bool) ?_
          refine APlan.p rfl rfl (pure_pickF (.tmp _ _ rfl) (by first | rfl | assumption) (.tmp _ _ rfl)) ?_
          refine APlan.nil ?_
          refine Next.go ?_
          -- c8
          refine AWP.cond_false (.tmp _ _ rfl) (by first | rfl | assumption) ?_
          refine AWP.skip ?_
          refine Block.go ?_
          refine Next.go ?_
          -- region 28
          refine AWP.region ?_
          refine AList.p rfl (pure_move (.tmp _ _ rfl)) ?_
          refine AList.p rfl (pure_add (.tmp _ _ rfl) ev_int (by omega)) ?_
          refine AList.p rfl (pure_assign (.tmp _ _ rfl)) ?_
          refine AList.nil ?_
          refine Next.go ?_
          refine Round.mk (J := gr_J3 b m M cs a H) ⟨i + 1, by omega, rfl, hp, hle, rfl⟩ (sub_c rfl (sub_c rfl (sub_c rfl (sub_c rfl sub_n)))) (Heap.le.refl _) (by omega)
      · try simp only [decide_eq_false_iff_not, Int.not_lt] at hc82
        refine AWP.exit ?_
        refine Next.ex ?_
        refine Next.ex ?_
        refine Block.hit ?_
        refine Next.go ?_
        refine AWP.seq ?_
        -- region 32
        refine AWP.region ?_
        refine AList.p rfl (pure_assign ev_bool) ?_
        refine AList.nil ?_
        refine Next.go ?_
        refine AWP.ret ?_
        -- ret 0
        refine Ret.go (.cons (.tmp _ _ rfl) .nil) _ (hle) ?_
        exact ⟨rfl, rfl⟩

def gs_J0 (b m : Nat) (M : PG) (a bb : List Int) (H : Heap) : Nat → Env → Heap → Prop := fun k env H1 => ∃ i : Nat, i ≤ a.length ∧ env = [(6, .ptr (some ⟨b, 0, none⟩)), (10, .slice 1 (a.map (.int .i64)) .shared), (11, .slice 1 (bb.map (.int .i64)) .shared), (12, .int .i64 i)] ∧ PBox H1 b m M ∧ H.le H1 ∧ k = a.length - i

def gs_J1 (b m : Nat) (M : PG) (a bb d : List Int) (i : Nat) (H : Heap) : Nat → Env → Heap → Prop := fun k env H1 => ∃ j : Nat, j ≤ i + 1 ∧ env = [(6, .ptr (some ⟨b, 0, none⟩)), (10, .slice 1 (a.map (.int .i64)) .shared), (11, .slice 1 (bb.map (.int .i64)) .shared), (12, .int .i64 i), (13, .slice 1 (d.map (.int .i64)) .shared), (14, .int .i64 j)] ∧ PBox H1 b m M ∧ H.le H1 ∧ k = i + 1 - j

def gs_J2 (b m : Nat) (M : PG) (bb : List Int) (H : Heap) : Nat → Env → Heap → Prop := fun k env H1 => ∃ i : Nat, i ≤ bb.length ∧ env = [(6, .ptr (some ⟨b, 0, none⟩)), (11, .slice 1 (bb.map (.int .i64)) .shared), (16, .int .i64 i)] ∧ PBox H1 b m M ∧ H.le H1 ∧ k = bb.length - i

set_option maxRecDepth 100000 in
theorem Stands_calls (l : List RNode) (tl : Tail) (hl : l.length ≤ maxLen) (hall : ∀ r, r ∈ l → r.ok) (cells : List Int) (tl2 : Tail) (hcl : cells.length ≤ maxLen) (h64 : I64s cells) (H : Heap) : ACall Try.prog 6 [.slice 2 (l.map RNode.av) tl, .slice 1 (cells.map (.int .i64)) tl2] H (fun x H' => x = .bool true ∧ H' = H) := by
  refine ACall.of_body Try.func6 rfl Try.ntmps6 Try.results6 rfl ?_
  refine AWP.seq ?_
  -- region 0
  refine AWP.region ?_
  refine AList.p rfl (pure_assign ev_bool) ?_
  refine AList.nil ?_
  refine Next.go ?_
  refine AWP.seq ?_
  -- region 1
  refine AWP.region ?_
  refine AList.s rfl (step_call0 Try.call9 .nil (shown_calls _)) ?_
  rintro _ _ ⟨rfl, hH⟩
  obtain rfl := hH.symm
  refine AList.p rfl (pure_assign (.tmp _ _ rfl)) ?_
  refine AList.nil ?_
  refine Next.go ?_
  refine AWP.seq ?_
  refine AWP.seq ?_
  -- region 2
  refine AWP.region ?_
  refine AList.p rfl (pure_move (.tmp _ _ rfl)) ?_
  refine AList.p rfl (pure_not (.tmp _ _ rfl)) ?_
  refine AList.nil ?_
  refine Next.go ?_
  -- c0
  refine AWP.cond_false (.tmp _ _ rfl) (by first | rfl | assumption) ?_
  refine AWP.skip ?_
  refine Next.go ?_
  refine AWP.seq ?_
  -- region 4
  refine AWP.region ?_
  refine AList.p rfl (pure_move (.tmp _ _ rfl)) ?_
  refine AList.s rfl (step_call0 Try.call10 (.cons (.tmp _ _ rfl) .nil) (made_calls l tl hl hall _)) ?_
  rintro _ H0 ⟨b, m, b2, rfl, hle, hb0, hm0, hb20, hb2m, hb2b, hp, hrb⟩
  have hok := (mk_ok (l.take 40) (by simp; omega)).mono (k := 40) (by simp; omega)
  have hmok := mM_ok (l.take 40)
  generalize mM (l.take 40) = M at *
  generalize mG (l.take 40) = G at *
  refine AList.p rfl (pure_move (.tmp _ _ rfl)) ?_
  refine AList.p rfl (pure_extract (.tmp _ _ rfl) rfl) ?_
  refine AList.p rfl (pure_extract (.tmp _ _ rfl) rfl) ?_
  refine AList.p rfl (pure_extract (.tmp _ _ rfl) rfl) ?_
  refine AList.p rfl (pure_assign (.tmp _ _ rfl)) ?_
  refine AList.p rfl (pure_assign (.tmp _ _ rfl)) ?_
  refine AList.p rfl (pure_assign (.tmp _ _ rfl)) ?_
  refine AList.nil ?_
  refine Next.go ?_
  refine AWP.seq ?_
  refine AWP.seq ?_
  -- region 5
  refine AWP.region ?_
  refine AList.p rfl (pure_move (.tmp _ _ rfl)) ?_
  refine AList.p rfl (pure_not (.tmp _ _ rfl)) ?_
  refine AList.nil ?_
  refine Next.go ?_
  -- c1
  refine AWP.cond_false (.tmp _ _ rfl) (by first | rfl | assumption) ?_
  refine AWP.skip ?_
  refine Next.go ?_
  refine AWP.seq ?_
  -- region 7
  refine AWP.region ?_
  refine AList.p rfl (pure_move (.tmp _ _ rfl)) ?_
  refine AList.s rfl (step_call0 Try.call11 (.cons (.tmp _ _ rfl) .nil) (some_calls cells _ hcl h64 _)) ?_
  rintro _ _ ⟨rfl, hH⟩
  obtain rfl := hH
  have hcsl := someL_len cells
  have hcs64 := someL_64 h64
  generalize someL cells = cs at *
  refine AList.p rfl (pure_assign (.tmp _ _ rfl)) ?_
  refine AList.nil ?_
  refine Next.go ?_
  refine AWP.seq ?_
  -- region 8
  refine AWP.region ?_
  refine AList.p rfl (pure_move (.tmp _ _ rfl)) ?_
  refine AList.p rfl (pure_move (.tmp _ _ rfl)) ?_
  refine AList.s rfl (step_call0 Try.call15 (.cons (.tmp _ _ rfl) (.cons (.tmp _ _ rfl) .nil)) (pOrder_calls b m M hok.hA cs _ (by omega) hcs64 _ hp)) ?_
  obtain ⟨a, bb, hord, hris, hlen, hst, hlf, hl40, hin⟩ := stands M cs
  have hord1 := congrArg Prod.fst hord
  have hord2 := congrArg Prod.snd hord
  simp only at hord1 hord2
  rw [hord1, hord2]
  rintro _ _ ⟨rfl, hH⟩
  obtain rfl := hH.symm
  have ha64 : I64s a := fun x hx => hcs64 x (hin x (List.mem_append_left _ hx))
  have hb64 : I64s bb := fun x hx => hcs64 x (hin x (List.mem_append_right _ hx))
  refine AList.p rfl (pure_move (.tmp _ _ rfl)) ?_
  refine AList.p rfl (pure_extract (.tmp _ _ rfl) rfl) ?_
  refine AList.p rfl (pure_extract (.tmp _ _ rfl) rfl) ?_
  refine AList.p rfl (pure_assign (.tmp _ _ rfl)) ?_
  refine AList.p rfl (pure_assign (.tmp _ _ rfl)) ?_
  refine AList.nil ?_
  refine Next.go ?_
  refine AWP.seq ?_
  refine AWP.seq ?_
  -- region 9
  refine AWP.region ?_
  refine AList.s rfl (step_bs0 Try.underlying23 Try.sizeOf3 Try.zeroValue3 ) ?_
  rintro _ _ ⟨rfl, hH⟩
  obtain rfl := hH.symm
  refine AList.p rfl (pure_move (.tmp _ _ rfl)) ?_
  refine AList.s rfl (step_append Try.underlying23 Try.underlying23 Try.sizeOf3 Try.typeInfo3 Try.zeroValue3 rfl (by decide) (.tmp _ _ rfl) (.tmp _ _ rfl) (by exact .full) (by show (_ + _) * 8 ≤ _; simp; omega) (by repeat' (first | exact row_int _ | exact row_n | exact row_c ⟨rfl, rfl⟩ row_n | exact row_drop (row_int _) | exact row_take (row_int _) | refine row_app ?_ ?_ | exact row_n)) (by repeat' (first | exact row_int _ | exact row_n | exact row_c ⟨rfl, rfl⟩ row_n | exact row_drop (row_int _) | exact row_take (row_int _) | refine row_app ?_ ?_))) ?_
  rintro _ _ ⟨t39, ht39, rfl, hH⟩
  obtain rfl := hH.symm
  have hf39 := Heap.fresh_of hle ht39
  have hle39 := Heap.le_in hle t39
  refine AList.p rfl (pure_move (.tmp _ _ rfl)) ?_
  refine AList.s rfl (step_append Try.underlying23 Try.underlying23 Try.sizeOf3 Try.typeInfo3 Try.zeroValue3 rfl (by decide) (.tmp _ _ rfl) (.tmp _ _ rfl) (by exact .own _ (by first | assumption | exact Heap.toks_live_same _ _)) (by show (_ + _) * 8 ≤ _; simp; omega) (by repeat' (first | exact row_int _ | exact row_n | exact row_c ⟨rfl, rfl⟩ row_n | exact row_drop (row_int _) | exact row_take (row_int _) | refine row_app ?_ ?_ | exact row_int _)) (by repeat' (first | exact row_int _ | exact row_n | exact row_c ⟨rfl, rfl⟩ row_n | exact row_drop (row_int _) | exact row_take (row_int _) | refine row_app ?_ ?_))) ?_
  rintro _ _ ⟨t41, ht41, rfl, hH⟩
  obtain rfl := hH.symm
  have hf41 := Heap.fresh_of hle39 ht41
  have hle41 := Heap.le_in (Heap.le_out (t := t39) hle39 (by assumption)) t41
  refine AList.s rfl (step_call0 Try.call20 (.cons (.tmp _ _ rfl) .nil) (by rw [show ([] : List AV) ++ a.map (AV.int .i64) ++ bb.map (AV.int .i64) = (a ++ bb).map (AV.int .i64) by simp]; exact Rising_calls (a ++ bb) _ (by simp; omega) _)) ?_
  rw [hris]
  rintro _ _ ⟨rfl, hH⟩
  obtain rfl := hH
  refine AList.p rfl (pure_move (.tmp _ _ rfl)) ?_
  refine AList.s rfl (step_call0 Try.call20 (.cons (.tmp _ _ rfl) .nil) (Rising_calls cs _ (by omega) _)) ?_
  rintro _ _ ⟨rfl, hH⟩
  obtain rfl := hH
  refine AList.s rfl (step_call0 Try.call12 (.cons (.tmp _ _ rfl) (.cons (.tmp _ _ rfl) .nil)) (same_e _ _ _ _ _ rfl)) ?_
  rintro _ _ ⟨rfl, hH⟩
  obtain rfl := hH.symm
  refine AList.p rfl (pure_not (.tmp _ _ rfl)) ?_
  refine AList.p rfl (pure_move (.tmp _ _ rfl)) ?_
  refine AList.gp rfl rfl rfl (by first | rfl | assumption) (pure_move (.tmp _ _ rfl)) ?_
  first | (refine AList.gp rfl rfl rfl (by first | rfl | assumption) (pure_lenL Try.underlying23 (.tmp _ _ rfl)) ?_) | (refine AList.gp rfl rfl rfl (by first | rfl | assumption) (pure_lenS Try.underlying23 (.tmp _ _ rfl)) ?_) | (refine AList.gp rfl rfl rfl (by first | rfl | assumption) (pure_lenM Try.underlying23 (.tmp _ _ rfl)) ?_)
  refine AList.gp rfl rfl rfl (by first | rfl | assumption) (pure_move (.tmp _ _ rfl)) ?_
  first | (refine AList.gp rfl rfl rfl (by first | rfl | assumption) (pure_lenL Try.underlying23 (.tmp _ _ rfl)) ?_) | (refine AList.gp rfl rfl rfl (by first | rfl | assumption) (pure_lenS Try.underlying23 (.tmp _ _ rfl)) ?_) | (refine AList.gp rfl rfl rfl (by first | rfl | assumption) (pure_lenM Try.underlying23 (.tmp _ _ rfl)) ?_)
  refine AList.gp rfl rfl rfl (by first | rfl | assumption) (pure_add (.tmp _ _ rfl) (.tmp _ _ rfl) (by omega)) ?_
  refine AList.gp rfl rfl rfl (by first | rfl | assumption) (pure_move (.tmp _ _ rfl)) ?_
  refine AList.gs rfl rfl rfl (by first | rfl | assumption) (step_call0 Try.call20 (.cons (.tmp _ _ rfl) .nil) (Rising_calls cs _ (by omega) _)) ?_
  rintro _ _ ⟨rfl, hH⟩
  obtain rfl := hH
  first | (refine AList.gp rfl rfl rfl (by first | rfl | assumption) (pure_lenL Try.underlying23 (.tmp _ _ rfl)) ?_) | (refine AList.gp rfl rfl rfl (by first | rfl | assumption) (pure_lenS Try.underlying23 (.tmp _ _ rfl)) ?_) | (refine AList.gp rfl rfl rfl (by first | rfl | assumption) (pure_lenM Try.underlying23 (.tmp _ _ rfl)) ?_)
  refine AList.gp rfl rfl rfl (by first | rfl | assumption) (pure_neq (.tmp _ _ rfl) (.tmp _ _ rfl)) ?_
  refine AList.p rfl (pure_pickF (.tmp _ _ rfl) (by first | rfl | assumption) (.tmp _ _ rfl)) ?_
  refine AList.nil ?_
  refine Next.go ?_
  -- c2
  refine AWP.cond_false (.tmp _ _ rfl) (by exact decide_eq_false (fun h => h (by omega))) ?_
  refine AWP.skip ?_
  refine Next.go ?_
  refine AWP.seq ?_
  refine AWP.seq ?_
  -- region 11
  refine AWP.region ?_
  refine AList.p rfl (pure_assign ev_int) ?_
  refine AList.nil ?_
  refine Next.go ?_
  refine AWP.block ?_
  -- L0
  refine AWP.loopW (gs_J0 b m M a bb H) (a.length) ⟨0, Nat.zero_le _, rfl, hp.ob (H' := ((H0.live t39).kill t39).live t41) (fun _ _ h => h), hle41, by omega⟩ (sub_c rfl (sub_c rfl (sub_c rfl (sub_c rfl sub_n)))) (Heap.le.refl _) ?_
  rintro _ _ H1 ⟨i, hi, rfl, hp, hle, rfl⟩
  refine AWP.seq ?_
  refine AWP.seq ?_
  -- region 12
  refine AWP.region ?_
  refine AList.p rfl (pure_move (.tmp _ _ rfl)) ?_
  refine AList.p rfl (pure_move (.tmp _ _ rfl)) ?_
  first | (refine AList.p rfl (pure_lenL Try.underlying23 (.tmp _ _ rfl)) ?_) | (refine AList.p rfl (pure_lenS Try.underlying23 (.tmp _ _ rfl)) ?_) | (refine AList.p rfl (pure_lenM Try.underlying23 (.tmp _ _ rfl)) ?_)
  refine AList.p rfl (pure_lss (.tmp _ _ rfl) (.tmp _ _ rfl)) ?_
  refine AList.nil ?_
  refine Next.go ?_
  -- c3
  refine AWP.cond (.tmp _ _ rfl) (fun hc61 => ?_) (fun hc61 => ?_)
  · try simp only [decide_eq_true_eq] at hc61
    refine AWP.skip ?_
    refine Next.go ?_
    refine AWP.seq ?_
    refine AWP.block ?_
    refine AWP.seq ?_
    -- region 14
    refine AWP.region ?_
    refine AList.p rfl (pure_move (.tmp _ _ rfl)) ?_
    refine AList.p rfl (pure_move (.tmp _ _ rfl)) ?_
    refine AList.p rfl (pure_move (.tmp _ _ rfl)) ?_
    first | (refine AList.p rfl (pure_indexL Try.underlying23 Try.sizeOf3 (.tmp _ _ rfl) (.tmp _ _ rfl) (by omega) (by omega)) ?_) | (refine AList.p rfl (pure_indexM Try.underlying23 Try.sizeOf3 (.tmp _ _ rfl) (.tmp _ _ rfl) (by omega) (by omega)) ?_)
    first | (refine AList.p rfl (pure_load1 Try.isAgg3 (.tmp _ _ rfl)) ?_) | (refine AList.s rfl (step_load1 Try.isAgg3 (.tmp _ _ rfl) (by first | assumption | exact (by assumption : Heap.le _ _).objs _ _ (by assumption) | exact Heap.objs_set_same _ _ _ | exact (Heap.objs_set_ne _ _ (by assumption)).trans (Heap.objs_set_same _ _ _) | exact (Heap.objs_set_ne _ _ (by assumption)).trans ((Heap.objs_set_ne _ _ (by assumption)).trans (Heap.objs_set_same _ _ _)) | exact (Heap.objs_set_ne _ _ (by assumption)).trans (by assumption)) rfl) ?_; rintro _ _ ⟨rfl, hH⟩; obtain rfl := hH.symm)
    refine AList.s rfl (step_call0 Try.call18 (.cons (.tmp _ _ rfl) (.cons (.tmp _ _ rfl) .nil)) (pDirect_calls b m M hok.hA (hok.hM (by omega)) hok.hk _ (ha64 _ (List.getElem_mem _)) _ hp)) ?_
    rintro _ _ ⟨rfl, hH⟩
    obtain rfl := hH.symm
    refine AList.p rfl (pure_assign (.tmp _ _ rfl)) ?_
    refine AList.nil ?_
    refine Next.go ?_
    refine AWP.seq ?_
    -- region 15
    refine AWP.region ?_
    refine AList.p rfl (pure_assign ev_int) ?_
    refine AList.nil ?_
    refine Next.go ?_
    refine AWP.block ?_
    -- L1
    refine AWP.loopW (gs_J1 b m M a bb (pDirect M (a[(i : Int).toNat]'(by omega))) i H) (i + 1) ⟨0, Nat.zero_le _, rfl, hp, hle, by omega⟩ (sub_c rfl (sub_c rfl (sub_c rfl (sub_c rfl (sub_c rfl (sub_c rfl sub_n)))))) (Heap.le.refl _) ?_
    rintro _ _ H1 ⟨j, hj, rfl, hp, hle, rfl⟩
    refine AWP.seq ?_
    refine AWP.seq ?_
    -- region 16
    refine AWP.region ?_
    refine AList.p rfl (pure_move (.tmp _ _ rfl)) ?_
    refine AList.p rfl (pure_move (.tmp _ _ rfl)) ?_
    refine AList.p rfl (pure_leq (.tmp _ _ rfl) (.tmp _ _ rfl)) ?_
    refine AList.nil ?_
    refine Next.go ?_
    -- c4
    refine AWP.cond (.tmp _ _ rfl) (fun hc72 => ?_) (fun hc72 => ?_)
    · try simp only [decide_eq_true_eq] at hc72
      refine AWP.skip ?_
      refine Next.go ?_
      refine AWP.seq ?_
      refine AWP.block ?_
      refine AWP.seq ?_
      -- region 18
      refine AWP.region ?_
      refine AList.p rfl (pure_move (.tmp _ _ rfl)) ?_
      refine AList.p rfl (pure_move (.tmp _ _ rfl)) ?_
      refine AList.p rfl (pure_move (.tmp _ _ rfl)) ?_
      first | (refine AList.p rfl (pure_indexL Try.underlying23 Try.sizeOf3 (.tmp _ _ rfl) (.tmp _ _ rfl) (by omega) (by omega)) ?_) | (refine AList.p rfl (pure_indexM Try.underlying23 Try.sizeOf3 (.tmp _ _ rfl) (.tmp _ _ rfl) (by omega) (by omega)) ?_)
      first | (refine AList.p rfl (pure_load1 Try.isAgg3 (.tmp _ _ rfl)) ?_) | (refine AList.s rfl (step_load1 Try.isAgg3 (.tmp _ _ rfl) (by first | assumption | exact (by assumption : Heap.le _ _).objs _ _ (by assumption) | exact Heap.objs_set_same _ _ _ | exact (Heap.objs_set_ne _ _ (by assumption)).trans (Heap.objs_set_same _ _ _) | exact (Heap.objs_set_ne _ _ (by assumption)).trans ((Heap.objs_set_ne _ _ (by assumption)).trans (Heap.objs_set_same _ _ _)) | exact (Heap.objs_set_ne _ _ (by assumption)).trans (by assumption)) rfl) ?_; rintro _ _ ⟨rfl, hH⟩; obtain rfl := hH.symm)
      refine AList.s rfl (step_call0 Try.call17 (.cons (.tmp _ _ rfl) (.cons (.tmp _ _ rfl) .nil)) (has_f _ _ _ _ (hst (i : Int).toNat (j : Int).toNat (by omega) (by omega) (by omega)))) ?_
      rintro _ _ ⟨rfl, hH⟩
      obtain rfl := hH.symm
      refine AList.p rfl (pure_assign (.tmp _ _ rfl)) ?_
      refine AList.nil ?_
      refine Next.go ?_
      refine AWP.seq ?_
      -- region 19
      refine AWP.region ?_
      refine AList.p rfl (pure_move (.tmp _ _ rfl)) ?_
      refine AList.nil ?_
      refine Next.go ?_
      -- c5
      refine AWP.cond_false (.tmp _ _ rfl) (by first | rfl | assumption) ?_
      refine AWP.skip ?_
      refine Block.go ?_
      refine Next.go ?_
      -- region 17
      refine AWP.region ?_
      refine AList.p rfl (pure_move (.tmp _ _ rfl)) ?_
      refine AList.p rfl (pure_add (.tmp _ _ rfl) ev_int (by omega)) ?_
      refine AList.p rfl (pure_assign (.tmp _ _ rfl)) ?_
      refine AList.nil ?_
      refine Next.go ?_
      refine Round.mk (J := gs_J1 b m M a bb (pDirect M (a[(i : Int).toNat]'(by omega))) i H) ⟨j + 1, by omega, rfl, hp, hle, rfl⟩ (sub_c rfl (sub_c rfl (sub_c rfl (sub_c rfl (sub_c rfl (sub_c rfl sub_n)))))) (Heap.le.refl _) (by omega)
    · try simp only [decide_eq_false_iff_not, Int.not_le] at hc72
      refine AWP.exit ?_
      refine Next.ex ?_
      refine Next.ex ?_
      refine Block.hit ?_
      refine Block.go ?_
      refine Next.go ?_
      -- region 13
      refine AWP.region ?_
      refine AList.p rfl (pure_move (.tmp _ _ rfl)) ?_
      refine AList.p rfl (pure_add (.tmp _ _ rfl) ev_int (by omega)) ?_
      refine AList.p rfl (pure_assign (.tmp _ _ rfl)) ?_
      refine AList.nil ?_
      refine Next.go ?_
      refine Round.mk (J := gs_J0 b m M a bb H) ⟨i + 1, by omega, rfl, hp, hle, rfl⟩ (sub_c rfl (sub_c rfl (sub_c rfl (sub_c rfl sub_n)))) (Heap.le.refl _) (by omega)
  · try simp only [decide_eq_false_iff_not, Int.not_lt] at hc61
    refine AWP.exit ?_
    refine Next.ex ?_
    refine Next.ex ?_
    refine Block.hit ?_
    refine Next.go ?_
    refine AWP.seq ?_
    refine AWP.seq ?_
    -- region 21
    refine AWP.region ?_
    refine AList.p rfl (pure_assign ev_int) ?_
    refine AList.nil ?_
    refine Next.go ?_
    refine AWP.block ?_
    -- L2
    refine AWP.loopW (gs_J2 b m M bb H) (bb.length) ⟨0, Nat.zero_le _, rfl, hp, hle, by omega⟩ (sub_c rfl (sub_c rfl (sub_c rfl sub_n))) (Heap.le.refl _) ?_
    rintro _ _ H1 ⟨i, hi, rfl, hp, hle, rfl⟩
    refine AWP.seq ?_
    refine AWP.seq ?_
    -- region 22
    refine AWP.region ?_
    refine AList.p rfl (pure_move (.tmp _ _ rfl)) ?_
    refine AList.p rfl (pure_move (.tmp _ _ rfl)) ?_
    first | (refine AList.p rfl (pure_lenL Try.underlying23 (.tmp _ _ rfl)) ?_) | (refine AList.p rfl (pure_lenS Try.underlying23 (.tmp _ _ rfl)) ?_) | (refine AList.p rfl (pure_lenM Try.underlying23 (.tmp _ _ rfl)) ?_)
    refine AList.p rfl (pure_lss (.tmp _ _ rfl) (.tmp _ _ rfl)) ?_
    refine AList.nil ?_
    refine Next.go ?_
    -- c6
    refine AWP.cond (.tmp _ _ rfl) (fun hc85 => ?_) (fun hc85 => ?_)
    · try simp only [decide_eq_true_eq] at hc85
      refine AWP.skip ?_
      refine Next.go ?_
      refine AWP.seq ?_
      refine AWP.block ?_
      refine AWP.seq ?_
      -- region 24
      refine AWP.region ?_
      refine AList.p rfl (pure_move (.tmp _ _ rfl)) ?_
      refine AList.p rfl (pure_move (.tmp _ _ rfl)) ?_
      refine AList.p rfl (pure_move (.tmp _ _ rfl)) ?_
      first | (refine AList.p rfl (pure_indexL Try.underlying23 Try.sizeOf3 (.tmp _ _ rfl) (.tmp _ _ rfl) (by omega) (by omega)) ?_) | (refine AList.p rfl (pure_indexM Try.underlying23 Try.sizeOf3 (.tmp _ _ rfl) (.tmp _ _ rfl) (by omega) (by omega)) ?_)
      first | (refine AList.p rfl (pure_load1 Try.isAgg3 (.tmp _ _ rfl)) ?_) | (refine AList.s rfl (step_load1 Try.isAgg3 (.tmp _ _ rfl) (by first | assumption | exact (by assumption : Heap.le _ _).objs _ _ (by assumption) | exact Heap.objs_set_same _ _ _ | exact (Heap.objs_set_ne _ _ (by assumption)).trans (Heap.objs_set_same _ _ _) | exact (Heap.objs_set_ne _ _ (by assumption)).trans ((Heap.objs_set_ne _ _ (by assumption)).trans (Heap.objs_set_same _ _ _)) | exact (Heap.objs_set_ne _ _ (by assumption)).trans (by assumption)) rfl) ?_; rintro _ _ ⟨rfl, hH⟩; obtain rfl := hH.symm)
      refine AList.p rfl (pure_move (.tmp _ _ rfl)) ?_
      refine AList.s rfl (step_call0 Try.call19 (.cons (.tmp _ _ rfl) (.cons (.tmp _ _ rfl) (.cons (.tmp _ _ rfl) (.cons (ev_nil (sz := 1) (tl := .full)) .nil)))) (reached_t b m M hok.hA (hok.hM (by omega)) hok.hk _ bb [] _ _ (by simp; omega) hb64 (fun x hx => by simp at hx) _ hp (by rw [List.append_nil]; exact hlf _ (List.getElem_mem _)))) ?_
      rintro _ _ ⟨rfl, hH⟩
      obtain rfl := hH.symm
      refine AList.p rfl (pure_assign (.tmp _ _ rfl)) ?_
      refine AList.nil ?_
      refine Next.go ?_
      refine AWP.seq ?_
      -- region 25
      refine AWP.region ?_
      refine AList.p rfl (pure_move (.tmp _ _ rfl)) ?_
      refine AList.p rfl (pure_not (.tmp _ _ rfl)) ?_
      refine AList.nil ?_
      refine Next.go ?_
      -- c7
      refine AWP.cond_false (.tmp _ _ rfl) (by first | rfl | assumption) ?_
      refine AWP.skip ?_
      refine Block.go ?_
      refine Next.go ?_
      -- region 23
      refine AWP.region ?_
      refine AList.p rfl (pure_move (.tmp _ _ rfl)) ?_
      refine AList.p rfl (pure_add (.tmp _ _ rfl) ev_int (by omega)) ?_
      refine AList.p rfl (pure_assign (.tmp _ _ rfl)) ?_
      refine AList.nil ?_
      refine Next.go ?_
      refine Round.mk (J := gs_J2 b m M bb H) ⟨i + 1, by omega, rfl, hp, hle, rfl⟩ (sub_c rfl (sub_c rfl (sub_c rfl sub_n))) (Heap.le.refl _) (by omega)
    · try simp only [decide_eq_false_iff_not, Int.not_lt] at hc85
      refine AWP.exit ?_
      refine Next.ex ?_
      refine Next.ex ?_
      refine Block.hit ?_
      refine Next.go ?_
      refine AWP.seq ?_
      -- region 27
      refine AWP.region ?_
      refine AList.p rfl (pure_assign ev_bool) ?_
      refine AList.nil ?_
      refine Next.go ?_
      refine AWP.ret ?_
      -- ret 0
      refine Ret.go (.cons (.tmp _ _ rfl) .nil) _ (hle) ?_
      exact ⟨rfl, rfl⟩

def gk_J (b m : Nat) (M : PG) (n : Int) (cs bf less : List Int) (H : Heap) : Nat → Env → Heap → Prop := fun k env H1 => ∃ i : Nat, i ≤ less.length ∧ env = [(8, .ptr (some ⟨b, 0, none⟩)), (11, .int .i64 n), (12, .slice 1 (cs.map (.int .i64)) .shared), (13, .slice 1 (bf.map (.int .i64)) .shared), (14, .slice 8 ((pAreas M n).map Area.av) .shared), (16, .slice 1 (less.map (.int .i64)) .shared), (17, .int .i64 i)] ∧ PBox H1 b m (pDel M n) ∧ H.le H1 ∧ k = less.length - i

set_option maxRecDepth 100000 in
theorem Keeps_calls (l : List RNode) (tl : Tail) (hl : l.length ≤ maxLen) (hall : ∀ r, r ∈ l → r.ok) (c : Int) (hc : -9223372036854775808 ≤ c ∧ c ≤ 9223372036854775807) (cells : List Int) (tl2 : Tail) (hcl : cells.length ≤ maxLen) (h64 : I64s cells) (H : Heap) : ACall Try.prog 8 [.slice 2 (l.map RNode.av) tl, .int .i64 c, .slice 1 (cells.map (.int .i64)) tl2] H (fun x H' => x = .bool true ∧ H' = H) := by
  refine ACall.of_body Try.func8 rfl Try.ntmps8 Try.results8 rfl ?_
  refine AWP.seq ?_
  -- region 0
  refine AWP.region ?_
  refine AList.p rfl (pure_assign ev_bool) ?_
  refine AList.nil ?_
  refine Next.go ?_
  refine AWP.seq ?_
  -- region 1
  refine AWP.region ?_
  refine AList.s rfl (step_call0 Try.call9 .nil (shown_calls _)) ?_
  rintro _ _ ⟨rfl, hH⟩
  obtain rfl := hH.symm
  refine AList.p rfl (pure_assign (.tmp _ _ rfl)) ?_
  refine AList.nil ?_
  refine Next.go ?_
  refine AWP.seq ?_
  refine AWP.seq ?_
  -- region 2
  refine AWP.region ?_
  refine AList.p rfl (pure_move (.tmp _ _ rfl)) ?_
  refine AList.p rfl (pure_not (.tmp _ _ rfl)) ?_
  refine AList.nil ?_
  refine Next.go ?_
  -- c0
  refine AWP.cond_false (.tmp _ _ rfl) (by first | rfl | assumption) ?_
  refine AWP.skip ?_
  refine Next.go ?_
  refine AWP.seq ?_
  -- region 4
  refine AWP.region ?_
  refine AList.p rfl (pure_move (.tmp _ _ rfl)) ?_
  refine AList.s rfl (step_call0 Try.call10 (.cons (.tmp _ _ rfl) .nil) (made_calls l tl hl hall _)) ?_
  rintro _ H0 ⟨b, m, b2, rfl, hle, hb0, hm0, hb20, hb2m, hb2b, hp, hrb⟩
  have hok := (mk_ok (l.take 40) (by simp; omega)).mono (k := 40) (by simp; omega)
  have hmok := mM_ok (l.take 40)
  generalize mM (l.take 40) = M at *
  generalize mG (l.take 40) = G at *
  refine AList.p rfl (pure_move (.tmp _ _ rfl)) ?_
  refine AList.p rfl (pure_extract (.tmp _ _ rfl) rfl) ?_
  refine AList.p rfl (pure_extract (.tmp _ _ rfl) rfl) ?_
  refine AList.p rfl (pure_extract (.tmp _ _ rfl) rfl) ?_
  refine AList.p rfl (pure_assign (.tmp _ _ rfl)) ?_
  refine AList.p rfl (pure_assign (.tmp _ _ rfl)) ?_
  refine AList.p rfl (pure_assign (.tmp _ _ rfl)) ?_
  refine AList.nil ?_
  refine Next.go ?_
  refine AWP.seq ?_
  refine AWP.seq ?_
  -- region 5
  refine AWP.region ?_
  refine AList.p rfl (pure_move (.tmp _ _ rfl)) ?_
  refine AList.p rfl (pure_not (.tmp _ _ rfl)) ?_
  refine AList.nil ?_
  refine Next.go ?_
  -- c1
  refine AWP.cond_false (.tmp _ _ rfl) (by first | rfl | assumption) ?_
  refine AWP.skip ?_
  refine Next.go ?_
  refine AWP.seq ?_
  -- region 7
  refine AWP.region ?_
  refine AList.p rfl (pure_move (.tmp _ _ rfl)) ?_
  refine AList.s rfl (step_call0 Try.call27 (.cons (.tmp _ _ rfl) .nil) (atRaw_calls _ hc _)) ?_
  rintro _ _ ⟨rfl, hH⟩
  obtain rfl := hH.symm
  have hca := atRaw_bd c hc
  have hce : isCell (atRaw c) = true := by unfold isCell; simp; omega
  generalize atRaw c = n at *
  refine AList.p rfl (pure_assign (.tmp _ _ rfl)) ?_
  refine AList.nil ?_
  refine Next.go ?_
  refine AWP.seq ?_
  -- region 8
  refine AWP.region ?_
  refine AList.p rfl (pure_move (.tmp _ _ rfl)) ?_
  refine AList.s rfl (step_call0 Try.call11 (.cons (.tmp _ _ rfl) .nil) (some_calls cells _ hcl h64 _)) ?_
  rintro _ _ ⟨rfl, hH⟩
  obtain rfl := hH
  have hcsl := someL_len cells
  have hcs64 := someL_64 h64
  generalize someL cells = cs at *
  refine AList.p rfl (pure_assign (.tmp _ _ rfl)) ?_
  refine AList.nil ?_
  refine Next.go ?_
  refine AWP.seq ?_
  have hMl := hok.hM (by omega)
  have hM40 := hok.lenM
  have hn64 := atRaw_In64 hca
  have hsame := areas_same hmok (n := 40) hM40 (by omega) hok.areasM hce
  have hback := back_get hmok hok.tie.nodup (n := 40) hM40 (by omega) hok.areasM hce
  -- region 9
  refine AWP.region ?_
  refine AList.p rfl (pure_move (.tmp _ _ rfl)) ?_
  refine AList.p rfl (pure_move (.tmp _ _ rfl)) ?_
  refine AList.s rfl (step_call0 Try.call13 (.cons (.tmp _ _ rfl) (.cons (.tmp _ _ rfl) .nil)) (pAfter_calls b m M hok.hA (hok.hM (by omega)) hok.hk cs _ (by omega) hcs64 _ hp)) ?_
  rintro _ _ ⟨inn36, hnd36, hin36, rfl, hH⟩
  obtain rfl := hH.symm
  have hnb := hnd36
  have hbf : ∀ x, x ∈ inn36.mergeSort (fun x y => decide (x ≤ y)) ↔ Hangs (pNeeds M) (M.map (·.1)) cs x := fun x => (sorted_mem _ x).trans (hin36 x)
  generalize hbfe : inn36.mergeSort (fun x y => decide (x ≤ y)) = bf at *
  refine AList.p rfl (pure_assign (.tmp _ _ rfl)) ?_
  refine AList.nil ?_
  refine Next.go ?_
  refine AWP.seq ?_
  -- region 10
  refine AWP.region ?_
  refine AList.p rfl (pure_move (.tmp _ _ rfl)) ?_
  refine AList.p rfl (pure_move (.tmp _ _ rfl)) ?_
  refine AList.s rfl (step_call0 Try.call25 (.cons (.tmp _ _ rfl) (.cons (.tmp _ _ rfl) .nil)) (pAreas_calls b m M hok.hA _ _ hp)) ?_
  rintro _ _ ⟨rfl, hH⟩
  obtain rfl := hH.symm
  refine AList.p rfl (pure_assign (.tmp _ _ rfl)) ?_
  refine AList.nil ?_
  refine Next.go ?_
  refine AWP.seq ?_
  -- region 11
  refine AWP.region ?_
  refine AList.p rfl (pure_move (.tmp _ _ rfl)) ?_
  refine AList.s rfl (step_call0 Try.call21 (.cons (.tmp _ _ rfl) .nil) (pCells_calls b m M _ (hok.hM (by omega)) hok.hk hp)) ?_
  rintro _ _ ⟨rfl, hH⟩
  obtain rfl := hH.symm
  refine AList.p rfl (pure_assign (.tmp _ _ rfl)) ?_
  refine AList.nil ?_
  refine Next.go ?_
  refine AWP.seq ?_
  refine AWP.seq ?_
  -- region 12
  refine AWP.region ?_
  refine AList.p rfl (pure_move (.tmp _ _ rfl)) ?_
  refine AList.p rfl (pure_move (.tmp _ _ rfl)) ?_
  refine AList.p rfl (pure_move (.tmp _ _ rfl)) ?_
  refine AList.s rfl (step_call0 Try.call28 (.cons (.tmp _ _ rfl) (.cons (.tmp _ _ rfl) (.cons (.tmp _ _ rfl) .nil))) (set_d b m M hok.hA n hn64 (pAreas M n) _ (hok.hA n) _ hp (areas_err hmok hM40 (by omega) hok.areasM hce) M hsame)) ?_
  rintro _ _ ⟨rfl, hp, ht⟩
  have hle := ht.le hle hm0
  refine AList.p rfl (pure_neq (.tmp _ _ rfl) ev_int) ?_
  refine AList.p rfl (pure_move (.tmp _ _ rfl)) ?_
  refine AList.gp rfl rfl rfl (by first | rfl | assumption) (pure_move (.tmp _ _ rfl)) ?_
  refine AList.gp rfl rfl rfl (by first | rfl | assumption) (pure_move (.tmp _ _ rfl)) ?_
  refine AList.gs rfl rfl rfl (by first | rfl | assumption) (step_call0 Try.call13 (.cons (.tmp _ _ rfl) (.cons (.tmp _ _ rfl) .nil)) (pAfter_calls b m M hok.hA (hok.hM (by omega)) hok.hk cs _ (by omega) hcs64 _ hp)) ?_
  rintro _ _ ⟨inn50, hnd50, hin50, rfl, hH⟩
  obtain rfl := hH.symm
  refine AList.gp rfl rfl rfl (by first | rfl | assumption) (pure_move (.tmp _ _ rfl)) ?_
  refine AList.gs rfl rfl rfl (by first | rfl | assumption) (step_call0 Try.call12 (.cons (.tmp _ _ rfl) (.cons (.tmp _ _ rfl) .nil)) (same_e _ _ _ _ _ (by rw [← hbfe]; exact sorted_same hnd50 hnd36 (fun x => by rw [hin50, hin36])))) ?_
  rintro _ _ ⟨rfl, hH⟩
  obtain rfl := hH.symm
  refine AList.gp rfl rfl rfl (by first | rfl | assumption) (pure_not (.tmp _ _ rfl)) ?_
  refine AList.p rfl (pure_pickF (.tmp _ _ rfl) (by first | rfl | assumption) (.tmp _ _ rfl)) ?_
  refine AList.p rfl (pure_move (.tmp _ _ rfl)) ?_
  refine AList.gp rfl rfl rfl (by first | rfl | assumption) (pure_move (.tmp _ _ rfl)) ?_
  refine AList.gs rfl rfl rfl (by first | rfl | assumption) (step_call0 Try.call21 (.cons (.tmp _ _ rfl) .nil) (pCells_calls b m M _ (hok.hM (by omega)) hok.hk hp)) ?_
  rintro _ _ ⟨rfl, hH⟩
  obtain rfl := hH.symm
  refine AList.gp rfl rfl rfl (by first | rfl | assumption) (pure_move (.tmp _ _ rfl)) ?_
  refine AList.gs rfl rfl rfl (by first | rfl | assumption) (step_call0 Try.call12 (.cons (.tmp _ _ rfl) (.cons (.tmp _ _ rfl) .nil)) (same_e _ _ _ _ _ rfl)) ?_
  rintro _ _ ⟨rfl, hH⟩
  obtain rfl := hH.symm
  refine AList.gp rfl rfl rfl (by first | rfl | assumption) (pure_not (.tmp _ _ rfl)) ?_
  refine AList.p rfl (pure_pickF (.tmp _ _ rfl) (by first | rfl | assumption) (.tmp _ _ rfl)) ?_
  refine AList.nil ?_
  refine Next.go ?_
  -- c2
  refine AWP.cond_false (.tmp _ _ rfl) (by first | rfl | assumption) ?_
  refine AWP.skip ?_
  refine Next.go ?_
  refine AWP.seq ?_
  refine AWP.seq ?_
  -- region 14
  refine AWP.region ?_
  refine AList.p rfl (pure_move (.tmp _ _ rfl)) ?_
  refine AList.p rfl (pure_move (.tmp _ _ rfl)) ?_
  refine AList.s rfl (step_call0 Try.call28 (.cons (.tmp _ _ rfl) (.cons (.tmp _ _ rfl) (.cons (ev_nil (sz := 8) (tl := .full)) .nil))) (set_d b m M hok.hA n hn64 [] .full (by decide) _ hp (none_err M hce) (pDel M n) (none_set M hce))) ?_
  rintro _ _ ⟨rfl, hp, ht⟩
  have hle := ht.le hle hm0
  refine AList.p rfl (pure_neq (.tmp _ _ rfl) ev_int) ?_
  refine AList.p rfl (pure_move (.tmp _ _ rfl)) ?_
  refine AList.gp rfl rfl rfl (by first | rfl | assumption) (pure_move (.tmp _ _ rfl)) ?_
  refine AList.gp rfl rfl rfl (by first | rfl | assumption) (pure_move (.tmp _ _ rfl)) ?_
  refine AList.gs rfl rfl rfl (by first | rfl | assumption) (step_call0 Try.call25 (.cons (.tmp _ _ rfl) (.cons (.tmp _ _ rfl) .nil)) (pAreas_calls b m (pDel M n) (del_le hok.tie.nodup n hok.hA) n _ hp)) ?_
  rw [del_areas hok.tie.nodup]
  rintro _ _ ⟨rfl, hH⟩
  obtain rfl := hH.symm
  first | (refine AList.gp rfl rfl rfl (by first | rfl | assumption) (pure_lenL Try.underlying39 (.tmp _ _ rfl)) ?_) | (refine AList.gp rfl rfl rfl (by first | rfl | assumption) (pure_lenS Try.underlying39 (.tmp _ _ rfl)) ?_) | (refine AList.gp rfl rfl rfl (by first | rfl | assumption) (pure_lenM Try.underlying39 (.tmp _ _ rfl)) ?_)
  refine AList.gp rfl rfl rfl (by first | rfl | assumption) (pure_neq (.tmp _ _ rfl) ev_int) ?_
  refine AList.p rfl (pure_pickF (.tmp _ _ rfl) (by first | rfl | assumption) (.tmp _ _ rfl)) ?_
  refine AList.nil ?_
  refine Next.go ?_
  -- c3
  refine AWP.cond_false (.tmp _ _ rfl) (by first | rfl | assumption) ?_
  refine AWP.skip ?_
  refine Next.go ?_
  refine AWP.seq ?_
  -- region 16
  refine AWP.region ?_
  refine AList.p rfl (pure_move (.tmp _ _ rfl)) ?_
  refine AList.p rfl (pure_move (.tmp _ _ rfl)) ?_
  refine AList.s rfl (step_call0 Try.call13 (.cons (.tmp _ _ rfl) (.cons (.tmp _ _ rfl) .nil)) (pAfter_calls b m (pDel M n) (del_le hok.tie.nodup n hok.hA) (by have := (pDel_sub M n).length_le; omega) (del_k hok.hk n) cs _ (by omega) hcs64 _ hp)) ?_
  rintro _ _ ⟨inn75, hnd75, hin75, rfl, hH⟩
  obtain rfl := hH.symm
  have hls : ∀ x, x ∈ inn75.mergeSort (fun x y => decide (x ≤ y)) ↔ Hangs (pNeeds (pDel M n)) ((pDel M n).map (·.1)) cs x := fun x => (sorted_mem _ x).trans (hin75 x)
  have hll := hangs_len (sorted_up hnd75) hls
  generalize inn75.mergeSort (fun x y => decide (x ≤ y)) = less at *
  rw [List.length_map] at hll
  have hdl := (pDel_sub M n).length_le
  refine AList.p rfl (pure_assign (.tmp _ _ rfl)) ?_
  refine AList.nil ?_
  refine Next.go ?_
  refine AWP.seq ?_
  refine AWP.seq ?_
  -- region 17
  refine AWP.region ?_
  refine AList.p rfl (pure_assign ev_int) ?_
  refine AList.nil ?_
  refine Next.go ?_
  refine AWP.block ?_
  -- L0
  refine AWP.loopW (gk_J b m M n cs bf less H) (less.length) ⟨0, Nat.zero_le _, rfl, hp, hle, by omega⟩ (sub_c rfl (sub_c rfl (sub_c rfl (sub_c rfl (sub_c rfl (sub_c rfl (sub_c rfl sub_n))))))) (Heap.le.refl _) ?_
  rintro _ _ H1 ⟨i, hi, rfl, hp, hle, rfl⟩
  refine AWP.seq ?_
  refine AWP.seq ?_
  -- region 18
  refine AWP.region ?_
  refine AList.p rfl (pure_move (.tmp _ _ rfl)) ?_
  refine AList.p rfl (pure_move (.tmp _ _ rfl)) ?_
  first | (refine AList.p rfl (pure_lenL Try.underlying23 (.tmp _ _ rfl)) ?_) | (refine AList.p rfl (pure_lenS Try.underlying23 (.tmp _ _ rfl)) ?_) | (refine AList.p rfl (pure_lenM Try.underlying23 (.tmp _ _ rfl)) ?_)
  refine AList.p rfl (pure_lss (.tmp _ _ rfl) (.tmp _ _ rfl)) ?_
  refine AList.nil ?_
  refine Next.go ?_
  -- c4
  refine AWP.cond (.tmp _ _ rfl) (fun hc79 => ?_) (fun hc79 => ?_)
  · try simp only [decide_eq_true_eq] at hc79
    refine AWP.skip ?_
    refine Next.go ?_
    refine AWP.seq ?_
    refine AWP.block ?_
    refine AWP.seq ?_
    -- region 20
    refine AWP.region ?_
    refine AList.p rfl (pure_move (.tmp _ _ rfl)) ?_
    refine AList.p rfl (pure_move (.tmp _ _ rfl)) ?_
    refine AList.p rfl (pure_move (.tmp _ _ rfl)) ?_
    first | (refine AList.p rfl (pure_indexL Try.underlying23 Try.sizeOf3 (.tmp _ _ rfl) (.tmp _ _ rfl) (by omega) (by omega)) ?_) | (refine AList.p rfl (pure_indexM Try.underlying23 Try.sizeOf3 (.tmp _ _ rfl) (.tmp _ _ rfl) (by omega) (by omega)) ?_)
    first | (refine AList.p rfl (pure_load1 Try.isAgg3 (.tmp _ _ rfl)) ?_) | (refine AList.s rfl (step_load1 Try.isAgg3 (.tmp _ _ rfl) (by first | assumption | exact (by assumption : Heap.le _ _).objs _ _ (by assumption) | exact Heap.objs_set_same _ _ _ | exact (Heap.objs_set_ne _ _ (by assumption)).trans (Heap.objs_set_same _ _ _) | exact (Heap.objs_set_ne _ _ (by assumption)).trans ((Heap.objs_set_ne _ _ (by assumption)).trans (Heap.objs_set_same _ _ _)) | exact (Heap.objs_set_ne _ _ (by assumption)).trans (by assumption)) rfl) ?_; rintro _ _ ⟨rfl, hH⟩; obtain rfl := hH.symm)
    refine AList.s rfl (step_call0 Try.call17 (.cons (.tmp _ _ rfl) (.cons (.tmp _ _ rfl) .nil)) (has_t bf _ _ _ ((hbf _).2 (del_hangs hok.tie.nodup n ((hls _).1 (List.getElem_mem _))).2))) ?_
    rintro _ _ ⟨rfl, hH⟩
    obtain rfl := hH.symm
    refine AList.p rfl (pure_assign (.tmp _ _ rfl)) ?_
    refine AList.nil ?_
    refine Next.go ?_
    refine AWP.seq ?_
    -- region 21
    refine AWP.region ?_
    refine AList.p rfl (pure_move (.tmp _ _ rfl)) ?_
    refine AList.p rfl (pure_not (.tmp _ _ rfl)) ?_
    refine AList.p rfl (pure_move (.tmp _ _ rfl)) ?_
    refine AList.gp rfl rfl rfl (by first | rfl | assumption) (pure_move (.tmp _ _ rfl)) ?_
    refine AList.gp rfl rfl rfl (by first | rfl | assumption) (pure_move (.tmp _ _ rfl)) ?_
    first | (refine AList.gp rfl rfl rfl (by first | rfl | assumption) (pure_indexL Try.underlying23 Try.sizeOf3 (.tmp _ _ rfl) (.tmp _ _ rfl) (by omega) (by omega)) ?_) | (refine AList.gp rfl rfl rfl (by first | rfl | assumption) (pure_indexM Try.underlying23 Try.sizeOf3 (.tmp _ _ rfl) (.tmp _ _ rfl) (by omega) (by omega)) ?_)
    first | (refine AList.gp rfl rfl rfl (by first | rfl | assumption) (pure_load1 Try.isAgg3 (.tmp _ _ rfl)) ?_) | (refine AList.gs rfl rfl rfl (by first | rfl | assumption) (step_load1 Try.isAgg3 (.tmp _ _ rfl) (by first | assumption | exact (by assumption : Heap.le _ _).objs _ _ (by assumption) | exact Heap.objs_set_same _ _ _ | exact (Heap.objs_set_ne _ _ (by assumption)).trans (Heap.objs_set_same _ _ _) | exact (Heap.objs_set_ne _ _ (by assumption)).trans ((Heap.objs_set_ne _ _ (by assumption)).trans (Heap.objs_set_same _ _ _)) | exact (Heap.objs_set_ne _ _ (by assumption)).trans (by assumption)) rfl) ?_; rintro _ _ ⟨rfl, hH⟩; obtain rfl := hH.symm)
    refine AList.gp rfl rfl rfl (by first | rfl | assumption) (pure_move (.tmp _ _ rfl)) ?_
    refine AList.gp rfl rfl rfl (by first | rfl | assumption) (pure_eql (.tmp _ _ rfl) (.tmp _ _ rfl)) ?_
    refine AList.p rfl (pure_pickF (.tmp _ _ rfl) (by first | rfl | assumption) (.tmp _ _ rfl)) ?_
    refine AList.nil ?_
    refine Next.go ?_
    -- c5
    refine AWP.cond (.tmp _ _ rfl) (fun hc97 => ?_) (fun hc97 => ?_)
    · try simp only [decide_eq_true_eq] at hc97
      exact absurd hc97 (del_hangs hok.tie.nodup n ((hls _).1 (List.getElem_mem _))).1
    · try simp only [decide_eq_false_iff_not] at hc97
      refine AWP.skip ?_
      refine Block.go ?_
      refine Next.go ?_
      -- region 19
      refine AWP.region ?_
      refine AList.p rfl (pure_move (.tmp _ _ rfl)) ?_
      refine AList.p rfl (pure_add (.tmp _ _ rfl) ev_int (by omega)) ?_
      refine AList.p rfl (pure_assign (.tmp _ _ rfl)) ?_
      refine AList.nil ?_
      refine Next.go ?_
      refine Round.mk (J := gk_J b m M n cs bf less H) ⟨i + 1, by omega, rfl, hp, hle, rfl⟩ (sub_c rfl (sub_c rfl (sub_c rfl (sub_c rfl (sub_c rfl (sub_c rfl (sub_c rfl sub_n))))))) (Heap.le.refl _) (by omega)
  · try simp only [decide_eq_false_iff_not, Int.not_lt] at hc79
    refine AWP.exit ?_
    refine Next.ex ?_
    refine Next.ex ?_
    refine Block.hit ?_
    refine Next.go ?_
    refine AWP.seq ?_
    -- region 23
    refine AWP.region ?_
    refine AList.p rfl (pure_move (.tmp _ _ rfl)) ?_
    refine AList.p rfl (pure_move (.tmp _ _ rfl)) ?_
    refine AList.p rfl (pure_move (.tmp _ _ rfl)) ?_
    refine AList.s rfl (step_call0 Try.call28 (.cons (.tmp _ _ rfl) (.cons (.tmp _ _ rfl) (.cons (.tmp _ _ rfl) .nil))) (set_d b m (pDel M n) (del_le hok.tie.nodup n hok.hA) n hn64 (pAreas M n) _ (hok.hA n) _ hp (areas_err (M' := pDel M n) hmok (n := 40) (by omega) (by omega) hok.areasM hce) (pSet (pDel M n) n (pAreas M n)) rfl)) ?_
    rintro _ _ ⟨rfl, hp, ht⟩
    have hle := ht.le hle hm0
    refine AList.p rfl (pure_eql (.tmp _ _ rfl) ev_int) ?_
    refine AList.p rfl (pure_move (.tmp _ _ rfl)) ?_
    refine AList.gp rfl rfl rfl (by first | rfl | assumption) (pure_move (.tmp _ _ rfl)) ?_
    refine AList.gp rfl rfl rfl (by first | rfl | assumption) (pure_move (.tmp _ _ rfl)) ?_
    refine AList.gs rfl rfl rfl (by first | rfl | assumption) (step_call0 Try.call13 (.cons (.tmp _ _ rfl) (.cons (.tmp _ _ rfl) .nil)) (pAfter_calls b m (pSet (pDel M n) n (pAreas M n)) (fun c => by rw [get_areas hback]; exact hok.hA c) (by have := pSet_len (pDel M n) n (pAreas M n); have := (pDel_sub M n).length_le; omega) (get_k hback (set_nodup (del_k hok.hk n).1 _ _) hok.hk.2) cs _ (by omega) hcs64 _ hp)) ?_
    rintro _ _ ⟨inn106, hnd106, hin106, rfl, hH⟩
    obtain rfl := hH.symm
    refine AList.gp rfl rfl rfl (by first | rfl | assumption) (pure_move (.tmp _ _ rfl)) ?_
    refine AList.gs rfl rfl rfl (by first | rfl | assumption) (step_call0 Try.call12 (.cons (.tmp _ _ rfl) (.cons (.tmp _ _ rfl) .nil)) (same_e _ _ _ _ _ (by rw [← hbfe]; exact sorted_same hnd106 hnd36 (fun x => by rw [hin106, hin36]; exact get_hangs hback cs x)))) ?_
    rintro _ _ ⟨rfl, hH⟩
    obtain rfl := hH.symm
    refine AList.p rfl (pure_pickT (.tmp _ _ rfl) (by first | rfl | assumption) (.tmp _ _ rfl)) ?_
    refine AList.p rfl (pure_assign (.tmp _ _ rfl)) ?_
    refine AList.nil ?_
    refine Next.go ?_
    refine AWP.ret ?_
    -- ret 0
    refine Ret.go (.cons (.tmp _ _ rfl) .nil) _ (hle) ?_
    exact ⟨rfl, rfl⟩

end Go.Proofs.Ytdibiongjkmlpaa
