/-
  NOT, IF, IFERROR and ISERROR, called.
-/
import Derived.Test.YtifoddpbmlajfaaGreatDoorHgk
namespace Go.Proofs.YtifoddpbmlajfaaGreatDoor
open Go Go.RowKit

theorem zr72 : ∀ g, RelCells g (Tryz.zeroCells72.toList.map AV.raw) (Value.cells (.agg Tryz.zeroCells72)) := fun g => raw_cells g _

theorem zr79 : ∀ g, RelCells g [.ptr none, .slice 4 [] .full, .int .i64 0] (Value.cells (Go.Value.agg #[Go.Value.pointer none, Go.Value.slice none 0 0, Go.Value.int Go.IntKind.i64 0])) := fun _ => RelL.cells (.cons (.ptr _) (.cons (.nilSlice _ _) (.cons (.int _ _) .nil)))
theorem pl79 (fs : Array Field) (hfs : Tryz.prog.underlying 79 = some (.struct fs)) : ∀ (i : Nat) f p, fs[i]? = some f → [(0, 1), (1, 1), (2, 1)][i]? = some p → ∀ w, (sizeOf f.type).run Tryz.prog w = .ok p.2 w := by
  have e := (Option.some.inj (hfs.symm.trans Tryz.underlying79))
  cases e
  intro i f p hf hp w
  match i with
  | 0 => cases hf; cases hp; exact Tryz.sizeOf33 w
  | 1 => cases hf; cases hp; exact Tryz.sizeOf40 w
  | 2 => cases hf; cases hp; exact Tryz.sizeOf3 w
  | i + 3 => simp at hp

def strV0 (l : List UInt8) : Value := .string ⟨l.toArray⟩
set_option maxRecDepth 100000 in
theorem flat_fnames : flatV 4 Rows.laid_tabard_funcs_names = some (nameL.map strV0) := by kernel_rfl
theorem short_fname {i : Nat} {s : List UInt8} (h : nameL[i]? = some s) : s.length ≤ maxLen := by
  have : ∀ l ∈ nameL, l.length ≤ 20 := by decide
  have := this s (List.mem_of_getElem? h)
  rw [maxLen_eq]; omega
theorem inv_fnames : ∀ W, Inv W → ∃ vs : List Value, vs.length = 68 ∧ (∀ (i : Nat) v, vs[i]? = some v → W.cell? ⟨2, i, none⟩ = some v) ∧ ∀ g (i : Nat) c v, (nameL.map AV.str)[i]? = some c → vs[i]? = some v → RelV g c v := by
  intro W h
  refine ⟨nameL.map strV0, by rw [List.length_map]; rfl, fun i v hv => inv_cell h (by simp [laidT]) flat_fnames hv, fun g i c v hc hv => ?_⟩
  rw [List.getElem?_map] at hc hv
  cases hs : nameL[i]? with
  | none => rw [hs] at hc; cases hc
  | some s =>
    rw [hs] at hc hv
    cases hc; cases hv
    exact .str _ (short_fname hs)

set_option maxRecDepth 100000 in
theorem store_names : putRow (Tryz.zeroCells72.toList.map AV.raw) 0 (AV.agg (nameL.map AV.str)).cells = nameL.map AV.str := by kernel_rfl

set_option maxRecDepth 100000 in
theorem doesNOT_calls (b : Nat) (q : FLoc) (po pr : AV) (l : List ArgN) (tl : Tail) (f : Int) (hn : l.length = 1) (hv : (scalarV l[0]).bits < 18446744073709551616) (ht : (scalarV l[0]).text.length ≤ 1000) (H : Heap) (hb : H.objs b = some (callB (callerA q po pr) l tl f)) : ACall Tryz.prog 34 [.ptr (some ⟨b, 0, none⟩), .str [78, 79, 84]] H (fun y H' => y = (BoolV (!(toBoolV (scalarV l[0])).1)).av ∧ H' = H.set b (callB (callerA q po pr) l tl (wrongF f (toBoolV (scalarV l[0])).2))) := by
  refine ACall.of_body Tryz.func34 rfl Tryz.ntmps34 Tryz.results34 rfl ?_
  refine AWP.seq ?_
  -- region 0
  refine AWP.region ?_
  refine AList.s rfl (step_alloc Tryz.zeroValue24 (zr24)) ?_
  rintro _ _ ⟨b4, hb4, rfl, hH⟩
  obtain rfl := hH.symm
  refine AList.nil ?_
  refine Next.go ?_
  refine AWP.seq ?_
  refine AWP.seq ?_
  have hne4 : b ≠ b4 := by rintro rfl; rw [hb] at hb4; cases hb4
  have hne4x := hne4.symm
  -- region 1
  refine AWP.region ?_
  refine AList.p rfl (pure_move (.tmp _ _ rfl)) ?_
  refine AList.nil ?_
  refine Next.go ?_
  refine AWP.block ?_
  refine AWP.seq ?_
  refine AWP.seq ?_
  -- region 2
  refine AWP.region ?_
  refine AList.p rfl (pure_eqlStr (.tmp _ _ rfl) (ev_str rfl)) ?_
  refine AList.p rfl (pure_assign (.tmp _ _ rfl)) ?_
  refine AList.nil ?_
  refine Next.go ?_
  -- c0
  refine AWP.cond_false (.tmp _ _ rfl) (by rfl) ?_
  refine AWP.seq ?_
  -- region 3
  refine AWP.region ?_
  refine AList.p rfl (pure_eqlStr (.tmp _ _ rfl) (ev_str rfl)) ?_
  refine AList.p rfl (pure_assign (.tmp _ _ rfl)) ?_
  refine AList.nil ?_
  refine Next.go ?_
  -- c1
  refine AWP.cond_false (.tmp _ _ rfl) (by rfl) ?_
  refine AWP.seq ?_
  -- region 4
  refine AWP.region ?_
  refine AList.p rfl (pure_eqlStr (.tmp _ _ rfl) (ev_str rfl)) ?_
  refine AList.p rfl (pure_assign (.tmp _ _ rfl)) ?_
  refine AList.nil ?_
  refine Next.go ?_
  -- c2
  refine AWP.cond_false (.tmp _ _ rfl) (by rfl) ?_
  refine AWP.seq ?_
  -- region 5
  refine AWP.region ?_
  refine AList.p rfl (pure_eqlStr (.tmp _ _ rfl) (ev_str rfl)) ?_
  refine AList.p rfl (pure_assign (.tmp _ _ rfl)) ?_
  refine AList.nil ?_
  refine Next.go ?_
  -- c3
  refine AWP.cond_false (.tmp _ _ rfl) (by rfl) ?_
  refine AWP.seq ?_
  -- region 6
  refine AWP.region ?_
  refine AList.p rfl (pure_eqlStr (.tmp _ _ rfl) (ev_str rfl)) ?_
  refine AList.p rfl (pure_assign (.tmp _ _ rfl)) ?_
  refine AList.nil ?_
  refine Next.go ?_
  -- c4
  refine AWP.cond_false (.tmp _ _ rfl) (by rfl) ?_
  refine AWP.seq ?_
  -- region 7
  refine AWP.region ?_
  refine AList.p rfl (pure_eqlStr (.tmp _ _ rfl) (ev_str rfl)) ?_
  refine AList.p rfl (pure_assign (.tmp _ _ rfl)) ?_
  refine AList.nil ?_
  refine Next.go ?_
  -- c5
  refine AWP.cond_false (.tmp _ _ rfl) (by rfl) ?_
  -- region 8
  refine AWP.region ?_
  refine AList.p rfl (pure_eqlStr (.tmp _ _ rfl) (ev_str rfl)) ?_
  refine AList.p rfl (pure_assign (.tmp _ _ rfl)) ?_
  refine AList.nil ?_
  refine Next.go ?_
  -- c6
  refine AWP.cond_false (.tmp _ _ rfl) (by rfl) ?_
  refine AWP.seq ?_
  refine AWP.seq ?_
  -- region 10
  refine AWP.region ?_
  refine AList.p rfl (pure_eqlStr (.tmp _ _ rfl) (ev_str rfl)) ?_
  refine AList.p rfl (pure_assign (.tmp _ _ rfl)) ?_
  refine AList.nil ?_
  refine Next.go ?_
  -- c7
  refine AWP.cond_false (.tmp _ _ rfl) (by rfl) ?_
  -- region 11
  refine AWP.region ?_
  refine AList.p rfl (pure_eqlStr (.tmp _ _ rfl) (ev_str rfl)) ?_
  refine AList.p rfl (pure_assign (.tmp _ _ rfl)) ?_
  refine AList.nil ?_
  refine Next.go ?_
  -- c8
  refine AWP.cond_false (.tmp _ _ rfl) (by rfl) ?_
  refine AWP.seq ?_
  refine AWP.seq ?_
  -- region 13
  refine AWP.region ?_
  refine AList.p rfl (pure_eqlStr (.tmp _ _ rfl) (ev_str rfl)) ?_
  refine AList.p rfl (pure_assign (.tmp _ _ rfl)) ?_
  refine AList.nil ?_
  refine Next.go ?_
  -- c9
  refine AWP.cond_false (.tmp _ _ rfl) (by rfl) ?_
  -- region 14
  refine AWP.region ?_
  refine AList.p rfl (pure_eqlStr (.tmp _ _ rfl) (ev_str rfl)) ?_
  refine AList.p rfl (pure_assign (.tmp _ _ rfl)) ?_
  refine AList.nil ?_
  refine Next.go ?_
  -- c10
  refine AWP.cond_false (.tmp _ _ rfl) (by rfl) ?_
  refine AWP.seq ?_
  refine AWP.seq ?_
  -- region 16
  refine AWP.region ?_
  refine AList.p rfl (pure_eqlStr (.tmp _ _ rfl) (ev_str rfl)) ?_
  refine AList.p rfl (pure_assign (.tmp _ _ rfl)) ?_
  refine AList.nil ?_
  refine Next.go ?_
  -- c11
  refine AWP.cond_false (.tmp _ _ rfl) (by rfl) ?_
  refine AWP.seq ?_
  -- region 17
  refine AWP.region ?_
  refine AList.p rfl (pure_eqlStr (.tmp _ _ rfl) (ev_str rfl)) ?_
  refine AList.p rfl (pure_assign (.tmp _ _ rfl)) ?_
  refine AList.nil ?_
  refine Next.go ?_
  -- c12
  refine AWP.cond_false (.tmp _ _ rfl) (by rfl) ?_
  -- region 18
  refine AWP.region ?_
  refine AList.p rfl (pure_eqlStr (.tmp _ _ rfl) (ev_str rfl)) ?_
  refine AList.p rfl (pure_assign (.tmp _ _ rfl)) ?_
  refine AList.nil ?_
  refine Next.go ?_
  -- c13
  refine AWP.cond_false (.tmp _ _ rfl) (by rfl) ?_
  refine AWP.seq ?_
  refine AWP.seq ?_
  -- region 20
  refine AWP.region ?_
  refine AList.p rfl (pure_eqlStr (.tmp _ _ rfl) (ev_str rfl)) ?_
  refine AList.p rfl (pure_assign (.tmp _ _ rfl)) ?_
  refine AList.nil ?_
  refine Next.go ?_
  -- c14
  refine AWP.cond_false (.tmp _ _ rfl) (by rfl) ?_
  refine AWP.seq ?_
  -- region 21
  refine AWP.region ?_
  refine AList.p rfl (pure_eqlStr (.tmp _ _ rfl) (ev_str rfl)) ?_
  refine AList.p rfl (pure_assign (.tmp _ _ rfl)) ?_
  refine AList.nil ?_
  refine Next.go ?_
  -- c15
  refine AWP.cond_false (.tmp _ _ rfl) (by rfl) ?_
  refine AWP.seq ?_
  -- region 22
  refine AWP.region ?_
  refine AList.p rfl (pure_eqlStr (.tmp _ _ rfl) (ev_str rfl)) ?_
  refine AList.p rfl (pure_assign (.tmp _ _ rfl)) ?_
  refine AList.nil ?_
  refine Next.go ?_
  -- c16
  refine AWP.cond_false (.tmp _ _ rfl) (by rfl) ?_
  refine AWP.seq ?_
  -- region 23
  refine AWP.region ?_
  refine AList.p rfl (pure_eqlStr (.tmp _ _ rfl) (ev_str rfl)) ?_
  refine AList.p rfl (pure_assign (.tmp _ _ rfl)) ?_
  refine AList.nil ?_
  refine Next.go ?_
  -- c17
  refine AWP.cond_false (.tmp _ _ rfl) (by rfl) ?_
  refine AWP.seq ?_
  -- region 24
  refine AWP.region ?_
  refine AList.p rfl (pure_eqlStr (.tmp _ _ rfl) (ev_str rfl)) ?_
  refine AList.p rfl (pure_assign (.tmp _ _ rfl)) ?_
  refine AList.nil ?_
  refine Next.go ?_
  -- c18
  refine AWP.cond_false (.tmp _ _ rfl) (by rfl) ?_
  -- region 25
  refine AWP.region ?_
  refine AList.p rfl (pure_eqlStr (.tmp _ _ rfl) (ev_str rfl)) ?_
  refine AList.p rfl (pure_assign (.tmp _ _ rfl)) ?_
  refine AList.nil ?_
  refine Next.go ?_
  -- c19
  refine AWP.cond_false (.tmp _ _ rfl) (by rfl) ?_
  refine AWP.seq ?_
  refine AWP.seq ?_
  -- region 27
  refine AWP.region ?_
  refine AList.p rfl (pure_eqlStr (.tmp _ _ rfl) (ev_str rfl)) ?_
  refine AList.p rfl (pure_assign (.tmp _ _ rfl)) ?_
  refine AList.nil ?_
  refine Next.go ?_
  -- c20
  refine AWP.cond_false (.tmp _ _ rfl) (by rfl) ?_
  -- region 28
  refine AWP.region ?_
  refine AList.p rfl (pure_eqlStr (.tmp _ _ rfl) (ev_str rfl)) ?_
  refine AList.p rfl (pure_assign (.tmp _ _ rfl)) ?_
  refine AList.nil ?_
  refine Next.go ?_
  -- c21
  refine AWP.cond_false (.tmp _ _ rfl) (by rfl) ?_
  refine AWP.seq ?_
  -- region 30
  refine AWP.region ?_
  refine AList.p rfl (pure_eqlStr (.tmp _ _ rfl) (ev_str rfl)) ?_
  refine AList.p rfl (pure_assign (.tmp _ _ rfl)) ?_
  refine AList.nil ?_
  refine Next.go ?_
  -- c22
  refine AWP.cond_false (.tmp _ _ rfl) (by rfl) ?_
  refine AWP.seq ?_
  -- region 32
  refine AWP.region ?_
  refine AList.p rfl (pure_eqlStr (.tmp _ _ rfl) (ev_str rfl)) ?_
  refine AList.p rfl (pure_assign (.tmp _ _ rfl)) ?_
  refine AList.nil ?_
  refine Next.go ?_
  -- c23
  refine AWP.cond_false (.tmp _ _ rfl) (by rfl) ?_
  refine AWP.seq ?_
  refine AWP.seq ?_
  -- region 34
  refine AWP.region ?_
  refine AList.p rfl (pure_eqlStr (.tmp _ _ rfl) (ev_str rfl)) ?_
  refine AList.p rfl (pure_assign (.tmp _ _ rfl)) ?_
  refine AList.nil ?_
  refine Next.go ?_
  -- c24
  refine AWP.cond_false (.tmp _ _ rfl) (by rfl) ?_
  refine AWP.seq ?_
  -- region 35
  refine AWP.region ?_
  refine AList.p rfl (pure_eqlStr (.tmp _ _ rfl) (ev_str rfl)) ?_
  refine AList.p rfl (pure_assign (.tmp _ _ rfl)) ?_
  refine AList.nil ?_
  refine Next.go ?_
  -- c25
  refine AWP.cond_false (.tmp _ _ rfl) (by rfl) ?_
  refine AWP.seq ?_
  -- region 36
  refine AWP.region ?_
  refine AList.p rfl (pure_eqlStr (.tmp _ _ rfl) (ev_str rfl)) ?_
  refine AList.p rfl (pure_assign (.tmp _ _ rfl)) ?_
  refine AList.nil ?_
  refine Next.go ?_
  -- c26
  refine AWP.cond_false (.tmp _ _ rfl) (by rfl) ?_
  refine AWP.seq ?_
  -- region 37
  refine AWP.region ?_
  refine AList.p rfl (pure_eqlStr (.tmp _ _ rfl) (ev_str rfl)) ?_
  refine AList.p rfl (pure_assign (.tmp _ _ rfl)) ?_
  refine AList.nil ?_
  refine Next.go ?_
  -- c27
  refine AWP.cond_false (.tmp _ _ rfl) (by rfl) ?_
  -- region 38
  refine AWP.region ?_
  refine AList.p rfl (pure_eqlStr (.tmp _ _ rfl) (ev_str rfl)) ?_
  refine AList.p rfl (pure_assign (.tmp _ _ rfl)) ?_
  refine AList.nil ?_
  refine Next.go ?_
  -- c28
  refine AWP.cond_false (.tmp _ _ rfl) (by rfl) ?_
  refine AWP.seq ?_
  -- region 40
  refine AWP.region ?_
  refine AList.p rfl (pure_eqlStr (.tmp _ _ rfl) (ev_str rfl)) ?_
  refine AList.p rfl (pure_assign (.tmp _ _ rfl)) ?_
  refine AList.nil ?_
  refine Next.go ?_
  -- c29
  refine AWP.cond_false (.tmp _ _ rfl) (by rfl) ?_
  refine AWP.seq ?_
  refine AWP.seq ?_
  -- region 42
  refine AWP.region ?_
  refine AList.p rfl (pure_eqlStr (.tmp _ _ rfl) (ev_str rfl)) ?_
  refine AList.p rfl (pure_assign (.tmp _ _ rfl)) ?_
  refine AList.nil ?_
  refine Next.go ?_
  -- c30
  refine AWP.cond_false (.tmp _ _ rfl) (by rfl) ?_
  refine AWP.seq ?_
  -- region 43
  refine AWP.region ?_
  refine AList.p rfl (pure_eqlStr (.tmp _ _ rfl) (ev_str rfl)) ?_
  refine AList.p rfl (pure_assign (.tmp _ _ rfl)) ?_
  refine AList.nil ?_
  refine Next.go ?_
  -- c31
  refine AWP.cond_false (.tmp _ _ rfl) (by rfl) ?_
  -- region 44
  refine AWP.region ?_
  refine AList.p rfl (pure_eqlStr (.tmp _ _ rfl) (ev_str rfl)) ?_
  refine AList.p rfl (pure_assign (.tmp _ _ rfl)) ?_
  refine AList.nil ?_
  refine Next.go ?_
  -- c32
  refine AWP.cond_false (.tmp _ _ rfl) (by rfl) ?_
  refine AWP.seq ?_
  -- region 46
  refine AWP.region ?_
  refine AList.p rfl (pure_eqlStr (.tmp _ _ rfl) (ev_str rfl)) ?_
  refine AList.p rfl (pure_assign (.tmp _ _ rfl)) ?_
  refine AList.nil ?_
  refine Next.go ?_
  -- c33
  refine AWP.cond_false (.tmp _ _ rfl) (by rfl) ?_
  refine AWP.seq ?_
  refine AWP.seq ?_
  -- region 48
  refine AWP.region ?_
  refine AList.p rfl (pure_eqlStr (.tmp _ _ rfl) (ev_str rfl)) ?_
  refine AList.p rfl (pure_assign (.tmp _ _ rfl)) ?_
  refine AList.nil ?_
  refine Next.go ?_
  -- c34
  refine AWP.cond_false (.tmp _ _ rfl) (by rfl) ?_
  -- region 49
  refine AWP.region ?_
  refine AList.p rfl (pure_eqlStr (.tmp _ _ rfl) (ev_str rfl)) ?_
  refine AList.p rfl (pure_assign (.tmp _ _ rfl)) ?_
  refine AList.nil ?_
  refine Next.go ?_
  -- c35
  refine AWP.cond_false (.tmp _ _ rfl) (by rfl) ?_
  refine AWP.seq ?_
  -- region 51
  refine AWP.region ?_
  refine AList.p rfl (pure_eqlStr (.tmp _ _ rfl) (ev_str rfl)) ?_
  refine AList.p rfl (pure_assign (.tmp _ _ rfl)) ?_
  refine AList.nil ?_
  refine Next.go ?_
  -- c36
  refine AWP.cond_false (.tmp _ _ rfl) (by rfl) ?_
  refine AWP.skip ?_
  refine Block.go ?_
  refine Next.go ?_
  refine AWP.seq ?_
  -- region 53
  refine AWP.region ?_
  refine AList.p rfl (pure_move (.tmp _ _ rfl)) ?_
  refine AList.p rfl (pure_move (.tmp _ _ rfl)) ?_
  refine AList.s rfl (step_call0 Tryz.call54 (.cons (.tmp _ _ rfl) (.cons (.tmp _ _ rfl) .nil)) (otherNOT_calls b q po pr l tl _ hn hv ht _ (by first | assumption | exact (Heap.objs_set_ne _ _ (by assumption)).trans hb | exact Heap.objs_set_same _ _ _ | exact (Heap.objs_set_ne _ _ (by assumption)).trans (Heap.objs_set_same _ _ _)))) ?_
  rintro _ _ ⟨rfl, rfl⟩
  rw [Heap.set_comm hne4x]
  replace hb4 := fresh_outF (y := callB (callerA q po pr) l tl (wrongF f (toBoolV (scalarV l[0])).2)) hb4 hne4x
  refine AList.s0 (step_store Tryz.sizeOf24 (.tmp _ _ rfl) (.tmp _ _ rfl) rfl rfl (.inr ⟨_, rfl⟩) (by first | exact (Heap.objs_set_ne _ _ (by assumption)).trans hb | assumption | exact (by assumption : Heap.le _ _).objs _ _ (by assumption) | exact Heap.objs_set_same _ _ _ | exact (Heap.objs_set_ne _ _ (by assumption)).trans (Heap.objs_set_same _ _ _) | exact (Heap.objs_set_ne _ _ (by assumption)).trans ((Heap.objs_set_ne _ _ (by assumption)).trans (Heap.objs_set_same _ _ _)) | exact (Heap.objs_set_ne _ _ (by assumption)).trans (by assumption)) (Nat.le_of_ble_eq_true rfl)) ?_
  rintro _ _ ⟨rfl, hH⟩
  obtain rfl := hH.symm
  try first | rw [Heap.set_set] | rw [Heap.set_under (by assumption)]
  refine AList.nil ?_
  refine Next.go ?_
  refine AWP.frz (t := 4) rfl (by first | exact hb4 | exact Heap.fresh_set hb4 _) ?_
  refine AWP.ret ?_
  -- ret 0
  refine Ret.go (.cons (.cellI _ _ _ _ rfl Tryz.isAgg24 Tryz.sizeOf24 rfl) .nil) _ (Heap.le.refl _) ?_
  exact ⟨rfl, rfl⟩

set_option maxRecDepth 100000 in
theorem hasNOT : bsHas nameL [78, 79, 84] = true := by kernel_rfl
set_option maxRecDepth 100000 in
theorem takesNOT (H : Heap) : ACall Tryz.prog 33 [.str [78, 79, 84]] H (fun y H' => y = .tuple [.int .i64 1, .int .i64 1] ∧ H' = H) := closed_two (k := 20) Tryz.func33 rfl (by kernel_rfl) H

set_option maxRecDepth 100000 in
theorem CallNOT_calls (q : FLoc) (po pr : AV) (l : List ArgN) (tl : Tail) (hn : l.length = 1) (hv : (scalarV l[0]).bits < 18446744073709551616) (ht : (scalarV l[0]).text.length ≤ 1000) (H : Heap) : ACall Tryz.prog 19 [callerA q po pr, .str [78, 79, 84], argsS l tl] H (fun y H' => y = (if wrongF 0 (toBoolV (scalarV l[0])).2 = 0 then BoolV (!(toBoolV (scalarV l[0])).1) else FailV (wrongF 0 (toBoolV (scalarV l[0])).2)).av ∧ H' = H) := by
  refine ACall.of_body Tryz.func19 rfl Tryz.ntmps19 Tryz.results19 rfl ?_
  refine AWP.seq ?_
  -- region 0
  refine AWP.region ?_
  refine AList.s rfl (step_alloc Tryz.zeroValue24 (zr24)) ?_
  rintro _ _ ⟨b6, hb6, rfl, hH⟩
  obtain rfl := hH.symm
  refine AList.nil ?_
  refine Next.go ?_
  refine AWP.seq ?_
  -- region 1
  refine AWP.region ?_
  refine AList.s rfl (step_loadKN Tryz.isAgg72 Tryz.sizeOf72 (.global _) rfl (by decide) inv_fnames) ?_
  rintro _ _ ⟨rfl, hH⟩
  obtain rfl := hH.symm
  refine AList.s rfl (step_alloc Tryz.zeroValue72 (zr72)) ?_
  rintro _ _ ⟨b7, hb7, rfl, hH⟩
  obtain rfl := hH.symm
  have hn6_7 := Heap.ne_of (by first | assumption | exact (by assumption : Heap.le _ _).objs _ _ (by assumption) | exact Heap.objs_set_same _ _ _ | exact (Heap.objs_set_ne _ _ (by assumption)).trans (Heap.objs_set_same _ _ _) | exact (Heap.objs_set_ne _ _ (by assumption)).trans ((Heap.objs_set_ne _ _ (by assumption)).trans (Heap.objs_set_same _ _ _)) | exact (Heap.objs_set_ne _ _ (by assumption)).trans (by assumption)) hb7
  refine AList.s0 (step_store Tryz.sizeOf72 (.tmp _ _ rfl) (.tmp _ _ rfl) rfl rfl (.inr ⟨_, rfl⟩) (Heap.objs_set_same _ _ _) (Nat.le_of_ble_eq_true rfl)) ?_
  rintro _ _ ⟨rfl, hH⟩
  obtain rfl := hH.symm
  rw [Heap.set_set, store_names]
  refine AList.nil ?_
  refine Next.go ?_
  refine AWP.frz (t := 7) rfl (by first | exact hb7 | exact Heap.fresh_set hb7 _) ?_
  refine AWP.seq ?_
  refine AWP.seq ?_
  -- region 2
  refine AWP.region ?_
  refine AList.p rfl (pure_sliceA Tryz.underlying72 Tryz.sizeOf9 (.tmp _ _ rfl) rfl (by rw [maxLen_eq]; decide) (fun c hc => by obtain ⟨s, _, rfl⟩ := List.mem_map.1 hc; exact ⟨rfl, rfl⟩)) ?_
  refine AList.p rfl (pure_move (.tmp _ _ rfl)) ?_
  refine AList.s rfl (step_call0 Tryz.call32 (.cons (.tmp _ _ rfl) (.cons (.tmp _ _ rfl) .nil)) (BS_calls nameL _ _ (by decide) (by decide) _)) ?_
  rintro _ _ ⟨rfl, hH⟩
  obtain rfl := hH.symm
  rw [hasNOT]
  refine AList.p rfl (pure_move (.tmp _ _ rfl)) ?_
  refine AList.p rfl (pure_extract (.tmp _ _ rfl) rfl) ?_
  refine AList.p rfl (pure_extract (.tmp _ _ rfl) rfl) ?_
  refine AList.p rfl (pure_assign (.tmp _ _ rfl)) ?_
  refine AList.p rfl (pure_assign (.tmp _ _ rfl)) ?_
  refine AList.nil ?_
  refine Next.go ?_
  refine AWP.seq ?_
  -- region 3
  refine AWP.region ?_
  refine AList.p rfl (pure_move (.tmp _ _ rfl)) ?_
  refine AList.p rfl (pure_not (.tmp _ _ rfl)) ?_
  refine AList.nil ?_
  refine Next.go ?_
  -- c0
  refine AWP.cond_false (.tmp _ _ rfl) (by rfl) ?_
  refine AWP.skip ?_
  refine Next.go ?_
  refine AWP.seq ?_
  refine AWP.seq ?_
  -- region 5
  refine AWP.region ?_
  refine AList.p rfl (pure_move (.tmp _ _ rfl)) ?_
  refine AList.s rfl (step_call0 Tryz.call33 (.cons (.tmp _ _ rfl) .nil) (takesNOT _)) ?_
  rintro _ _ ⟨rfl, hH⟩
  obtain rfl := hH.symm
  refine AList.p rfl (pure_move (.tmp _ _ rfl)) ?_
  refine AList.p rfl (pure_extract (.tmp _ _ rfl) rfl) ?_
  refine AList.p rfl (pure_extract (.tmp _ _ rfl) rfl) ?_
  refine AList.p rfl (pure_assign (.tmp _ _ rfl)) ?_
  refine AList.p rfl (pure_assign (.tmp _ _ rfl)) ?_
  refine AList.nil ?_
  refine Next.go ?_
  refine AWP.seq ?_
  -- region 6
  refine AWP.region ?_
  refine AList.p rfl (pure_move (.tmp _ _ rfl)) ?_
  first | (refine AList.p rfl (pure_lenL Tryz.underlying40 (.tmp _ _ rfl)) ?_) | (refine AList.p rfl (pure_lenS Tryz.underlying40 (.tmp _ _ rfl)) ?_) | (refine AList.p rfl (pure_lenM Tryz.underlying40 (.tmp _ _ rfl)) ?_)
  refine AList.p rfl (pure_move (.tmp _ _ rfl)) ?_
  refine AList.p rfl (pure_lss (.tmp _ _ rfl) (.tmp _ _ rfl)) ?_
  refine AList.p rfl (pure_move (.tmp _ _ rfl)) ?_
  -- the guard in slot 33
  refine bool_casesL (t := 33) rfl (fun hg33 => ?_) (fun hg33 => ?_)
  · have hh33 := hg33; try simp only [decide_eq_true_eq] at hh33
    refine AList.gn rfl rfl rfl (by first | rfl | assumption) ?_
    refine AList.gn rfl rfl rfl (by first | rfl | assumption) ?_
    refine AList.gn rfl rfl rfl (by first | rfl | assumption) ?_
    refine AList.gn rfl rfl rfl (by first | rfl | assumption) ?_
    refine AList.p rfl (pure_pickT (.tmp _ _ rfl) (by first | rfl | assumption) ev_bool) ?_
    refine AList.nil ?_
    refine Next.go ?_
    -- c1
    refine AWP.cond_true (.tmp _ _ rfl) (by first | rfl | assumption) ?_
    refine AWP.seq ?_
    -- region 7
    refine AWP.region ?_
    refine AList.s rfl (step_call0 Tryz.call24 (.cons ev_int .nil) (vFail_calls _ _)) ?_
    rintro _ _ ⟨rfl, hH⟩
    obtain rfl := hH.symm
    refine AList.s0 (step_store Tryz.sizeOf24 (.tmp _ _ rfl) (.tmp _ _ rfl) rfl rfl (.inr ⟨_, rfl⟩) (by first | assumption | exact (by assumption : Heap.le _ _).objs _ _ (by assumption) | exact Heap.objs_set_same _ _ _ | exact (Heap.objs_set_ne _ _ (by assumption)).trans (Heap.objs_set_same _ _ _) | exact (Heap.objs_set_ne _ _ (by assumption)).trans ((Heap.objs_set_ne _ _ (by assumption)).trans (Heap.objs_set_same _ _ _)) | exact (Heap.objs_set_ne _ _ (by assumption)).trans (by assumption)) (Nat.le_of_ble_eq_true rfl)) ?_
    rintro _ _ ⟨rfl, hH⟩
    obtain rfl := hH.symm
    try first | rw [Heap.set_set] | rw [Heap.set_under (by assumption)]
    refine AList.nil ?_
    refine Next.go ?_
    refine AWP.frz (t := 6) rfl (by first | exact hb6 | exact Heap.fresh_set hb6 _) ?_
    refine AWP.ret ?_
    refine Next.rt ?_
    -- ret 0
    refine Ret.go (.cons (.cellI _ _ _ _ rfl Tryz.isAgg24 Tryz.sizeOf24 rfl) .nil) _ (Heap.le.refl _) ?_
    first | (exfalso; omega) | exact absurd trivial hc51 | (refine ⟨?_, rfl⟩; first | (rw [if_pos hc51]; rfl) | (rw [if_pos rfl]; rfl) | (rw [if_neg hc51]; rfl))
  · have hh33 := hg33; try simp only [decide_eq_false_iff_not, Int.not_lt] at hh33
    refine AList.gp rfl rfl rfl (by first | rfl | assumption) (pure_move (.tmp _ _ rfl)) ?_
    first | (refine AList.gp rfl rfl rfl (by first | rfl | assumption) (pure_lenL Tryz.underlying40 (.tmp _ _ rfl)) ?_) | (refine AList.gp rfl rfl rfl (by first | rfl | assumption) (pure_lenS Tryz.underlying40 (.tmp _ _ rfl)) ?_) | (refine AList.gp rfl rfl rfl (by first | rfl | assumption) (pure_lenM Tryz.underlying40 (.tmp _ _ rfl)) ?_)
    refine AList.gp rfl rfl rfl (by first | rfl | assumption) (pure_move (.tmp _ _ rfl)) ?_
    refine AList.gp rfl rfl rfl (by first | rfl | assumption) (pure_gtr (.tmp _ _ rfl) (.tmp _ _ rfl)) ?_
    refine AList.p rfl (pure_pickF (.tmp _ _ rfl) (by first | rfl | assumption) (.tmp _ _ rfl)) ?_
    refine AList.nil ?_
    refine Next.go ?_
    -- c1
    refine AWP.cond (.tmp _ _ rfl) (fun hc38 => ?_) (fun hc38 => ?_)
    · try simp only [decide_eq_true_eq] at hc38
      omega
    · try simp only [decide_eq_false_iff_not, Int.not_lt] at hc38
      refine AWP.skip ?_
      refine Next.go ?_
      refine AWP.seq ?_
      -- region 8
      refine AWP.region ?_
      refine AList.p rfl (pure_move (.tmp _ _ rfl)) ?_
      refine AList.p rfl (pure_move (.tmp _ _ rfl)) ?_
      refine AList.p rfl (pure_build [(0, 1), (1, 1), (2, 1)] Tryz.underlying79 Tryz.zeroValue79 (zr79) rfl (pl79 _ Tryz.underlying79) (.cons (.tmp _ _ rfl) (.inl rfl) (.cons (.tmp _ _ rfl) (.inl rfl) (.cons ev_int (.inl rfl) .nil))) rfl) ?_
      refine AList.s rfl (step_box (.tmp _ _ rfl) (.inr ⟨_, rfl⟩)) ?_
      rintro _ _ ⟨b43, hb43, rfl, hH⟩
      obtain rfl := hH.symm
      have hn6_43 := Heap.ne_of (by first | assumption | exact (by assumption : Heap.le _ _).objs _ _ (by assumption) | exact Heap.objs_set_same _ _ _ | exact (Heap.objs_set_ne _ _ (by assumption)).trans (Heap.objs_set_same _ _ _) | exact (Heap.objs_set_ne _ _ (by assumption)).trans ((Heap.objs_set_ne _ _ (by assumption)).trans (Heap.objs_set_same _ _ _)) | exact (Heap.objs_set_ne _ _ (by assumption)).trans (by assumption)) hb43
      refine AList.p rfl (pure_assign (.tmp _ _ rfl)) ?_
      refine AList.nil ?_
      refine Next.go ?_
      refine AWP.seq ?_
      -- region 9
      refine AWP.region ?_
      refine AList.p rfl (pure_move (.tmp _ _ rfl)) ?_
      refine AList.p rfl (pure_move (.tmp _ _ rfl)) ?_
      refine AList.s rfl (step_call0 Tryz.call34 (.cons (.tmp _ _ rfl) (.cons (.tmp _ _ rfl) .nil)) (doesNOT_calls _ q po pr l tl 0 hn hv ht _ (Heap.objs_set_same _ _ _))) ?_
      rintro _ _ ⟨rfl, rfl⟩
      rw [Heap.set_set]
      refine AList.s rfl (step_alloc Tryz.zeroValue24 (zr24)) ?_
      rintro _ _ ⟨b13, hb13, rfl, hH⟩
      obtain rfl := hH.symm
      have hn6_13 := Heap.ne_of (by first | assumption | exact (by assumption : Heap.le _ _).objs _ _ (by assumption) | exact Heap.objs_set_same _ _ _ | exact (Heap.objs_set_ne _ _ (by assumption)).trans (Heap.objs_set_same _ _ _) | exact (Heap.objs_set_ne _ _ (by assumption)).trans ((Heap.objs_set_ne _ _ (by assumption)).trans (Heap.objs_set_same _ _ _)) | exact (Heap.objs_set_ne _ _ (by assumption)).trans (by assumption)) hb13
      have hn43_13 := Heap.ne_of (by first | assumption | exact (by assumption : Heap.le _ _).objs _ _ (by assumption) | exact Heap.objs_set_same _ _ _ | exact (Heap.objs_set_ne _ _ (by assumption)).trans (Heap.objs_set_same _ _ _) | exact (Heap.objs_set_ne _ _ (by assumption)).trans ((Heap.objs_set_ne _ _ (by assumption)).trans (Heap.objs_set_same _ _ _)) | exact (Heap.objs_set_ne _ _ (by assumption)).trans (by assumption)) hb13
      refine AList.s0 (step_store Tryz.sizeOf24 (.tmp _ _ rfl) (.tmp _ _ rfl) rfl rfl (.inr ⟨_, rfl⟩) (by first | assumption | exact (by assumption : Heap.le _ _).objs _ _ (by assumption) | exact Heap.objs_set_same _ _ _ | exact (Heap.objs_set_ne _ _ (by assumption)).trans (Heap.objs_set_same _ _ _) | exact (Heap.objs_set_ne _ _ (by assumption)).trans ((Heap.objs_set_ne _ _ (by assumption)).trans (Heap.objs_set_same _ _ _)) | exact (Heap.objs_set_ne _ _ (by assumption)).trans (by assumption)) (Nat.le_of_ble_eq_true rfl)) ?_
      rintro _ _ ⟨rfl, hH⟩
      obtain rfl := hH.symm
      try first | rw [Heap.set_set] | rw [Heap.set_under (by assumption)]
      refine AList.nil ?_
      refine Next.go ?_
      refine AWP.frz (t := 13) rfl (by first | exact hb13 | exact Heap.fresh_set hb13 _) ?_
      refine AWP.seq ?_
      refine AWP.seq ?_
      -- region 10
      refine AWP.region ?_
      refine AList.p rfl (pure_move (.tmp _ _ rfl)) ?_
      first | (refine AList.p rfl (pure_nilCheckI (.tmp _ _ rfl)) ?_) | (refine AList.p rfl (pure_nilCheck (.tmp _ _ rfl)) ?_) | (refine AList.p rfl (pure_nilCheckF (.tmp _ _ rfl)) ?_)
      first | (refine AList.p rfl (pure_fieldI Tryz.underlying79 rfl Tryz.sizeOf3 (.tmp _ _ rfl)) ?_) | (refine AList.p rfl (pure_field Tryz.underlying79 rfl Tryz.sizeOf3 (.tmp _ _ rfl)) ?_)
      first | (refine AList.p rfl (pure_load1 Tryz.isAgg3 (.tmp _ _ rfl)) ?_) | (refine AList.s rfl (step_load1 Tryz.isAgg3 (.tmp _ _ rfl) (by first | assumption | exact (by assumption : Heap.le _ _).objs _ _ (by assumption) | exact Heap.objs_set_same _ _ _ | exact (Heap.objs_set_ne _ _ (by assumption)).trans (Heap.objs_set_same _ _ _) | exact (Heap.objs_set_ne _ _ (by assumption)).trans ((Heap.objs_set_ne _ _ (by assumption)).trans (Heap.objs_set_same _ _ _)) | exact (Heap.objs_set_ne _ _ (by assumption)).trans (by assumption)) rfl) ?_; rintro _ _ ⟨rfl, hH⟩; obtain rfl := hH.symm)
      refine AList.p rfl (pure_neq (.tmp _ _ rfl) ev_int) ?_
      refine AList.nil ?_
      refine Next.go ?_
      -- c2
      refine AWP.cond (.tmp _ _ rfl) (fun hc51 => ?_) (fun hc51 => ?_)
      · try simp only [decide_eq_true_eq, ne_eq] at hc51
        refine AWP.seq ?_
        -- region 11
        refine AWP.region ?_
        refine AList.p rfl (pure_move (.tmp _ _ rfl)) ?_
        first | (refine AList.p rfl (pure_nilCheckI (.tmp _ _ rfl)) ?_) | (refine AList.p rfl (pure_nilCheck (.tmp _ _ rfl)) ?_) | (refine AList.p rfl (pure_nilCheckF (.tmp _ _ rfl)) ?_)
        first | (refine AList.p rfl (pure_fieldI Tryz.underlying79 rfl Tryz.sizeOf3 (.tmp _ _ rfl)) ?_) | (refine AList.p rfl (pure_field Tryz.underlying79 rfl Tryz.sizeOf3 (.tmp _ _ rfl)) ?_)
        first | (refine AList.p rfl (pure_load1 Tryz.isAgg3 (.tmp _ _ rfl)) ?_) | (refine AList.s rfl (step_load1 Tryz.isAgg3 (.tmp _ _ rfl) (by first | assumption | exact (by assumption : Heap.le _ _).objs _ _ (by assumption) | exact Heap.objs_set_same _ _ _ | exact (Heap.objs_set_ne _ _ (by assumption)).trans (Heap.objs_set_same _ _ _) | exact (Heap.objs_set_ne _ _ (by assumption)).trans ((Heap.objs_set_ne _ _ (by assumption)).trans (Heap.objs_set_same _ _ _)) | exact (Heap.objs_set_ne _ _ (by assumption)).trans (by assumption)) rfl) ?_; rintro _ _ ⟨rfl, hH⟩; obtain rfl := hH.symm)
        refine AList.s rfl (step_call0 Tryz.call24 (.cons (.tmp _ _ rfl) .nil) (vFail_calls _ _)) ?_
        rintro _ _ ⟨rfl, hH⟩
        obtain rfl := hH.symm
        refine AList.s0 (step_store Tryz.sizeOf24 (.tmp _ _ rfl) (.tmp _ _ rfl) rfl rfl (.inr ⟨_, rfl⟩) (by first | assumption | exact (by assumption : Heap.le _ _).objs _ _ (by assumption) | exact Heap.objs_set_same _ _ _ | exact (Heap.objs_set_ne _ _ (by assumption)).trans (Heap.objs_set_same _ _ _) | exact (Heap.objs_set_ne _ _ (by assumption)).trans ((Heap.objs_set_ne _ _ (by assumption)).trans (Heap.objs_set_same _ _ _)) | exact (Heap.objs_set_ne _ _ (by assumption)).trans (by assumption)) (Nat.le_of_ble_eq_true rfl)) ?_
        rintro _ _ ⟨rfl, hH⟩
        obtain rfl := hH.symm
        try first | rw [Heap.set_set] | rw [Heap.set_under (by assumption)]
        refine AList.nil ?_
        refine Next.go ?_
        refine AWP.dropb (by first | exact hb43 | exact Heap.fresh_set hb43 _) ?_
        refine AWP.frz (t := 6) rfl (by first | exact hb6 | exact Heap.fresh_set hb6 _) ?_
        refine AWP.ret ?_
        refine Next.rt ?_
        -- ret 1
        refine Ret.go (.cons (.cellI _ _ _ _ rfl Tryz.isAgg24 Tryz.sizeOf24 rfl) .nil) _ (Heap.le.refl _) ?_
        first | (exfalso; omega) | exact absurd trivial hc51 | (refine ⟨?_, rfl⟩; first | (rw [if_pos hc51]; rfl) | (rw [if_pos rfl]; rfl) | (rw [if_neg hc51]; rfl))
      · try simp only [decide_eq_false_iff_not, ne_eq, Decidable.not_not] at hc51
        refine AWP.skip ?_
        refine Next.go ?_
        refine AWP.seq ?_
        -- region 12
        refine AWP.region ?_
        first | (refine AList.p rfl (pure_loadN Tryz.isAgg24 Tryz.sizeOf24 (.tmp _ _ rfl) (Nat.le_of_ble_eq_true rfl)) ?_) | (refine AList.s rfl (step_loadN Tryz.isAgg24 Tryz.sizeOf24 (.tmp _ _ rfl) (by first | assumption | exact (by assumption : Heap.le _ _).objs _ _ (by assumption) | exact Heap.objs_set_same _ _ _ | exact (Heap.objs_set_ne _ _ (by assumption)).trans (Heap.objs_set_same _ _ _) | exact (Heap.objs_set_ne _ _ (by assumption)).trans ((Heap.objs_set_ne _ _ (by assumption)).trans (Heap.objs_set_same _ _ _)) | exact (Heap.objs_set_ne _ _ (by assumption)).trans (by assumption)) (Nat.le_of_ble_eq_true rfl)) ?_; rintro _ _ ⟨rfl, hH⟩; obtain rfl := hH.symm)
        refine AList.s0 (step_store Tryz.sizeOf24 (.tmp _ _ rfl) (.tmp _ _ rfl) rfl rfl (.inr ⟨_, rfl⟩) (by first | assumption | exact (by assumption : Heap.le _ _).objs _ _ (by assumption) | exact Heap.objs_set_same _ _ _ | exact (Heap.objs_set_ne _ _ (by assumption)).trans (Heap.objs_set_same _ _ _) | exact (Heap.objs_set_ne _ _ (by assumption)).trans ((Heap.objs_set_ne _ _ (by assumption)).trans (Heap.objs_set_same _ _ _)) | exact (Heap.objs_set_ne _ _ (by assumption)).trans (by assumption)) (Nat.le_of_ble_eq_true rfl)) ?_
        rintro _ _ ⟨rfl, hH⟩
        obtain rfl := hH.symm
        try first | rw [Heap.set_set] | rw [Heap.set_under (by assumption)]
        refine AList.nil ?_
        refine Next.go ?_
        refine AWP.dropb (by first | exact hb43 | exact Heap.fresh_set hb43 _) ?_
        refine AWP.frz (t := 6) rfl (by first | exact hb6 | exact Heap.fresh_set hb6 _) ?_
        refine AWP.ret ?_
        -- ret 2
        refine Ret.go (.cons (.cellI _ _ _ _ rfl Tryz.isAgg24 Tryz.sizeOf24 rfl) .nil) _ (Heap.le.refl _) ?_
        first | (exfalso; omega) | exact absurd trivial hc51 | (refine ⟨?_, rfl⟩; first | (rw [if_pos hc51]; rfl) | (rw [if_pos rfl]; rfl) | (rw [if_neg hc51]; rfl))

set_option maxRecDepth 100000 in
theorem doesIF_calls (b : Nat) (q : FLoc) (po pr : AV) (l : List ArgN) (tl : Tail) (f : Int) (hn : l.length = 3) (hv : (scalarV l[0]).bits < 18446744073709551616) (ht : (scalarV l[0]).text.length ≤ 1000) (H : Heap) (hb : H.objs b = some (callB (callerA q po pr) l tl f)) : ACall Tryz.prog 34 [.ptr (some ⟨b, 0, none⟩), .str [73, 70]] H (fun y H' => y = (if (toBoolV (scalarV l[0])).1 = true then scalarV l[1] else scalarV l[2]).av ∧ H' = H.set b (callB (callerA q po pr) l tl (wrongF f (toBoolV (scalarV l[0])).2))) := by
  refine ACall.of_body Tryz.func34 rfl Tryz.ntmps34 Tryz.results34 rfl ?_
  refine AWP.seq ?_
  -- region 0
  refine AWP.region ?_
  refine AList.s rfl (step_alloc Tryz.zeroValue24 (zr24)) ?_
  rintro _ _ ⟨b4, hb4, rfl, hH⟩
  obtain rfl := hH.symm
  refine AList.nil ?_
  refine Next.go ?_
  refine AWP.seq ?_
  refine AWP.seq ?_
  have hne4 : b ≠ b4 := by rintro rfl; rw [hb] at hb4; cases hb4
  have hne4x := hne4.symm
  -- region 1
  refine AWP.region ?_
  refine AList.p rfl (pure_move (.tmp _ _ rfl)) ?_
  refine AList.nil ?_
  refine Next.go ?_
  refine AWP.block ?_
  refine AWP.seq ?_
  refine AWP.seq ?_
  -- region 2
  refine AWP.region ?_
  refine AList.p rfl (pure_eqlStr (.tmp _ _ rfl) (ev_str rfl)) ?_
  refine AList.p rfl (pure_assign (.tmp _ _ rfl)) ?_
  refine AList.nil ?_
  refine Next.go ?_
  -- c0
  refine AWP.cond_false (.tmp _ _ rfl) (by rfl) ?_
  refine AWP.seq ?_
  -- region 3
  refine AWP.region ?_
  refine AList.p rfl (pure_eqlStr (.tmp _ _ rfl) (ev_str rfl)) ?_
  refine AList.p rfl (pure_assign (.tmp _ _ rfl)) ?_
  refine AList.nil ?_
  refine Next.go ?_
  -- c1
  refine AWP.cond_false (.tmp _ _ rfl) (by rfl) ?_
  refine AWP.seq ?_
  -- region 4
  refine AWP.region ?_
  refine AList.p rfl (pure_eqlStr (.tmp _ _ rfl) (ev_str rfl)) ?_
  refine AList.p rfl (pure_assign (.tmp _ _ rfl)) ?_
  refine AList.nil ?_
  refine Next.go ?_
  -- c2
  refine AWP.cond_false (.tmp _ _ rfl) (by rfl) ?_
  refine AWP.seq ?_
  -- region 5
  refine AWP.region ?_
  refine AList.p rfl (pure_eqlStr (.tmp _ _ rfl) (ev_str rfl)) ?_
  refine AList.p rfl (pure_assign (.tmp _ _ rfl)) ?_
  refine AList.nil ?_
  refine Next.go ?_
  -- c3
  refine AWP.cond_false (.tmp _ _ rfl) (by rfl) ?_
  refine AWP.seq ?_
  -- region 6
  refine AWP.region ?_
  refine AList.p rfl (pure_eqlStr (.tmp _ _ rfl) (ev_str rfl)) ?_
  refine AList.p rfl (pure_assign (.tmp _ _ rfl)) ?_
  refine AList.nil ?_
  refine Next.go ?_
  -- c4
  refine AWP.cond_false (.tmp _ _ rfl) (by rfl) ?_
  refine AWP.seq ?_
  -- region 7
  refine AWP.region ?_
  refine AList.p rfl (pure_eqlStr (.tmp _ _ rfl) (ev_str rfl)) ?_
  refine AList.p rfl (pure_assign (.tmp _ _ rfl)) ?_
  refine AList.nil ?_
  refine Next.go ?_
  -- c5
  refine AWP.cond_false (.tmp _ _ rfl) (by rfl) ?_
  -- region 8
  refine AWP.region ?_
  refine AList.p rfl (pure_eqlStr (.tmp _ _ rfl) (ev_str rfl)) ?_
  refine AList.p rfl (pure_assign (.tmp _ _ rfl)) ?_
  refine AList.nil ?_
  refine Next.go ?_
  -- c6
  refine AWP.cond_false (.tmp _ _ rfl) (by rfl) ?_
  refine AWP.seq ?_
  refine AWP.seq ?_
  -- region 10
  refine AWP.region ?_
  refine AList.p rfl (pure_eqlStr (.tmp _ _ rfl) (ev_str rfl)) ?_
  refine AList.p rfl (pure_assign (.tmp _ _ rfl)) ?_
  refine AList.nil ?_
  refine Next.go ?_
  -- c7
  refine AWP.cond_false (.tmp _ _ rfl) (by rfl) ?_
  -- region 11
  refine AWP.region ?_
  refine AList.p rfl (pure_eqlStr (.tmp _ _ rfl) (ev_str rfl)) ?_
  refine AList.p rfl (pure_assign (.tmp _ _ rfl)) ?_
  refine AList.nil ?_
  refine Next.go ?_
  -- c8
  refine AWP.cond_false (.tmp _ _ rfl) (by rfl) ?_
  refine AWP.seq ?_
  refine AWP.seq ?_
  -- region 13
  refine AWP.region ?_
  refine AList.p rfl (pure_eqlStr (.tmp _ _ rfl) (ev_str rfl)) ?_
  refine AList.p rfl (pure_assign (.tmp _ _ rfl)) ?_
  refine AList.nil ?_
  refine Next.go ?_
  -- c9
  refine AWP.cond_false (.tmp _ _ rfl) (by rfl) ?_
  -- region 14
  refine AWP.region ?_
  refine AList.p rfl (pure_eqlStr (.tmp _ _ rfl) (ev_str rfl)) ?_
  refine AList.p rfl (pure_assign (.tmp _ _ rfl)) ?_
  refine AList.nil ?_
  refine Next.go ?_
  -- c10
  refine AWP.cond_false (.tmp _ _ rfl) (by rfl) ?_
  refine AWP.seq ?_
  refine AWP.seq ?_
  -- region 16
  refine AWP.region ?_
  refine AList.p rfl (pure_eqlStr (.tmp _ _ rfl) (ev_str rfl)) ?_
  refine AList.p rfl (pure_assign (.tmp _ _ rfl)) ?_
  refine AList.nil ?_
  refine Next.go ?_
  -- c11
  refine AWP.cond_false (.tmp _ _ rfl) (by rfl) ?_
  refine AWP.seq ?_
  -- region 17
  refine AWP.region ?_
  refine AList.p rfl (pure_eqlStr (.tmp _ _ rfl) (ev_str rfl)) ?_
  refine AList.p rfl (pure_assign (.tmp _ _ rfl)) ?_
  refine AList.nil ?_
  refine Next.go ?_
  -- c12
  refine AWP.cond_false (.tmp _ _ rfl) (by rfl) ?_
  -- region 18
  refine AWP.region ?_
  refine AList.p rfl (pure_eqlStr (.tmp _ _ rfl) (ev_str rfl)) ?_
  refine AList.p rfl (pure_assign (.tmp _ _ rfl)) ?_
  refine AList.nil ?_
  refine Next.go ?_
  -- c13
  refine AWP.cond_false (.tmp _ _ rfl) (by rfl) ?_
  refine AWP.seq ?_
  refine AWP.seq ?_
  -- region 20
  refine AWP.region ?_
  refine AList.p rfl (pure_eqlStr (.tmp _ _ rfl) (ev_str rfl)) ?_
  refine AList.p rfl (pure_assign (.tmp _ _ rfl)) ?_
  refine AList.nil ?_
  refine Next.go ?_
  -- c14
  refine AWP.cond_false (.tmp _ _ rfl) (by rfl) ?_
  refine AWP.seq ?_
  -- region 21
  refine AWP.region ?_
  refine AList.p rfl (pure_eqlStr (.tmp _ _ rfl) (ev_str rfl)) ?_
  refine AList.p rfl (pure_assign (.tmp _ _ rfl)) ?_
  refine AList.nil ?_
  refine Next.go ?_
  -- c15
  refine AWP.cond_false (.tmp _ _ rfl) (by rfl) ?_
  refine AWP.seq ?_
  -- region 22
  refine AWP.region ?_
  refine AList.p rfl (pure_eqlStr (.tmp _ _ rfl) (ev_str rfl)) ?_
  refine AList.p rfl (pure_assign (.tmp _ _ rfl)) ?_
  refine AList.nil ?_
  refine Next.go ?_
  -- c16
  refine AWP.cond_false (.tmp _ _ rfl) (by rfl) ?_
  refine AWP.seq ?_
  -- region 23
  refine AWP.region ?_
  refine AList.p rfl (pure_eqlStr (.tmp _ _ rfl) (ev_str rfl)) ?_
  refine AList.p rfl (pure_assign (.tmp _ _ rfl)) ?_
  refine AList.nil ?_
  refine Next.go ?_
  -- c17
  refine AWP.cond_false (.tmp _ _ rfl) (by rfl) ?_
  refine AWP.seq ?_
  -- region 24
  refine AWP.region ?_
  refine AList.p rfl (pure_eqlStr (.tmp _ _ rfl) (ev_str rfl)) ?_
  refine AList.p rfl (pure_assign (.tmp _ _ rfl)) ?_
  refine AList.nil ?_
  refine Next.go ?_
  -- c18
  refine AWP.cond_false (.tmp _ _ rfl) (by rfl) ?_
  -- region 25
  refine AWP.region ?_
  refine AList.p rfl (pure_eqlStr (.tmp _ _ rfl) (ev_str rfl)) ?_
  refine AList.p rfl (pure_assign (.tmp _ _ rfl)) ?_
  refine AList.nil ?_
  refine Next.go ?_
  -- c19
  refine AWP.cond_false (.tmp _ _ rfl) (by rfl) ?_
  refine AWP.seq ?_
  refine AWP.seq ?_
  -- region 27
  refine AWP.region ?_
  refine AList.p rfl (pure_eqlStr (.tmp _ _ rfl) (ev_str rfl)) ?_
  refine AList.p rfl (pure_assign (.tmp _ _ rfl)) ?_
  refine AList.nil ?_
  refine Next.go ?_
  -- c20
  refine AWP.cond_false (.tmp _ _ rfl) (by rfl) ?_
  -- region 28
  refine AWP.region ?_
  refine AList.p rfl (pure_eqlStr (.tmp _ _ rfl) (ev_str rfl)) ?_
  refine AList.p rfl (pure_assign (.tmp _ _ rfl)) ?_
  refine AList.nil ?_
  refine Next.go ?_
  -- c21
  refine AWP.cond_false (.tmp _ _ rfl) (by rfl) ?_
  refine AWP.seq ?_
  -- region 30
  refine AWP.region ?_
  refine AList.p rfl (pure_eqlStr (.tmp _ _ rfl) (ev_str rfl)) ?_
  refine AList.p rfl (pure_assign (.tmp _ _ rfl)) ?_
  refine AList.nil ?_
  refine Next.go ?_
  -- c22
  refine AWP.cond_false (.tmp _ _ rfl) (by rfl) ?_
  refine AWP.seq ?_
  -- region 32
  refine AWP.region ?_
  refine AList.p rfl (pure_eqlStr (.tmp _ _ rfl) (ev_str rfl)) ?_
  refine AList.p rfl (pure_assign (.tmp _ _ rfl)) ?_
  refine AList.nil ?_
  refine Next.go ?_
  -- c23
  refine AWP.cond_false (.tmp _ _ rfl) (by rfl) ?_
  refine AWP.seq ?_
  refine AWP.seq ?_
  -- region 34
  refine AWP.region ?_
  refine AList.p rfl (pure_eqlStr (.tmp _ _ rfl) (ev_str rfl)) ?_
  refine AList.p rfl (pure_assign (.tmp _ _ rfl)) ?_
  refine AList.nil ?_
  refine Next.go ?_
  -- c24
  refine AWP.cond_false (.tmp _ _ rfl) (by rfl) ?_
  refine AWP.seq ?_
  -- region 35
  refine AWP.region ?_
  refine AList.p rfl (pure_eqlStr (.tmp _ _ rfl) (ev_str rfl)) ?_
  refine AList.p rfl (pure_assign (.tmp _ _ rfl)) ?_
  refine AList.nil ?_
  refine Next.go ?_
  -- c25
  refine AWP.cond_false (.tmp _ _ rfl) (by rfl) ?_
  refine AWP.seq ?_
  -- region 36
  refine AWP.region ?_
  refine AList.p rfl (pure_eqlStr (.tmp _ _ rfl) (ev_str rfl)) ?_
  refine AList.p rfl (pure_assign (.tmp _ _ rfl)) ?_
  refine AList.nil ?_
  refine Next.go ?_
  -- c26
  refine AWP.cond_false (.tmp _ _ rfl) (by rfl) ?_
  refine AWP.seq ?_
  -- region 37
  refine AWP.region ?_
  refine AList.p rfl (pure_eqlStr (.tmp _ _ rfl) (ev_str rfl)) ?_
  refine AList.p rfl (pure_assign (.tmp _ _ rfl)) ?_
  refine AList.nil ?_
  refine Next.go ?_
  -- c27
  refine AWP.cond_false (.tmp _ _ rfl) (by rfl) ?_
  -- region 38
  refine AWP.region ?_
  refine AList.p rfl (pure_eqlStr (.tmp _ _ rfl) (ev_str rfl)) ?_
  refine AList.p rfl (pure_assign (.tmp _ _ rfl)) ?_
  refine AList.nil ?_
  refine Next.go ?_
  -- c28
  refine AWP.cond_false (.tmp _ _ rfl) (by rfl) ?_
  refine AWP.seq ?_
  -- region 40
  refine AWP.region ?_
  refine AList.p rfl (pure_eqlStr (.tmp _ _ rfl) (ev_str rfl)) ?_
  refine AList.p rfl (pure_assign (.tmp _ _ rfl)) ?_
  refine AList.nil ?_
  refine Next.go ?_
  -- c29
  refine AWP.cond_false (.tmp _ _ rfl) (by rfl) ?_
  refine AWP.seq ?_
  refine AWP.seq ?_
  -- region 42
  refine AWP.region ?_
  refine AList.p rfl (pure_eqlStr (.tmp _ _ rfl) (ev_str rfl)) ?_
  refine AList.p rfl (pure_assign (.tmp _ _ rfl)) ?_
  refine AList.nil ?_
  refine Next.go ?_
  -- c30
  refine AWP.cond_false (.tmp _ _ rfl) (by rfl) ?_
  refine AWP.seq ?_
  -- region 43
  refine AWP.region ?_
  refine AList.p rfl (pure_eqlStr (.tmp _ _ rfl) (ev_str rfl)) ?_
  refine AList.p rfl (pure_assign (.tmp _ _ rfl)) ?_
  refine AList.nil ?_
  refine Next.go ?_
  -- c31
  refine AWP.cond_false (.tmp _ _ rfl) (by rfl) ?_
  -- region 44
  refine AWP.region ?_
  refine AList.p rfl (pure_eqlStr (.tmp _ _ rfl) (ev_str rfl)) ?_
  refine AList.p rfl (pure_assign (.tmp _ _ rfl)) ?_
  refine AList.nil ?_
  refine Next.go ?_
  -- c32
  refine AWP.cond_false (.tmp _ _ rfl) (by rfl) ?_
  refine AWP.seq ?_
  -- region 46
  refine AWP.region ?_
  refine AList.p rfl (pure_eqlStr (.tmp _ _ rfl) (ev_str rfl)) ?_
  refine AList.p rfl (pure_assign (.tmp _ _ rfl)) ?_
  refine AList.nil ?_
  refine Next.go ?_
  -- c33
  refine AWP.cond_false (.tmp _ _ rfl) (by rfl) ?_
  refine AWP.seq ?_
  refine AWP.seq ?_
  -- region 48
  refine AWP.region ?_
  refine AList.p rfl (pure_eqlStr (.tmp _ _ rfl) (ev_str rfl)) ?_
  refine AList.p rfl (pure_assign (.tmp _ _ rfl)) ?_
  refine AList.nil ?_
  refine Next.go ?_
  -- c34
  refine AWP.cond_false (.tmp _ _ rfl) (by rfl) ?_
  -- region 49
  refine AWP.region ?_
  refine AList.p rfl (pure_eqlStr (.tmp _ _ rfl) (ev_str rfl)) ?_
  refine AList.p rfl (pure_assign (.tmp _ _ rfl)) ?_
  refine AList.nil ?_
  refine Next.go ?_
  -- c35
  refine AWP.cond_false (.tmp _ _ rfl) (by rfl) ?_
  refine AWP.seq ?_
  -- region 51
  refine AWP.region ?_
  refine AList.p rfl (pure_eqlStr (.tmp _ _ rfl) (ev_str rfl)) ?_
  refine AList.p rfl (pure_assign (.tmp _ _ rfl)) ?_
  refine AList.nil ?_
  refine Next.go ?_
  -- c36
  refine AWP.cond_false (.tmp _ _ rfl) (by rfl) ?_
  refine AWP.skip ?_
  refine Block.go ?_
  refine Next.go ?_
  refine AWP.seq ?_
  -- region 53
  refine AWP.region ?_
  refine AList.p rfl (pure_move (.tmp _ _ rfl)) ?_
  refine AList.p rfl (pure_move (.tmp _ _ rfl)) ?_
  refine AList.s rfl (step_call0 Tryz.call54 (.cons (.tmp _ _ rfl) (.cons (.tmp _ _ rfl) .nil)) (otherIF_calls b q po pr l tl _ hn hv ht _ (by first | assumption | exact (Heap.objs_set_ne _ _ (by assumption)).trans hb | exact Heap.objs_set_same _ _ _ | exact (Heap.objs_set_ne _ _ (by assumption)).trans (Heap.objs_set_same _ _ _)))) ?_
  rintro _ _ ⟨rfl, rfl⟩
  rw [Heap.set_comm hne4x]
  replace hb4 := fresh_outF (y := callB (callerA q po pr) l tl (wrongF f (toBoolV (scalarV l[0])).2)) hb4 hne4x
  refine AList.s0 (step_store Tryz.sizeOf24 (.tmp _ _ rfl) (.tmp _ _ rfl) rfl rfl (.inr ⟨_, rfl⟩) (by first | exact (Heap.objs_set_ne _ _ (by assumption)).trans hb | assumption | exact (by assumption : Heap.le _ _).objs _ _ (by assumption) | exact Heap.objs_set_same _ _ _ | exact (Heap.objs_set_ne _ _ (by assumption)).trans (Heap.objs_set_same _ _ _) | exact (Heap.objs_set_ne _ _ (by assumption)).trans ((Heap.objs_set_ne _ _ (by assumption)).trans (Heap.objs_set_same _ _ _)) | exact (Heap.objs_set_ne _ _ (by assumption)).trans (by assumption)) (Nat.le_of_ble_eq_true rfl)) ?_
  rintro _ _ ⟨rfl, hH⟩
  obtain rfl := hH.symm
  try first | rw [Heap.set_set] | rw [Heap.set_under (by assumption)]
  refine AList.nil ?_
  refine Next.go ?_
  refine AWP.frz (t := 4) rfl (by first | exact hb4 | exact Heap.fresh_set hb4 _) ?_
  refine AWP.ret ?_
  -- ret 0
  refine Ret.go (.cons (.cellI _ _ _ _ rfl Tryz.isAgg24 Tryz.sizeOf24 rfl) .nil) _ (Heap.le.refl _) ?_
  exact ⟨rfl, rfl⟩

set_option maxRecDepth 100000 in
theorem hasIF : bsHas nameL [73, 70] = true := by kernel_rfl
set_option maxRecDepth 100000 in
theorem takesIF (H : Heap) : ACall Tryz.prog 33 [.str [73, 70]] H (fun y H' => y = .tuple [.int .i64 2, .int .i64 3] ∧ H' = H) := closed_two (k := 20) Tryz.func33 rfl (by kernel_rfl) H

set_option maxRecDepth 100000 in
theorem CallIF_calls (q : FLoc) (po pr : AV) (l : List ArgN) (tl : Tail) (hn : l.length = 3) (hv : (scalarV l[0]).bits < 18446744073709551616) (ht : (scalarV l[0]).text.length ≤ 1000) (H : Heap) : ACall Tryz.prog 19 [callerA q po pr, .str [73, 70], argsS l tl] H (fun y H' => y = (if wrongF 0 (toBoolV (scalarV l[0])).2 = 0 then if (toBoolV (scalarV l[0])).1 = true then scalarV l[1] else scalarV l[2] else FailV (wrongF 0 (toBoolV (scalarV l[0])).2)).av ∧ H' = H) := by
  refine ACall.of_body Tryz.func19 rfl Tryz.ntmps19 Tryz.results19 rfl ?_
  refine AWP.seq ?_
  -- region 0
  refine AWP.region ?_
  refine AList.s rfl (step_alloc Tryz.zeroValue24 (zr24)) ?_
  rintro _ _ ⟨b6, hb6, rfl, hH⟩
  obtain rfl := hH.symm
  refine AList.nil ?_
  refine Next.go ?_
  refine AWP.seq ?_
  -- region 1
  refine AWP.region ?_
  refine AList.s rfl (step_loadKN Tryz.isAgg72 Tryz.sizeOf72 (.global _) rfl (by decide) inv_fnames) ?_
  rintro _ _ ⟨rfl, hH⟩
  obtain rfl := hH.symm
  refine AList.s rfl (step_alloc Tryz.zeroValue72 (zr72)) ?_
  rintro _ _ ⟨b7, hb7, rfl, hH⟩
  obtain rfl := hH.symm
  have hn6_7 := Heap.ne_of (by first | assumption | exact (by assumption : Heap.le _ _).objs _ _ (by assumption) | exact Heap.objs_set_same _ _ _ | exact (Heap.objs_set_ne _ _ (by assumption)).trans (Heap.objs_set_same _ _ _) | exact (Heap.objs_set_ne _ _ (by assumption)).trans ((Heap.objs_set_ne _ _ (by assumption)).trans (Heap.objs_set_same _ _ _)) | exact (Heap.objs_set_ne _ _ (by assumption)).trans (by assumption)) hb7
  refine AList.s0 (step_store Tryz.sizeOf72 (.tmp _ _ rfl) (.tmp _ _ rfl) rfl rfl (.inr ⟨_, rfl⟩) (Heap.objs_set_same _ _ _) (Nat.le_of_ble_eq_true rfl)) ?_
  rintro _ _ ⟨rfl, hH⟩
  obtain rfl := hH.symm
  rw [Heap.set_set, store_names]
  refine AList.nil ?_
  refine Next.go ?_
  refine AWP.frz (t := 7) rfl (by first | exact hb7 | exact Heap.fresh_set hb7 _) ?_
  refine AWP.seq ?_
  refine AWP.seq ?_
  -- region 2
  refine AWP.region ?_
  refine AList.p rfl (pure_sliceA Tryz.underlying72 Tryz.sizeOf9 (.tmp _ _ rfl) rfl (by rw [maxLen_eq]; decide) (fun c hc => by obtain ⟨s, _, rfl⟩ := List.mem_map.1 hc; exact ⟨rfl, rfl⟩)) ?_
  refine AList.p rfl (pure_move (.tmp _ _ rfl)) ?_
  refine AList.s rfl (step_call0 Tryz.call32 (.cons (.tmp _ _ rfl) (.cons (.tmp _ _ rfl) .nil)) (BS_calls nameL _ _ (by decide) (by decide) _)) ?_
  rintro _ _ ⟨rfl, hH⟩
  obtain rfl := hH.symm
  rw [hasIF]
  refine AList.p rfl (pure_move (.tmp _ _ rfl)) ?_
  refine AList.p rfl (pure_extract (.tmp _ _ rfl) rfl) ?_
  refine AList.p rfl (pure_extract (.tmp _ _ rfl) rfl) ?_
  refine AList.p rfl (pure_assign (.tmp _ _ rfl)) ?_
  refine AList.p rfl (pure_assign (.tmp _ _ rfl)) ?_
  refine AList.nil ?_
  refine Next.go ?_
  refine AWP.seq ?_
  -- region 3
  refine AWP.region ?_
  refine AList.p rfl (pure_move (.tmp _ _ rfl)) ?_
  refine AList.p rfl (pure_not (.tmp _ _ rfl)) ?_
  refine AList.nil ?_
  refine Next.go ?_
  -- c0
  refine AWP.cond_false (.tmp _ _ rfl) (by rfl) ?_
  refine AWP.skip ?_
  refine Next.go ?_
  refine AWP.seq ?_
  refine AWP.seq ?_
  -- region 5
  refine AWP.region ?_
  refine AList.p rfl (pure_move (.tmp _ _ rfl)) ?_
  refine AList.s rfl (step_call0 Tryz.call33 (.cons (.tmp _ _ rfl) .nil) (takesIF _)) ?_
  rintro _ _ ⟨rfl, hH⟩
  obtain rfl := hH.symm
  refine AList.p rfl (pure_move (.tmp _ _ rfl)) ?_
  refine AList.p rfl (pure_extract (.tmp _ _ rfl) rfl) ?_
  refine AList.p rfl (pure_extract (.tmp _ _ rfl) rfl) ?_
  refine AList.p rfl (pure_assign (.tmp _ _ rfl)) ?_
  refine AList.p rfl (pure_assign (.tmp _ _ rfl)) ?_
  refine AList.nil ?_
  refine Next.go ?_
  refine AWP.seq ?_
  -- region 6
  refine AWP.region ?_
  refine AList.p rfl (pure_move (.tmp _ _ rfl)) ?_
  first | (refine AList.p rfl (pure_lenL Tryz.underlying40 (.tmp _ _ rfl)) ?_) | (refine AList.p rfl (pure_lenS Tryz.underlying40 (.tmp _ _ rfl)) ?_) | (refine AList.p rfl (pure_lenM Tryz.underlying40 (.tmp _ _ rfl)) ?_)
  refine AList.p rfl (pure_move (.tmp _ _ rfl)) ?_
  refine AList.p rfl (pure_lss (.tmp _ _ rfl) (.tmp _ _ rfl)) ?_
  refine AList.p rfl (pure_move (.tmp _ _ rfl)) ?_
  -- the guard in slot 33
  refine bool_casesL (t := 33) rfl (fun hg33 => ?_) (fun hg33 => ?_)
  · have hh33 := hg33; try simp only [decide_eq_true_eq] at hh33
    refine AList.gn rfl rfl rfl (by first | rfl | assumption) ?_
    refine AList.gn rfl rfl rfl (by first | rfl | assumption) ?_
    refine AList.gn rfl rfl rfl (by first | rfl | assumption) ?_
    refine AList.gn rfl rfl rfl (by first | rfl | assumption) ?_
    refine AList.p rfl (pure_pickT (.tmp _ _ rfl) (by first | rfl | assumption) ev_bool) ?_
    refine AList.nil ?_
    refine Next.go ?_
    -- c1
    refine AWP.cond_true (.tmp _ _ rfl) (by first | rfl | assumption) ?_
    refine AWP.seq ?_
    -- region 7
    refine AWP.region ?_
    refine AList.s rfl (step_call0 Tryz.call24 (.cons ev_int .nil) (vFail_calls _ _)) ?_
    rintro _ _ ⟨rfl, hH⟩
    obtain rfl := hH.symm
    refine AList.s0 (step_store Tryz.sizeOf24 (.tmp _ _ rfl) (.tmp _ _ rfl) rfl rfl (.inr ⟨_, rfl⟩) (by first | assumption | exact (by assumption : Heap.le _ _).objs _ _ (by assumption) | exact Heap.objs_set_same _ _ _ | exact (Heap.objs_set_ne _ _ (by assumption)).trans (Heap.objs_set_same _ _ _) | exact (Heap.objs_set_ne _ _ (by assumption)).trans ((Heap.objs_set_ne _ _ (by assumption)).trans (Heap.objs_set_same _ _ _)) | exact (Heap.objs_set_ne _ _ (by assumption)).trans (by assumption)) (Nat.le_of_ble_eq_true rfl)) ?_
    rintro _ _ ⟨rfl, hH⟩
    obtain rfl := hH.symm
    try first | rw [Heap.set_set] | rw [Heap.set_under (by assumption)]
    refine AList.nil ?_
    refine Next.go ?_
    refine AWP.frz (t := 6) rfl (by first | exact hb6 | exact Heap.fresh_set hb6 _) ?_
    refine AWP.ret ?_
    refine Next.rt ?_
    -- ret 0
    refine Ret.go (.cons (.cellI _ _ _ _ rfl Tryz.isAgg24 Tryz.sizeOf24 rfl) .nil) _ (Heap.le.refl _) ?_
    first | (exfalso; omega) | exact absurd trivial hc51 | (refine ⟨?_, rfl⟩; first | (rw [if_pos hc51]; rfl) | (rw [if_pos rfl]; rfl) | (rw [if_neg hc51]; rfl))
  · have hh33 := hg33; try simp only [decide_eq_false_iff_not, Int.not_lt] at hh33
    refine AList.gp rfl rfl rfl (by first | rfl | assumption) (pure_move (.tmp _ _ rfl)) ?_
    first | (refine AList.gp rfl rfl rfl (by first | rfl | assumption) (pure_lenL Tryz.underlying40 (.tmp _ _ rfl)) ?_) | (refine AList.gp rfl rfl rfl (by first | rfl | assumption) (pure_lenS Tryz.underlying40 (.tmp _ _ rfl)) ?_) | (refine AList.gp rfl rfl rfl (by first | rfl | assumption) (pure_lenM Tryz.underlying40 (.tmp _ _ rfl)) ?_)
    refine AList.gp rfl rfl rfl (by first | rfl | assumption) (pure_move (.tmp _ _ rfl)) ?_
    refine AList.gp rfl rfl rfl (by first | rfl | assumption) (pure_gtr (.tmp _ _ rfl) (.tmp _ _ rfl)) ?_
    refine AList.p rfl (pure_pickF (.tmp _ _ rfl) (by first | rfl | assumption) (.tmp _ _ rfl)) ?_
    refine AList.nil ?_
    refine Next.go ?_
    -- c1
    refine AWP.cond (.tmp _ _ rfl) (fun hc38 => ?_) (fun hc38 => ?_)
    · try simp only [decide_eq_true_eq] at hc38
      omega
    · try simp only [decide_eq_false_iff_not, Int.not_lt] at hc38
      refine AWP.skip ?_
      refine Next.go ?_
      refine AWP.seq ?_
      -- region 8
      refine AWP.region ?_
      refine AList.p rfl (pure_move (.tmp _ _ rfl)) ?_
      refine AList.p rfl (pure_move (.tmp _ _ rfl)) ?_
      refine AList.p rfl (pure_build [(0, 1), (1, 1), (2, 1)] Tryz.underlying79 Tryz.zeroValue79 (zr79) rfl (pl79 _ Tryz.underlying79) (.cons (.tmp _ _ rfl) (.inl rfl) (.cons (.tmp _ _ rfl) (.inl rfl) (.cons ev_int (.inl rfl) .nil))) rfl) ?_
      refine AList.s rfl (step_box (.tmp _ _ rfl) (.inr ⟨_, rfl⟩)) ?_
      rintro _ _ ⟨b43, hb43, rfl, hH⟩
      obtain rfl := hH.symm
      have hn6_43 := Heap.ne_of (by first | assumption | exact (by assumption : Heap.le _ _).objs _ _ (by assumption) | exact Heap.objs_set_same _ _ _ | exact (Heap.objs_set_ne _ _ (by assumption)).trans (Heap.objs_set_same _ _ _) | exact (Heap.objs_set_ne _ _ (by assumption)).trans ((Heap.objs_set_ne _ _ (by assumption)).trans (Heap.objs_set_same _ _ _)) | exact (Heap.objs_set_ne _ _ (by assumption)).trans (by assumption)) hb43
      refine AList.p rfl (pure_assign (.tmp _ _ rfl)) ?_
      refine AList.nil ?_
      refine Next.go ?_
      refine AWP.seq ?_
      -- region 9
      refine AWP.region ?_
      refine AList.p rfl (pure_move (.tmp _ _ rfl)) ?_
      refine AList.p rfl (pure_move (.tmp _ _ rfl)) ?_
      refine AList.s rfl (step_call0 Tryz.call34 (.cons (.tmp _ _ rfl) (.cons (.tmp _ _ rfl) .nil)) (doesIF_calls _ q po pr l tl 0 hn hv ht _ (Heap.objs_set_same _ _ _))) ?_
      rintro _ _ ⟨rfl, rfl⟩
      rw [Heap.set_set]
      refine AList.s rfl (step_alloc Tryz.zeroValue24 (zr24)) ?_
      rintro _ _ ⟨b13, hb13, rfl, hH⟩
      obtain rfl := hH.symm
      have hn6_13 := Heap.ne_of (by first | assumption | exact (by assumption : Heap.le _ _).objs _ _ (by assumption) | exact Heap.objs_set_same _ _ _ | exact (Heap.objs_set_ne _ _ (by assumption)).trans (Heap.objs_set_same _ _ _) | exact (Heap.objs_set_ne _ _ (by assumption)).trans ((Heap.objs_set_ne _ _ (by assumption)).trans (Heap.objs_set_same _ _ _)) | exact (Heap.objs_set_ne _ _ (by assumption)).trans (by assumption)) hb13
      have hn43_13 := Heap.ne_of (by first | assumption | exact (by assumption : Heap.le _ _).objs _ _ (by assumption) | exact Heap.objs_set_same _ _ _ | exact (Heap.objs_set_ne _ _ (by assumption)).trans (Heap.objs_set_same _ _ _) | exact (Heap.objs_set_ne _ _ (by assumption)).trans ((Heap.objs_set_ne _ _ (by assumption)).trans (Heap.objs_set_same _ _ _)) | exact (Heap.objs_set_ne _ _ (by assumption)).trans (by assumption)) hb13
      refine AList.s0 (step_store Tryz.sizeOf24 (.tmp _ _ rfl) (.tmp _ _ rfl) rfl rfl (.inr ⟨_, rfl⟩) (by first | assumption | exact (by assumption : Heap.le _ _).objs _ _ (by assumption) | exact Heap.objs_set_same _ _ _ | exact (Heap.objs_set_ne _ _ (by assumption)).trans (Heap.objs_set_same _ _ _) | exact (Heap.objs_set_ne _ _ (by assumption)).trans ((Heap.objs_set_ne _ _ (by assumption)).trans (Heap.objs_set_same _ _ _)) | exact (Heap.objs_set_ne _ _ (by assumption)).trans (by assumption)) (Nat.le_of_ble_eq_true rfl)) ?_
      rintro _ _ ⟨rfl, hH⟩
      obtain rfl := hH.symm
      try first | rw [Heap.set_set] | rw [Heap.set_under (by assumption)]
      refine AList.nil ?_
      refine Next.go ?_
      refine AWP.frz (t := 13) rfl (by first | exact hb13 | exact Heap.fresh_set hb13 _) ?_
      refine AWP.seq ?_
      refine AWP.seq ?_
      -- region 10
      refine AWP.region ?_
      refine AList.p rfl (pure_move (.tmp _ _ rfl)) ?_
      first | (refine AList.p rfl (pure_nilCheckI (.tmp _ _ rfl)) ?_) | (refine AList.p rfl (pure_nilCheck (.tmp _ _ rfl)) ?_) | (refine AList.p rfl (pure_nilCheckF (.tmp _ _ rfl)) ?_)
      first | (refine AList.p rfl (pure_fieldI Tryz.underlying79 rfl Tryz.sizeOf3 (.tmp _ _ rfl)) ?_) | (refine AList.p rfl (pure_field Tryz.underlying79 rfl Tryz.sizeOf3 (.tmp _ _ rfl)) ?_)
      first | (refine AList.p rfl (pure_load1 Tryz.isAgg3 (.tmp _ _ rfl)) ?_) | (refine AList.s rfl (step_load1 Tryz.isAgg3 (.tmp _ _ rfl) (by first | assumption | exact (by assumption : Heap.le _ _).objs _ _ (by assumption) | exact Heap.objs_set_same _ _ _ | exact (Heap.objs_set_ne _ _ (by assumption)).trans (Heap.objs_set_same _ _ _) | exact (Heap.objs_set_ne _ _ (by assumption)).trans ((Heap.objs_set_ne _ _ (by assumption)).trans (Heap.objs_set_same _ _ _)) | exact (Heap.objs_set_ne _ _ (by assumption)).trans (by assumption)) rfl) ?_; rintro _ _ ⟨rfl, hH⟩; obtain rfl := hH.symm)
      refine AList.p rfl (pure_neq (.tmp _ _ rfl) ev_int) ?_
      refine AList.nil ?_
      refine Next.go ?_
      -- c2
      refine AWP.cond (.tmp _ _ rfl) (fun hc51 => ?_) (fun hc51 => ?_)
      · try simp only [decide_eq_true_eq, ne_eq] at hc51
        refine AWP.seq ?_
        -- region 11
        refine AWP.region ?_
        refine AList.p rfl (pure_move (.tmp _ _ rfl)) ?_
        first | (refine AList.p rfl (pure_nilCheckI (.tmp _ _ rfl)) ?_) | (refine AList.p rfl (pure_nilCheck (.tmp _ _ rfl)) ?_) | (refine AList.p rfl (pure_nilCheckF (.tmp _ _ rfl)) ?_)
        first | (refine AList.p rfl (pure_fieldI Tryz.underlying79 rfl Tryz.sizeOf3 (.tmp _ _ rfl)) ?_) | (refine AList.p rfl (pure_field Tryz.underlying79 rfl Tryz.sizeOf3 (.tmp _ _ rfl)) ?_)
        first | (refine AList.p rfl (pure_load1 Tryz.isAgg3 (.tmp _ _ rfl)) ?_) | (refine AList.s rfl (step_load1 Tryz.isAgg3 (.tmp _ _ rfl) (by first | assumption | exact (by assumption : Heap.le _ _).objs _ _ (by assumption) | exact Heap.objs_set_same _ _ _ | exact (Heap.objs_set_ne _ _ (by assumption)).trans (Heap.objs_set_same _ _ _) | exact (Heap.objs_set_ne _ _ (by assumption)).trans ((Heap.objs_set_ne _ _ (by assumption)).trans (Heap.objs_set_same _ _ _)) | exact (Heap.objs_set_ne _ _ (by assumption)).trans (by assumption)) rfl) ?_; rintro _ _ ⟨rfl, hH⟩; obtain rfl := hH.symm)
        refine AList.s rfl (step_call0 Tryz.call24 (.cons (.tmp _ _ rfl) .nil) (vFail_calls _ _)) ?_
        rintro _ _ ⟨rfl, hH⟩
        obtain rfl := hH.symm
        refine AList.s0 (step_store Tryz.sizeOf24 (.tmp _ _ rfl) (.tmp _ _ rfl) rfl rfl (.inr ⟨_, rfl⟩) (by first | assumption | exact (by assumption : Heap.le _ _).objs _ _ (by assumption) | exact Heap.objs_set_same _ _ _ | exact (Heap.objs_set_ne _ _ (by assumption)).trans (Heap.objs_set_same _ _ _) | exact (Heap.objs_set_ne _ _ (by assumption)).trans ((Heap.objs_set_ne _ _ (by assumption)).trans (Heap.objs_set_same _ _ _)) | exact (Heap.objs_set_ne _ _ (by assumption)).trans (by assumption)) (Nat.le_of_ble_eq_true rfl)) ?_
        rintro _ _ ⟨rfl, hH⟩
        obtain rfl := hH.symm
        try first | rw [Heap.set_set] | rw [Heap.set_under (by assumption)]
        refine AList.nil ?_
        refine Next.go ?_
        refine AWP.dropb (by first | exact hb43 | exact Heap.fresh_set hb43 _) ?_
        refine AWP.frz (t := 6) rfl (by first | exact hb6 | exact Heap.fresh_set hb6 _) ?_
        refine AWP.ret ?_
        refine Next.rt ?_
        -- ret 1
        refine Ret.go (.cons (.cellI _ _ _ _ rfl Tryz.isAgg24 Tryz.sizeOf24 rfl) .nil) _ (Heap.le.refl _) ?_
        first | (exfalso; omega) | exact absurd trivial hc51 | (refine ⟨?_, rfl⟩; first | (rw [if_pos hc51]; rfl) | (rw [if_pos rfl]; rfl) | (rw [if_neg hc51]; rfl))
      · try simp only [decide_eq_false_iff_not, ne_eq, Decidable.not_not] at hc51
        refine AWP.skip ?_
        refine Next.go ?_
        refine AWP.seq ?_
        -- region 12
        refine AWP.region ?_
        first | (refine AList.p rfl (pure_loadN Tryz.isAgg24 Tryz.sizeOf24 (.tmp _ _ rfl) (Nat.le_of_ble_eq_true rfl)) ?_) | (refine AList.s rfl (step_loadN Tryz.isAgg24 Tryz.sizeOf24 (.tmp _ _ rfl) (by first | assumption | exact (by assumption : Heap.le _ _).objs _ _ (by assumption) | exact Heap.objs_set_same _ _ _ | exact (Heap.objs_set_ne _ _ (by assumption)).trans (Heap.objs_set_same _ _ _) | exact (Heap.objs_set_ne _ _ (by assumption)).trans ((Heap.objs_set_ne _ _ (by assumption)).trans (Heap.objs_set_same _ _ _)) | exact (Heap.objs_set_ne _ _ (by assumption)).trans (by assumption)) (Nat.le_of_ble_eq_true rfl)) ?_; rintro _ _ ⟨rfl, hH⟩; obtain rfl := hH.symm)
        refine AList.s0 (step_store Tryz.sizeOf24 (.tmp _ _ rfl) (.tmp _ _ rfl) rfl rfl (.inr ⟨_, rfl⟩) (by first | assumption | exact (by assumption : Heap.le _ _).objs _ _ (by assumption) | exact Heap.objs_set_same _ _ _ | exact (Heap.objs_set_ne _ _ (by assumption)).trans (Heap.objs_set_same _ _ _) | exact (Heap.objs_set_ne _ _ (by assumption)).trans ((Heap.objs_set_ne _ _ (by assumption)).trans (Heap.objs_set_same _ _ _)) | exact (Heap.objs_set_ne _ _ (by assumption)).trans (by assumption)) (Nat.le_of_ble_eq_true rfl)) ?_
        rintro _ _ ⟨rfl, hH⟩
        obtain rfl := hH.symm
        try first | rw [Heap.set_set] | rw [Heap.set_under (by assumption)]
        refine AList.nil ?_
        refine Next.go ?_
        refine AWP.dropb (by first | exact hb43 | exact Heap.fresh_set hb43 _) ?_
        refine AWP.frz (t := 6) rfl (by first | exact hb6 | exact Heap.fresh_set hb6 _) ?_
        refine AWP.ret ?_
        -- ret 2
        refine Ret.go (.cons (.cellI _ _ _ _ rfl Tryz.isAgg24 Tryz.sizeOf24 rfl) .nil) _ (Heap.le.refl _) ?_
        first | (exfalso; omega) | exact absurd trivial hc51 | (refine ⟨?_, rfl⟩; first | (rw [if_pos hc51]; rfl) | (rw [if_pos rfl]; rfl) | (rw [if_neg hc51]; rfl))

set_option maxRecDepth 100000 in
theorem doesIFERROR_calls (b : Nat) (q : FLoc) (po pr : AV) (l : List ArgN) (tl : Tail) (f : Int) (hn : l.length = 2)  (H : Heap) (hb : H.objs b = some (callB (callerA q po pr) l tl f)) : ACall Tryz.prog 34 [.ptr (some ⟨b, 0, none⟩), .str [73, 70, 69, 82, 82, 79, 82]] H (fun y H' => y = (if (scalarV l[0]).kind = 4 then scalarV l[1] else scalarV l[0]).av ∧ H' = H.set b (callB (callerA q po pr) l tl (f))) := by
  refine ACall.of_body Tryz.func34 rfl Tryz.ntmps34 Tryz.results34 rfl ?_
  refine AWP.seq ?_
  -- region 0
  refine AWP.region ?_
  refine AList.s rfl (step_alloc Tryz.zeroValue24 (zr24)) ?_
  rintro _ _ ⟨b4, hb4, rfl, hH⟩
  obtain rfl := hH.symm
  refine AList.nil ?_
  refine Next.go ?_
  refine AWP.seq ?_
  refine AWP.seq ?_
  have hne4 : b ≠ b4 := by rintro rfl; rw [hb] at hb4; cases hb4
  have hne4x := hne4.symm
  -- region 1
  refine AWP.region ?_
  refine AList.p rfl (pure_move (.tmp _ _ rfl)) ?_
  refine AList.nil ?_
  refine Next.go ?_
  refine AWP.block ?_
  refine AWP.seq ?_
  refine AWP.seq ?_
  -- region 2
  refine AWP.region ?_
  refine AList.p rfl (pure_eqlStr (.tmp _ _ rfl) (ev_str rfl)) ?_
  refine AList.p rfl (pure_assign (.tmp _ _ rfl)) ?_
  refine AList.nil ?_
  refine Next.go ?_
  -- c0
  refine AWP.cond_false (.tmp _ _ rfl) (by rfl) ?_
  refine AWP.seq ?_
  -- region 3
  refine AWP.region ?_
  refine AList.p rfl (pure_eqlStr (.tmp _ _ rfl) (ev_str rfl)) ?_
  refine AList.p rfl (pure_assign (.tmp _ _ rfl)) ?_
  refine AList.nil ?_
  refine Next.go ?_
  -- c1
  refine AWP.cond_false (.tmp _ _ rfl) (by rfl) ?_
  refine AWP.seq ?_
  -- region 4
  refine AWP.region ?_
  refine AList.p rfl (pure_eqlStr (.tmp _ _ rfl) (ev_str rfl)) ?_
  refine AList.p rfl (pure_assign (.tmp _ _ rfl)) ?_
  refine AList.nil ?_
  refine Next.go ?_
  -- c2
  refine AWP.cond_false (.tmp _ _ rfl) (by rfl) ?_
  refine AWP.seq ?_
  -- region 5
  refine AWP.region ?_
  refine AList.p rfl (pure_eqlStr (.tmp _ _ rfl) (ev_str rfl)) ?_
  refine AList.p rfl (pure_assign (.tmp _ _ rfl)) ?_
  refine AList.nil ?_
  refine Next.go ?_
  -- c3
  refine AWP.cond_false (.tmp _ _ rfl) (by rfl) ?_
  refine AWP.seq ?_
  -- region 6
  refine AWP.region ?_
  refine AList.p rfl (pure_eqlStr (.tmp _ _ rfl) (ev_str rfl)) ?_
  refine AList.p rfl (pure_assign (.tmp _ _ rfl)) ?_
  refine AList.nil ?_
  refine Next.go ?_
  -- c4
  refine AWP.cond_false (.tmp _ _ rfl) (by rfl) ?_
  refine AWP.seq ?_
  -- region 7
  refine AWP.region ?_
  refine AList.p rfl (pure_eqlStr (.tmp _ _ rfl) (ev_str rfl)) ?_
  refine AList.p rfl (pure_assign (.tmp _ _ rfl)) ?_
  refine AList.nil ?_
  refine Next.go ?_
  -- c5
  refine AWP.cond_false (.tmp _ _ rfl) (by rfl) ?_
  -- region 8
  refine AWP.region ?_
  refine AList.p rfl (pure_eqlStr (.tmp _ _ rfl) (ev_str rfl)) ?_
  refine AList.p rfl (pure_assign (.tmp _ _ rfl)) ?_
  refine AList.nil ?_
  refine Next.go ?_
  -- c6
  refine AWP.cond_false (.tmp _ _ rfl) (by rfl) ?_
  refine AWP.seq ?_
  refine AWP.seq ?_
  -- region 10
  refine AWP.region ?_
  refine AList.p rfl (pure_eqlStr (.tmp _ _ rfl) (ev_str rfl)) ?_
  refine AList.p rfl (pure_assign (.tmp _ _ rfl)) ?_
  refine AList.nil ?_
  refine Next.go ?_
  -- c7
  refine AWP.cond_false (.tmp _ _ rfl) (by rfl) ?_
  -- region 11
  refine AWP.region ?_
  refine AList.p rfl (pure_eqlStr (.tmp _ _ rfl) (ev_str rfl)) ?_
  refine AList.p rfl (pure_assign (.tmp _ _ rfl)) ?_
  refine AList.nil ?_
  refine Next.go ?_
  -- c8
  refine AWP.cond_false (.tmp _ _ rfl) (by rfl) ?_
  refine AWP.seq ?_
  refine AWP.seq ?_
  -- region 13
  refine AWP.region ?_
  refine AList.p rfl (pure_eqlStr (.tmp _ _ rfl) (ev_str rfl)) ?_
  refine AList.p rfl (pure_assign (.tmp _ _ rfl)) ?_
  refine AList.nil ?_
  refine Next.go ?_
  -- c9
  refine AWP.cond_false (.tmp _ _ rfl) (by rfl) ?_
  -- region 14
  refine AWP.region ?_
  refine AList.p rfl (pure_eqlStr (.tmp _ _ rfl) (ev_str rfl)) ?_
  refine AList.p rfl (pure_assign (.tmp _ _ rfl)) ?_
  refine AList.nil ?_
  refine Next.go ?_
  -- c10
  refine AWP.cond_false (.tmp _ _ rfl) (by rfl) ?_
  refine AWP.seq ?_
  refine AWP.seq ?_
  -- region 16
  refine AWP.region ?_
  refine AList.p rfl (pure_eqlStr (.tmp _ _ rfl) (ev_str rfl)) ?_
  refine AList.p rfl (pure_assign (.tmp _ _ rfl)) ?_
  refine AList.nil ?_
  refine Next.go ?_
  -- c11
  refine AWP.cond_false (.tmp _ _ rfl) (by rfl) ?_
  refine AWP.seq ?_
  -- region 17
  refine AWP.region ?_
  refine AList.p rfl (pure_eqlStr (.tmp _ _ rfl) (ev_str rfl)) ?_
  refine AList.p rfl (pure_assign (.tmp _ _ rfl)) ?_
  refine AList.nil ?_
  refine Next.go ?_
  -- c12
  refine AWP.cond_false (.tmp _ _ rfl) (by rfl) ?_
  -- region 18
  refine AWP.region ?_
  refine AList.p rfl (pure_eqlStr (.tmp _ _ rfl) (ev_str rfl)) ?_
  refine AList.p rfl (pure_assign (.tmp _ _ rfl)) ?_
  refine AList.nil ?_
  refine Next.go ?_
  -- c13
  refine AWP.cond_false (.tmp _ _ rfl) (by rfl) ?_
  refine AWP.seq ?_
  refine AWP.seq ?_
  -- region 20
  refine AWP.region ?_
  refine AList.p rfl (pure_eqlStr (.tmp _ _ rfl) (ev_str rfl)) ?_
  refine AList.p rfl (pure_assign (.tmp _ _ rfl)) ?_
  refine AList.nil ?_
  refine Next.go ?_
  -- c14
  refine AWP.cond_false (.tmp _ _ rfl) (by rfl) ?_
  refine AWP.seq ?_
  -- region 21
  refine AWP.region ?_
  refine AList.p rfl (pure_eqlStr (.tmp _ _ rfl) (ev_str rfl)) ?_
  refine AList.p rfl (pure_assign (.tmp _ _ rfl)) ?_
  refine AList.nil ?_
  refine Next.go ?_
  -- c15
  refine AWP.cond_false (.tmp _ _ rfl) (by rfl) ?_
  refine AWP.seq ?_
  -- region 22
  refine AWP.region ?_
  refine AList.p rfl (pure_eqlStr (.tmp _ _ rfl) (ev_str rfl)) ?_
  refine AList.p rfl (pure_assign (.tmp _ _ rfl)) ?_
  refine AList.nil ?_
  refine Next.go ?_
  -- c16
  refine AWP.cond_false (.tmp _ _ rfl) (by rfl) ?_
  refine AWP.seq ?_
  -- region 23
  refine AWP.region ?_
  refine AList.p rfl (pure_eqlStr (.tmp _ _ rfl) (ev_str rfl)) ?_
  refine AList.p rfl (pure_assign (.tmp _ _ rfl)) ?_
  refine AList.nil ?_
  refine Next.go ?_
  -- c17
  refine AWP.cond_false (.tmp _ _ rfl) (by rfl) ?_
  refine AWP.seq ?_
  -- region 24
  refine AWP.region ?_
  refine AList.p rfl (pure_eqlStr (.tmp _ _ rfl) (ev_str rfl)) ?_
  refine AList.p rfl (pure_assign (.tmp _ _ rfl)) ?_
  refine AList.nil ?_
  refine Next.go ?_
  -- c18
  refine AWP.cond_false (.tmp _ _ rfl) (by rfl) ?_
  -- region 25
  refine AWP.region ?_
  refine AList.p rfl (pure_eqlStr (.tmp _ _ rfl) (ev_str rfl)) ?_
  refine AList.p rfl (pure_assign (.tmp _ _ rfl)) ?_
  refine AList.nil ?_
  refine Next.go ?_
  -- c19
  refine AWP.cond_false (.tmp _ _ rfl) (by rfl) ?_
  refine AWP.seq ?_
  refine AWP.seq ?_
  -- region 27
  refine AWP.region ?_
  refine AList.p rfl (pure_eqlStr (.tmp _ _ rfl) (ev_str rfl)) ?_
  refine AList.p rfl (pure_assign (.tmp _ _ rfl)) ?_
  refine AList.nil ?_
  refine Next.go ?_
  -- c20
  refine AWP.cond_false (.tmp _ _ rfl) (by rfl) ?_
  -- region 28
  refine AWP.region ?_
  refine AList.p rfl (pure_eqlStr (.tmp _ _ rfl) (ev_str rfl)) ?_
  refine AList.p rfl (pure_assign (.tmp _ _ rfl)) ?_
  refine AList.nil ?_
  refine Next.go ?_
  -- c21
  refine AWP.cond_false (.tmp _ _ rfl) (by rfl) ?_
  refine AWP.seq ?_
  -- region 30
  refine AWP.region ?_
  refine AList.p rfl (pure_eqlStr (.tmp _ _ rfl) (ev_str rfl)) ?_
  refine AList.p rfl (pure_assign (.tmp _ _ rfl)) ?_
  refine AList.nil ?_
  refine Next.go ?_
  -- c22
  refine AWP.cond_false (.tmp _ _ rfl) (by rfl) ?_
  refine AWP.seq ?_
  -- region 32
  refine AWP.region ?_
  refine AList.p rfl (pure_eqlStr (.tmp _ _ rfl) (ev_str rfl)) ?_
  refine AList.p rfl (pure_assign (.tmp _ _ rfl)) ?_
  refine AList.nil ?_
  refine Next.go ?_
  -- c23
  refine AWP.cond_false (.tmp _ _ rfl) (by rfl) ?_
  refine AWP.seq ?_
  refine AWP.seq ?_
  -- region 34
  refine AWP.region ?_
  refine AList.p rfl (pure_eqlStr (.tmp _ _ rfl) (ev_str rfl)) ?_
  refine AList.p rfl (pure_assign (.tmp _ _ rfl)) ?_
  refine AList.nil ?_
  refine Next.go ?_
  -- c24
  refine AWP.cond_false (.tmp _ _ rfl) (by rfl) ?_
  refine AWP.seq ?_
  -- region 35
  refine AWP.region ?_
  refine AList.p rfl (pure_eqlStr (.tmp _ _ rfl) (ev_str rfl)) ?_
  refine AList.p rfl (pure_assign (.tmp _ _ rfl)) ?_
  refine AList.nil ?_
  refine Next.go ?_
  -- c25
  refine AWP.cond_false (.tmp _ _ rfl) (by rfl) ?_
  refine AWP.seq ?_
  -- region 36
  refine AWP.region ?_
  refine AList.p rfl (pure_eqlStr (.tmp _ _ rfl) (ev_str rfl)) ?_
  refine AList.p rfl (pure_assign (.tmp _ _ rfl)) ?_
  refine AList.nil ?_
  refine Next.go ?_
  -- c26
  refine AWP.cond_false (.tmp _ _ rfl) (by rfl) ?_
  refine AWP.seq ?_
  -- region 37
  refine AWP.region ?_
  refine AList.p rfl (pure_eqlStr (.tmp _ _ rfl) (ev_str rfl)) ?_
  refine AList.p rfl (pure_assign (.tmp _ _ rfl)) ?_
  refine AList.nil ?_
  refine Next.go ?_
  -- c27
  refine AWP.cond_false (.tmp _ _ rfl) (by rfl) ?_
  -- region 38
  refine AWP.region ?_
  refine AList.p rfl (pure_eqlStr (.tmp _ _ rfl) (ev_str rfl)) ?_
  refine AList.p rfl (pure_assign (.tmp _ _ rfl)) ?_
  refine AList.nil ?_
  refine Next.go ?_
  -- c28
  refine AWP.cond_false (.tmp _ _ rfl) (by rfl) ?_
  refine AWP.seq ?_
  -- region 40
  refine AWP.region ?_
  refine AList.p rfl (pure_eqlStr (.tmp _ _ rfl) (ev_str rfl)) ?_
  refine AList.p rfl (pure_assign (.tmp _ _ rfl)) ?_
  refine AList.nil ?_
  refine Next.go ?_
  -- c29
  refine AWP.cond_false (.tmp _ _ rfl) (by rfl) ?_
  refine AWP.seq ?_
  refine AWP.seq ?_
  -- region 42
  refine AWP.region ?_
  refine AList.p rfl (pure_eqlStr (.tmp _ _ rfl) (ev_str rfl)) ?_
  refine AList.p rfl (pure_assign (.tmp _ _ rfl)) ?_
  refine AList.nil ?_
  refine Next.go ?_
  -- c30
  refine AWP.cond_false (.tmp _ _ rfl) (by rfl) ?_
  refine AWP.seq ?_
  -- region 43
  refine AWP.region ?_
  refine AList.p rfl (pure_eqlStr (.tmp _ _ rfl) (ev_str rfl)) ?_
  refine AList.p rfl (pure_assign (.tmp _ _ rfl)) ?_
  refine AList.nil ?_
  refine Next.go ?_
  -- c31
  refine AWP.cond_false (.tmp _ _ rfl) (by rfl) ?_
  -- region 44
  refine AWP.region ?_
  refine AList.p rfl (pure_eqlStr (.tmp _ _ rfl) (ev_str rfl)) ?_
  refine AList.p rfl (pure_assign (.tmp _ _ rfl)) ?_
  refine AList.nil ?_
  refine Next.go ?_
  -- c32
  refine AWP.cond_false (.tmp _ _ rfl) (by rfl) ?_
  refine AWP.seq ?_
  -- region 46
  refine AWP.region ?_
  refine AList.p rfl (pure_eqlStr (.tmp _ _ rfl) (ev_str rfl)) ?_
  refine AList.p rfl (pure_assign (.tmp _ _ rfl)) ?_
  refine AList.nil ?_
  refine Next.go ?_
  -- c33
  refine AWP.cond_false (.tmp _ _ rfl) (by rfl) ?_
  refine AWP.seq ?_
  refine AWP.seq ?_
  -- region 48
  refine AWP.region ?_
  refine AList.p rfl (pure_eqlStr (.tmp _ _ rfl) (ev_str rfl)) ?_
  refine AList.p rfl (pure_assign (.tmp _ _ rfl)) ?_
  refine AList.nil ?_
  refine Next.go ?_
  -- c34
  refine AWP.cond_false (.tmp _ _ rfl) (by rfl) ?_
  -- region 49
  refine AWP.region ?_
  refine AList.p rfl (pure_eqlStr (.tmp _ _ rfl) (ev_str rfl)) ?_
  refine AList.p rfl (pure_assign (.tmp _ _ rfl)) ?_
  refine AList.nil ?_
  refine Next.go ?_
  -- c35
  refine AWP.cond_false (.tmp _ _ rfl) (by rfl) ?_
  refine AWP.seq ?_
  -- region 51
  refine AWP.region ?_
  refine AList.p rfl (pure_eqlStr (.tmp _ _ rfl) (ev_str rfl)) ?_
  refine AList.p rfl (pure_assign (.tmp _ _ rfl)) ?_
  refine AList.nil ?_
  refine Next.go ?_
  -- c36
  refine AWP.cond_false (.tmp _ _ rfl) (by rfl) ?_
  refine AWP.skip ?_
  refine Block.go ?_
  refine Next.go ?_
  refine AWP.seq ?_
  -- region 53
  refine AWP.region ?_
  refine AList.p rfl (pure_move (.tmp _ _ rfl)) ?_
  refine AList.p rfl (pure_move (.tmp _ _ rfl)) ?_
  refine AList.s rfl (step_call0 Tryz.call54 (.cons (.tmp _ _ rfl) (.cons (.tmp _ _ rfl) .nil)) (otherIFERROR_calls b q po pr l tl _ hn _ (by first | assumption | exact (Heap.objs_set_ne _ _ (by assumption)).trans hb | exact Heap.objs_set_same _ _ _ | exact (Heap.objs_set_ne _ _ (by assumption)).trans (Heap.objs_set_same _ _ _)))) ?_
  rintro _ _ ⟨rfl, rfl⟩
  rw [Heap.set_comm hne4x]
  replace hb4 := fresh_outF (y := callB (callerA q po pr) l tl (f)) hb4 hne4x
  refine AList.s0 (step_store Tryz.sizeOf24 (.tmp _ _ rfl) (.tmp _ _ rfl) rfl rfl (.inr ⟨_, rfl⟩) (by first | exact (Heap.objs_set_ne _ _ (by assumption)).trans hb | assumption | exact (by assumption : Heap.le _ _).objs _ _ (by assumption) | exact Heap.objs_set_same _ _ _ | exact (Heap.objs_set_ne _ _ (by assumption)).trans (Heap.objs_set_same _ _ _) | exact (Heap.objs_set_ne _ _ (by assumption)).trans ((Heap.objs_set_ne _ _ (by assumption)).trans (Heap.objs_set_same _ _ _)) | exact (Heap.objs_set_ne _ _ (by assumption)).trans (by assumption)) (Nat.le_of_ble_eq_true rfl)) ?_
  rintro _ _ ⟨rfl, hH⟩
  obtain rfl := hH.symm
  try first | rw [Heap.set_set] | rw [Heap.set_under (by assumption)]
  refine AList.nil ?_
  refine Next.go ?_
  refine AWP.frz (t := 4) rfl (by first | exact hb4 | exact Heap.fresh_set hb4 _) ?_
  refine AWP.ret ?_
  -- ret 0
  refine Ret.go (.cons (.cellI _ _ _ _ rfl Tryz.isAgg24 Tryz.sizeOf24 rfl) .nil) _ (Heap.le.refl _) ?_
  exact ⟨rfl, rfl⟩

set_option maxRecDepth 100000 in
theorem hasIFERROR : bsHas nameL [73, 70, 69, 82, 82, 79, 82] = true := by kernel_rfl
set_option maxRecDepth 100000 in
theorem takesIFERROR (H : Heap) : ACall Tryz.prog 33 [.str [73, 70, 69, 82, 82, 79, 82]] H (fun y H' => y = .tuple [.int .i64 2, .int .i64 2] ∧ H' = H) := closed_two (k := 20) Tryz.func33 rfl (by kernel_rfl) H

set_option maxRecDepth 100000 in
theorem CallIFERROR_calls (q : FLoc) (po pr : AV) (l : List ArgN) (tl : Tail) (hn : l.length = 2)  (H : Heap) : ACall Tryz.prog 19 [callerA q po pr, .str [73, 70, 69, 82, 82, 79, 82], argsS l tl] H (fun y H' => y = (if 0 = 0 then if (scalarV l[0]).kind = 4 then scalarV l[1] else scalarV l[0] else FailV (0)).av ∧ H' = H) := by
  refine ACall.of_body Tryz.func19 rfl Tryz.ntmps19 Tryz.results19 rfl ?_
  refine AWP.seq ?_
  -- region 0
  refine AWP.region ?_
  refine AList.s rfl (step_alloc Tryz.zeroValue24 (zr24)) ?_
  rintro _ _ ⟨b6, hb6, rfl, hH⟩
  obtain rfl := hH.symm
  refine AList.nil ?_
  refine Next.go ?_
  refine AWP.seq ?_
  -- region 1
  refine AWP.region ?_
  refine AList.s rfl (step_loadKN Tryz.isAgg72 Tryz.sizeOf72 (.global _) rfl (by decide) inv_fnames) ?_
  rintro _ _ ⟨rfl, hH⟩
  obtain rfl := hH.symm
  refine AList.s rfl (step_alloc Tryz.zeroValue72 (zr72)) ?_
  rintro _ _ ⟨b7, hb7, rfl, hH⟩
  obtain rfl := hH.symm
  have hn6_7 := Heap.ne_of (by first | assumption | exact (by assumption : Heap.le _ _).objs _ _ (by assumption) | exact Heap.objs_set_same _ _ _ | exact (Heap.objs_set_ne _ _ (by assumption)).trans (Heap.objs_set_same _ _ _) | exact (Heap.objs_set_ne _ _ (by assumption)).trans ((Heap.objs_set_ne _ _ (by assumption)).trans (Heap.objs_set_same _ _ _)) | exact (Heap.objs_set_ne _ _ (by assumption)).trans (by assumption)) hb7
  refine AList.s0 (step_store Tryz.sizeOf72 (.tmp _ _ rfl) (.tmp _ _ rfl) rfl rfl (.inr ⟨_, rfl⟩) (Heap.objs_set_same _ _ _) (Nat.le_of_ble_eq_true rfl)) ?_
  rintro _ _ ⟨rfl, hH⟩
  obtain rfl := hH.symm
  rw [Heap.set_set, store_names]
  refine AList.nil ?_
  refine Next.go ?_
  refine AWP.frz (t := 7) rfl (by first | exact hb7 | exact Heap.fresh_set hb7 _) ?_
  refine AWP.seq ?_
  refine AWP.seq ?_
  -- region 2
  refine AWP.region ?_
  refine AList.p rfl (pure_sliceA Tryz.underlying72 Tryz.sizeOf9 (.tmp _ _ rfl) rfl (by rw [maxLen_eq]; decide) (fun c hc => by obtain ⟨s, _, rfl⟩ := List.mem_map.1 hc; exact ⟨rfl, rfl⟩)) ?_
  refine AList.p rfl (pure_move (.tmp _ _ rfl)) ?_
  refine AList.s rfl (step_call0 Tryz.call32 (.cons (.tmp _ _ rfl) (.cons (.tmp _ _ rfl) .nil)) (BS_calls nameL _ _ (by decide) (by decide) _)) ?_
  rintro _ _ ⟨rfl, hH⟩
  obtain rfl := hH.symm
  rw [hasIFERROR]
  refine AList.p rfl (pure_move (.tmp _ _ rfl)) ?_
  refine AList.p rfl (pure_extract (.tmp _ _ rfl) rfl) ?_
  refine AList.p rfl (pure_extract (.tmp _ _ rfl) rfl) ?_
  refine AList.p rfl (pure_assign (.tmp _ _ rfl)) ?_
  refine AList.p rfl (pure_assign (.tmp _ _ rfl)) ?_
  refine AList.nil ?_
  refine Next.go ?_
  refine AWP.seq ?_
  -- region 3
  refine AWP.region ?_
  refine AList.p rfl (pure_move (.tmp _ _ rfl)) ?_
  refine AList.p rfl (pure_not (.tmp _ _ rfl)) ?_
  refine AList.nil ?_
  refine Next.go ?_
  -- c0
  refine AWP.cond_false (.tmp _ _ rfl) (by rfl) ?_
  refine AWP.skip ?_
  refine Next.go ?_
  refine AWP.seq ?_
  refine AWP.seq ?_
  -- region 5
  refine AWP.region ?_
  refine AList.p rfl (pure_move (.tmp _ _ rfl)) ?_
  refine AList.s rfl (step_call0 Tryz.call33 (.cons (.tmp _ _ rfl) .nil) (takesIFERROR _)) ?_
  rintro _ _ ⟨rfl, hH⟩
  obtain rfl := hH.symm
  refine AList.p rfl (pure_move (.tmp _ _ rfl)) ?_
  refine AList.p rfl (pure_extract (.tmp _ _ rfl) rfl) ?_
  refine AList.p rfl (pure_extract (.tmp _ _ rfl) rfl) ?_
  refine AList.p rfl (pure_assign (.tmp _ _ rfl)) ?_
  refine AList.p rfl (pure_assign (.tmp _ _ rfl)) ?_
  refine AList.nil ?_
  refine Next.go ?_
  refine AWP.seq ?_
  -- region 6
  refine AWP.region ?_
  refine AList.p rfl (pure_move (.tmp _ _ rfl)) ?_
  first | (refine AList.p rfl (pure_lenL Tryz.underlying40 (.tmp _ _ rfl)) ?_) | (refine AList.p rfl (pure_lenS Tryz.underlying40 (.tmp _ _ rfl)) ?_) | (refine AList.p rfl (pure_lenM Tryz.underlying40 (.tmp _ _ rfl)) ?_)
  refine AList.p rfl (pure_move (.tmp _ _ rfl)) ?_
  refine AList.p rfl (pure_lss (.tmp _ _ rfl) (.tmp _ _ rfl)) ?_
  refine AList.p rfl (pure_move (.tmp _ _ rfl)) ?_
  -- the guard in slot 33
  refine bool_casesL (t := 33) rfl (fun hg33 => ?_) (fun hg33 => ?_)
  · have hh33 := hg33; try simp only [decide_eq_true_eq] at hh33
    refine AList.gn rfl rfl rfl (by first | rfl | assumption) ?_
    refine AList.gn rfl rfl rfl (by first | rfl | assumption) ?_
    refine AList.gn rfl rfl rfl (by first | rfl | assumption) ?_
    refine AList.gn rfl rfl rfl (by first | rfl | assumption) ?_
    refine AList.p rfl (pure_pickT (.tmp _ _ rfl) (by first | rfl | assumption) ev_bool) ?_
    refine AList.nil ?_
    refine Next.go ?_
    -- c1
    refine AWP.cond_true (.tmp _ _ rfl) (by first | rfl | assumption) ?_
    refine AWP.seq ?_
    -- region 7
    refine AWP.region ?_
    refine AList.s rfl (step_call0 Tryz.call24 (.cons ev_int .nil) (vFail_calls _ _)) ?_
    rintro _ _ ⟨rfl, hH⟩
    obtain rfl := hH.symm
    refine AList.s0 (step_store Tryz.sizeOf24 (.tmp _ _ rfl) (.tmp _ _ rfl) rfl rfl (.inr ⟨_, rfl⟩) (by first | assumption | exact (by assumption : Heap.le _ _).objs _ _ (by assumption) | exact Heap.objs_set_same _ _ _ | exact (Heap.objs_set_ne _ _ (by assumption)).trans (Heap.objs_set_same _ _ _) | exact (Heap.objs_set_ne _ _ (by assumption)).trans ((Heap.objs_set_ne _ _ (by assumption)).trans (Heap.objs_set_same _ _ _)) | exact (Heap.objs_set_ne _ _ (by assumption)).trans (by assumption)) (Nat.le_of_ble_eq_true rfl)) ?_
    rintro _ _ ⟨rfl, hH⟩
    obtain rfl := hH.symm
    try first | rw [Heap.set_set] | rw [Heap.set_under (by assumption)]
    refine AList.nil ?_
    refine Next.go ?_
    refine AWP.frz (t := 6) rfl (by first | exact hb6 | exact Heap.fresh_set hb6 _) ?_
    refine AWP.ret ?_
    refine Next.rt ?_
    -- ret 0
    refine Ret.go (.cons (.cellI _ _ _ _ rfl Tryz.isAgg24 Tryz.sizeOf24 rfl) .nil) _ (Heap.le.refl _) ?_
    first | (exfalso; omega) | exact absurd trivial hc51 | (refine ⟨?_, rfl⟩; first | (rw [if_pos hc51]; rfl) | (rw [if_pos rfl]; rfl) | (rw [if_neg hc51]; rfl))
  · have hh33 := hg33; try simp only [decide_eq_false_iff_not, Int.not_lt] at hh33
    refine AList.gp rfl rfl rfl (by first | rfl | assumption) (pure_move (.tmp _ _ rfl)) ?_
    first | (refine AList.gp rfl rfl rfl (by first | rfl | assumption) (pure_lenL Tryz.underlying40 (.tmp _ _ rfl)) ?_) | (refine AList.gp rfl rfl rfl (by first | rfl | assumption) (pure_lenS Tryz.underlying40 (.tmp _ _ rfl)) ?_) | (refine AList.gp rfl rfl rfl (by first | rfl | assumption) (pure_lenM Tryz.underlying40 (.tmp _ _ rfl)) ?_)
    refine AList.gp rfl rfl rfl (by first | rfl | assumption) (pure_move (.tmp _ _ rfl)) ?_
    refine AList.gp rfl rfl rfl (by first | rfl | assumption) (pure_gtr (.tmp _ _ rfl) (.tmp _ _ rfl)) ?_
    refine AList.p rfl (pure_pickF (.tmp _ _ rfl) (by first | rfl | assumption) (.tmp _ _ rfl)) ?_
    refine AList.nil ?_
    refine Next.go ?_
    -- c1
    refine AWP.cond (.tmp _ _ rfl) (fun hc38 => ?_) (fun hc38 => ?_)
    · try simp only [decide_eq_true_eq] at hc38
      omega
    · try simp only [decide_eq_false_iff_not, Int.not_lt] at hc38
      refine AWP.skip ?_
      refine Next.go ?_
      refine AWP.seq ?_
      -- region 8
      refine AWP.region ?_
      refine AList.p rfl (pure_move (.tmp _ _ rfl)) ?_
      refine AList.p rfl (pure_move (.tmp _ _ rfl)) ?_
      refine AList.p rfl (pure_build [(0, 1), (1, 1), (2, 1)] Tryz.underlying79 Tryz.zeroValue79 (zr79) rfl (pl79 _ Tryz.underlying79) (.cons (.tmp _ _ rfl) (.inl rfl) (.cons (.tmp _ _ rfl) (.inl rfl) (.cons ev_int (.inl rfl) .nil))) rfl) ?_
      refine AList.s rfl (step_box (.tmp _ _ rfl) (.inr ⟨_, rfl⟩)) ?_
      rintro _ _ ⟨b43, hb43, rfl, hH⟩
      obtain rfl := hH.symm
      have hn6_43 := Heap.ne_of (by first | assumption | exact (by assumption : Heap.le _ _).objs _ _ (by assumption) | exact Heap.objs_set_same _ _ _ | exact (Heap.objs_set_ne _ _ (by assumption)).trans (Heap.objs_set_same _ _ _) | exact (Heap.objs_set_ne _ _ (by assumption)).trans ((Heap.objs_set_ne _ _ (by assumption)).trans (Heap.objs_set_same _ _ _)) | exact (Heap.objs_set_ne _ _ (by assumption)).trans (by assumption)) hb43
      refine AList.p rfl (pure_assign (.tmp _ _ rfl)) ?_
      refine AList.nil ?_
      refine Next.go ?_
      refine AWP.seq ?_
      -- region 9
      refine AWP.region ?_
      refine AList.p rfl (pure_move (.tmp _ _ rfl)) ?_
      refine AList.p rfl (pure_move (.tmp _ _ rfl)) ?_
      refine AList.s rfl (step_call0 Tryz.call34 (.cons (.tmp _ _ rfl) (.cons (.tmp _ _ rfl) .nil)) (doesIFERROR_calls _ q po pr l tl 0 hn _ (Heap.objs_set_same _ _ _))) ?_
      rintro _ _ ⟨rfl, rfl⟩
      rw [Heap.set_set]
      refine AList.s rfl (step_alloc Tryz.zeroValue24 (zr24)) ?_
      rintro _ _ ⟨b13, hb13, rfl, hH⟩
      obtain rfl := hH.symm
      have hn6_13 := Heap.ne_of (by first | assumption | exact (by assumption : Heap.le _ _).objs _ _ (by assumption) | exact Heap.objs_set_same _ _ _ | exact (Heap.objs_set_ne _ _ (by assumption)).trans (Heap.objs_set_same _ _ _) | exact (Heap.objs_set_ne _ _ (by assumption)).trans ((Heap.objs_set_ne _ _ (by assumption)).trans (Heap.objs_set_same _ _ _)) | exact (Heap.objs_set_ne _ _ (by assumption)).trans (by assumption)) hb13
      have hn43_13 := Heap.ne_of (by first | assumption | exact (by assumption : Heap.le _ _).objs _ _ (by assumption) | exact Heap.objs_set_same _ _ _ | exact (Heap.objs_set_ne _ _ (by assumption)).trans (Heap.objs_set_same _ _ _) | exact (Heap.objs_set_ne _ _ (by assumption)).trans ((Heap.objs_set_ne _ _ (by assumption)).trans (Heap.objs_set_same _ _ _)) | exact (Heap.objs_set_ne _ _ (by assumption)).trans (by assumption)) hb13
      refine AList.s0 (step_store Tryz.sizeOf24 (.tmp _ _ rfl) (.tmp _ _ rfl) rfl rfl (.inr ⟨_, rfl⟩) (by first | assumption | exact (by assumption : Heap.le _ _).objs _ _ (by assumption) | exact Heap.objs_set_same _ _ _ | exact (Heap.objs_set_ne _ _ (by assumption)).trans (Heap.objs_set_same _ _ _) | exact (Heap.objs_set_ne _ _ (by assumption)).trans ((Heap.objs_set_ne _ _ (by assumption)).trans (Heap.objs_set_same _ _ _)) | exact (Heap.objs_set_ne _ _ (by assumption)).trans (by assumption)) (Nat.le_of_ble_eq_true rfl)) ?_
      rintro _ _ ⟨rfl, hH⟩
      obtain rfl := hH.symm
      try first | rw [Heap.set_set] | rw [Heap.set_under (by assumption)]
      refine AList.nil ?_
      refine Next.go ?_
      refine AWP.frz (t := 13) rfl (by first | exact hb13 | exact Heap.fresh_set hb13 _) ?_
      refine AWP.seq ?_
      refine AWP.seq ?_
      -- region 10
      refine AWP.region ?_
      refine AList.p rfl (pure_move (.tmp _ _ rfl)) ?_
      first | (refine AList.p rfl (pure_nilCheckI (.tmp _ _ rfl)) ?_) | (refine AList.p rfl (pure_nilCheck (.tmp _ _ rfl)) ?_) | (refine AList.p rfl (pure_nilCheckF (.tmp _ _ rfl)) ?_)
      first | (refine AList.p rfl (pure_fieldI Tryz.underlying79 rfl Tryz.sizeOf3 (.tmp _ _ rfl)) ?_) | (refine AList.p rfl (pure_field Tryz.underlying79 rfl Tryz.sizeOf3 (.tmp _ _ rfl)) ?_)
      first | (refine AList.p rfl (pure_load1 Tryz.isAgg3 (.tmp _ _ rfl)) ?_) | (refine AList.s rfl (step_load1 Tryz.isAgg3 (.tmp _ _ rfl) (by first | assumption | exact (by assumption : Heap.le _ _).objs _ _ (by assumption) | exact Heap.objs_set_same _ _ _ | exact (Heap.objs_set_ne _ _ (by assumption)).trans (Heap.objs_set_same _ _ _) | exact (Heap.objs_set_ne _ _ (by assumption)).trans ((Heap.objs_set_ne _ _ (by assumption)).trans (Heap.objs_set_same _ _ _)) | exact (Heap.objs_set_ne _ _ (by assumption)).trans (by assumption)) rfl) ?_; rintro _ _ ⟨rfl, hH⟩; obtain rfl := hH.symm)
      refine AList.p rfl (pure_neq (.tmp _ _ rfl) ev_int) ?_
      refine AList.nil ?_
      refine Next.go ?_
      -- c2
      refine AWP.cond (.tmp _ _ rfl) (fun hc51 => ?_) (fun hc51 => ?_)
      · try simp only [decide_eq_true_eq, ne_eq] at hc51
        refine AWP.seq ?_
        -- region 11
        refine AWP.region ?_
        refine AList.p rfl (pure_move (.tmp _ _ rfl)) ?_
        first | (refine AList.p rfl (pure_nilCheckI (.tmp _ _ rfl)) ?_) | (refine AList.p rfl (pure_nilCheck (.tmp _ _ rfl)) ?_) | (refine AList.p rfl (pure_nilCheckF (.tmp _ _ rfl)) ?_)
        first | (refine AList.p rfl (pure_fieldI Tryz.underlying79 rfl Tryz.sizeOf3 (.tmp _ _ rfl)) ?_) | (refine AList.p rfl (pure_field Tryz.underlying79 rfl Tryz.sizeOf3 (.tmp _ _ rfl)) ?_)
        first | (refine AList.p rfl (pure_load1 Tryz.isAgg3 (.tmp _ _ rfl)) ?_) | (refine AList.s rfl (step_load1 Tryz.isAgg3 (.tmp _ _ rfl) (by first | assumption | exact (by assumption : Heap.le _ _).objs _ _ (by assumption) | exact Heap.objs_set_same _ _ _ | exact (Heap.objs_set_ne _ _ (by assumption)).trans (Heap.objs_set_same _ _ _) | exact (Heap.objs_set_ne _ _ (by assumption)).trans ((Heap.objs_set_ne _ _ (by assumption)).trans (Heap.objs_set_same _ _ _)) | exact (Heap.objs_set_ne _ _ (by assumption)).trans (by assumption)) rfl) ?_; rintro _ _ ⟨rfl, hH⟩; obtain rfl := hH.symm)
        refine AList.s rfl (step_call0 Tryz.call24 (.cons (.tmp _ _ rfl) .nil) (vFail_calls _ _)) ?_
        rintro _ _ ⟨rfl, hH⟩
        obtain rfl := hH.symm
        refine AList.s0 (step_store Tryz.sizeOf24 (.tmp _ _ rfl) (.tmp _ _ rfl) rfl rfl (.inr ⟨_, rfl⟩) (by first | assumption | exact (by assumption : Heap.le _ _).objs _ _ (by assumption) | exact Heap.objs_set_same _ _ _ | exact (Heap.objs_set_ne _ _ (by assumption)).trans (Heap.objs_set_same _ _ _) | exact (Heap.objs_set_ne _ _ (by assumption)).trans ((Heap.objs_set_ne _ _ (by assumption)).trans (Heap.objs_set_same _ _ _)) | exact (Heap.objs_set_ne _ _ (by assumption)).trans (by assumption)) (Nat.le_of_ble_eq_true rfl)) ?_
        rintro _ _ ⟨rfl, hH⟩
        obtain rfl := hH.symm
        try first | rw [Heap.set_set] | rw [Heap.set_under (by assumption)]
        refine AList.nil ?_
        refine Next.go ?_
        refine AWP.dropb (by first | exact hb43 | exact Heap.fresh_set hb43 _) ?_
        refine AWP.frz (t := 6) rfl (by first | exact hb6 | exact Heap.fresh_set hb6 _) ?_
        refine AWP.ret ?_
        refine Next.rt ?_
        -- ret 1
        refine Ret.go (.cons (.cellI _ _ _ _ rfl Tryz.isAgg24 Tryz.sizeOf24 rfl) .nil) _ (Heap.le.refl _) ?_
        first | (exfalso; omega) | exact absurd trivial hc51 | (refine ⟨?_, rfl⟩; first | (rw [if_pos hc51]; rfl) | (rw [if_pos rfl]; rfl) | (rw [if_neg hc51]; rfl))
      · try simp only [decide_eq_false_iff_not, ne_eq, Decidable.not_not] at hc51
        refine AWP.skip ?_
        refine Next.go ?_
        refine AWP.seq ?_
        -- region 12
        refine AWP.region ?_
        first | (refine AList.p rfl (pure_loadN Tryz.isAgg24 Tryz.sizeOf24 (.tmp _ _ rfl) (Nat.le_of_ble_eq_true rfl)) ?_) | (refine AList.s rfl (step_loadN Tryz.isAgg24 Tryz.sizeOf24 (.tmp _ _ rfl) (by first | assumption | exact (by assumption : Heap.le _ _).objs _ _ (by assumption) | exact Heap.objs_set_same _ _ _ | exact (Heap.objs_set_ne _ _ (by assumption)).trans (Heap.objs_set_same _ _ _) | exact (Heap.objs_set_ne _ _ (by assumption)).trans ((Heap.objs_set_ne _ _ (by assumption)).trans (Heap.objs_set_same _ _ _)) | exact (Heap.objs_set_ne _ _ (by assumption)).trans (by assumption)) (Nat.le_of_ble_eq_true rfl)) ?_; rintro _ _ ⟨rfl, hH⟩; obtain rfl := hH.symm)
        refine AList.s0 (step_store Tryz.sizeOf24 (.tmp _ _ rfl) (.tmp _ _ rfl) rfl rfl (.inr ⟨_, rfl⟩) (by first | assumption | exact (by assumption : Heap.le _ _).objs _ _ (by assumption) | exact Heap.objs_set_same _ _ _ | exact (Heap.objs_set_ne _ _ (by assumption)).trans (Heap.objs_set_same _ _ _) | exact (Heap.objs_set_ne _ _ (by assumption)).trans ((Heap.objs_set_ne _ _ (by assumption)).trans (Heap.objs_set_same _ _ _)) | exact (Heap.objs_set_ne _ _ (by assumption)).trans (by assumption)) (Nat.le_of_ble_eq_true rfl)) ?_
        rintro _ _ ⟨rfl, hH⟩
        obtain rfl := hH.symm
        try first | rw [Heap.set_set] | rw [Heap.set_under (by assumption)]
        refine AList.nil ?_
        refine Next.go ?_
        refine AWP.dropb (by first | exact hb43 | exact Heap.fresh_set hb43 _) ?_
        refine AWP.frz (t := 6) rfl (by first | exact hb6 | exact Heap.fresh_set hb6 _) ?_
        refine AWP.ret ?_
        -- ret 2
        refine Ret.go (.cons (.cellI _ _ _ _ rfl Tryz.isAgg24 Tryz.sizeOf24 rfl) .nil) _ (Heap.le.refl _) ?_
        first | (exfalso; omega) | exact absurd trivial hc51 | (refine ⟨?_, rfl⟩; first | (rw [if_pos hc51]; rfl) | (rw [if_pos rfl]; rfl) | (rw [if_neg hc51]; rfl))

set_option maxRecDepth 100000 in
theorem doesISERROR_calls (b : Nat) (q : FLoc) (po pr : AV) (l : List ArgN) (tl : Tail) (f : Int) (hn : l.length = 1)  (H : Heap) (hb : H.objs b = some (callB (callerA q po pr) l tl f)) : ACall Tryz.prog 34 [.ptr (some ⟨b, 0, none⟩), .str [73, 83, 69, 82, 82, 79, 82]] H (fun y H' => y = (BoolV (decide ((scalarV l[0]).kind = 4))).av ∧ H' = H.set b (callB (callerA q po pr) l tl (f))) := by
  refine ACall.of_body Tryz.func34 rfl Tryz.ntmps34 Tryz.results34 rfl ?_
  refine AWP.seq ?_
  -- region 0
  refine AWP.region ?_
  refine AList.s rfl (step_alloc Tryz.zeroValue24 (zr24)) ?_
  rintro _ _ ⟨b4, hb4, rfl, hH⟩
  obtain rfl := hH.symm
  refine AList.nil ?_
  refine Next.go ?_
  refine AWP.seq ?_
  refine AWP.seq ?_
  have hne4 : b ≠ b4 := by rintro rfl; rw [hb] at hb4; cases hb4
  have hne4x := hne4.symm
  -- region 1
  refine AWP.region ?_
  refine AList.p rfl (pure_move (.tmp _ _ rfl)) ?_
  refine AList.nil ?_
  refine Next.go ?_
  refine AWP.block ?_
  refine AWP.seq ?_
  refine AWP.seq ?_
  -- region 2
  refine AWP.region ?_
  refine AList.p rfl (pure_eqlStr (.tmp _ _ rfl) (ev_str rfl)) ?_
  refine AList.p rfl (pure_assign (.tmp _ _ rfl)) ?_
  refine AList.nil ?_
  refine Next.go ?_
  -- c0
  refine AWP.cond_false (.tmp _ _ rfl) (by rfl) ?_
  refine AWP.seq ?_
  -- region 3
  refine AWP.region ?_
  refine AList.p rfl (pure_eqlStr (.tmp _ _ rfl) (ev_str rfl)) ?_
  refine AList.p rfl (pure_assign (.tmp _ _ rfl)) ?_
  refine AList.nil ?_
  refine Next.go ?_
  -- c1
  refine AWP.cond_false (.tmp _ _ rfl) (by rfl) ?_
  refine AWP.seq ?_
  -- region 4
  refine AWP.region ?_
  refine AList.p rfl (pure_eqlStr (.tmp _ _ rfl) (ev_str rfl)) ?_
  refine AList.p rfl (pure_assign (.tmp _ _ rfl)) ?_
  refine AList.nil ?_
  refine Next.go ?_
  -- c2
  refine AWP.cond_false (.tmp _ _ rfl) (by rfl) ?_
  refine AWP.seq ?_
  -- region 5
  refine AWP.region ?_
  refine AList.p rfl (pure_eqlStr (.tmp _ _ rfl) (ev_str rfl)) ?_
  refine AList.p rfl (pure_assign (.tmp _ _ rfl)) ?_
  refine AList.nil ?_
  refine Next.go ?_
  -- c3
  refine AWP.cond_false (.tmp _ _ rfl) (by rfl) ?_
  refine AWP.seq ?_
  -- region 6
  refine AWP.region ?_
  refine AList.p rfl (pure_eqlStr (.tmp _ _ rfl) (ev_str rfl)) ?_
  refine AList.p rfl (pure_assign (.tmp _ _ rfl)) ?_
  refine AList.nil ?_
  refine Next.go ?_
  -- c4
  refine AWP.cond_false (.tmp _ _ rfl) (by rfl) ?_
  refine AWP.seq ?_
  -- region 7
  refine AWP.region ?_
  refine AList.p rfl (pure_eqlStr (.tmp _ _ rfl) (ev_str rfl)) ?_
  refine AList.p rfl (pure_assign (.tmp _ _ rfl)) ?_
  refine AList.nil ?_
  refine Next.go ?_
  -- c5
  refine AWP.cond_false (.tmp _ _ rfl) (by rfl) ?_
  -- region 8
  refine AWP.region ?_
  refine AList.p rfl (pure_eqlStr (.tmp _ _ rfl) (ev_str rfl)) ?_
  refine AList.p rfl (pure_assign (.tmp _ _ rfl)) ?_
  refine AList.nil ?_
  refine Next.go ?_
  -- c6
  refine AWP.cond_false (.tmp _ _ rfl) (by rfl) ?_
  refine AWP.seq ?_
  refine AWP.seq ?_
  -- region 10
  refine AWP.region ?_
  refine AList.p rfl (pure_eqlStr (.tmp _ _ rfl) (ev_str rfl)) ?_
  refine AList.p rfl (pure_assign (.tmp _ _ rfl)) ?_
  refine AList.nil ?_
  refine Next.go ?_
  -- c7
  refine AWP.cond_false (.tmp _ _ rfl) (by rfl) ?_
  -- region 11
  refine AWP.region ?_
  refine AList.p rfl (pure_eqlStr (.tmp _ _ rfl) (ev_str rfl)) ?_
  refine AList.p rfl (pure_assign (.tmp _ _ rfl)) ?_
  refine AList.nil ?_
  refine Next.go ?_
  -- c8
  refine AWP.cond_false (.tmp _ _ rfl) (by rfl) ?_
  refine AWP.seq ?_
  refine AWP.seq ?_
  -- region 13
  refine AWP.region ?_
  refine AList.p rfl (pure_eqlStr (.tmp _ _ rfl) (ev_str rfl)) ?_
  refine AList.p rfl (pure_assign (.tmp _ _ rfl)) ?_
  refine AList.nil ?_
  refine Next.go ?_
  -- c9
  refine AWP.cond_false (.tmp _ _ rfl) (by rfl) ?_
  -- region 14
  refine AWP.region ?_
  refine AList.p rfl (pure_eqlStr (.tmp _ _ rfl) (ev_str rfl)) ?_
  refine AList.p rfl (pure_assign (.tmp _ _ rfl)) ?_
  refine AList.nil ?_
  refine Next.go ?_
  -- c10
  refine AWP.cond_false (.tmp _ _ rfl) (by rfl) ?_
  refine AWP.seq ?_
  refine AWP.seq ?_
  -- region 16
  refine AWP.region ?_
  refine AList.p rfl (pure_eqlStr (.tmp _ _ rfl) (ev_str rfl)) ?_
  refine AList.p rfl (pure_assign (.tmp _ _ rfl)) ?_
  refine AList.nil ?_
  refine Next.go ?_
  -- c11
  refine AWP.cond_false (.tmp _ _ rfl) (by rfl) ?_
  refine AWP.seq ?_
  -- region 17
  refine AWP.region ?_
  refine AList.p rfl (pure_eqlStr (.tmp _ _ rfl) (ev_str rfl)) ?_
  refine AList.p rfl (pure_assign (.tmp _ _ rfl)) ?_
  refine AList.nil ?_
  refine Next.go ?_
  -- c12
  refine AWP.cond_false (.tmp _ _ rfl) (by rfl) ?_
  -- region 18
  refine AWP.region ?_
  refine AList.p rfl (pure_eqlStr (.tmp _ _ rfl) (ev_str rfl)) ?_
  refine AList.p rfl (pure_assign (.tmp _ _ rfl)) ?_
  refine AList.nil ?_
  refine Next.go ?_
  -- c13
  refine AWP.cond_false (.tmp _ _ rfl) (by rfl) ?_
  refine AWP.seq ?_
  refine AWP.seq ?_
  -- region 20
  refine AWP.region ?_
  refine AList.p rfl (pure_eqlStr (.tmp _ _ rfl) (ev_str rfl)) ?_
  refine AList.p rfl (pure_assign (.tmp _ _ rfl)) ?_
  refine AList.nil ?_
  refine Next.go ?_
  -- c14
  refine AWP.cond_false (.tmp _ _ rfl) (by rfl) ?_
  refine AWP.seq ?_
  -- region 21
  refine AWP.region ?_
  refine AList.p rfl (pure_eqlStr (.tmp _ _ rfl) (ev_str rfl)) ?_
  refine AList.p rfl (pure_assign (.tmp _ _ rfl)) ?_
  refine AList.nil ?_
  refine Next.go ?_
  -- c15
  refine AWP.cond_false (.tmp _ _ rfl) (by rfl) ?_
  refine AWP.seq ?_
  -- region 22
  refine AWP.region ?_
  refine AList.p rfl (pure_eqlStr (.tmp _ _ rfl) (ev_str rfl)) ?_
  refine AList.p rfl (pure_assign (.tmp _ _ rfl)) ?_
  refine AList.nil ?_
  refine Next.go ?_
  -- c16
  refine AWP.cond_false (.tmp _ _ rfl) (by rfl) ?_
  refine AWP.seq ?_
  -- region 23
  refine AWP.region ?_
  refine AList.p rfl (pure_eqlStr (.tmp _ _ rfl) (ev_str rfl)) ?_
  refine AList.p rfl (pure_assign (.tmp _ _ rfl)) ?_
  refine AList.nil ?_
  refine Next.go ?_
  -- c17
  refine AWP.cond_false (.tmp _ _ rfl) (by rfl) ?_
  refine AWP.seq ?_
  -- region 24
  refine AWP.region ?_
  refine AList.p rfl (pure_eqlStr (.tmp _ _ rfl) (ev_str rfl)) ?_
  refine AList.p rfl (pure_assign (.tmp _ _ rfl)) ?_
  refine AList.nil ?_
  refine Next.go ?_
  -- c18
  refine AWP.cond_false (.tmp _ _ rfl) (by rfl) ?_
  -- region 25
  refine AWP.region ?_
  refine AList.p rfl (pure_eqlStr (.tmp _ _ rfl) (ev_str rfl)) ?_
  refine AList.p rfl (pure_assign (.tmp _ _ rfl)) ?_
  refine AList.nil ?_
  refine Next.go ?_
  -- c19
  refine AWP.cond_false (.tmp _ _ rfl) (by rfl) ?_
  refine AWP.seq ?_
  refine AWP.seq ?_
  -- region 27
  refine AWP.region ?_
  refine AList.p rfl (pure_eqlStr (.tmp _ _ rfl) (ev_str rfl)) ?_
  refine AList.p rfl (pure_assign (.tmp _ _ rfl)) ?_
  refine AList.nil ?_
  refine Next.go ?_
  -- c20
  refine AWP.cond_false (.tmp _ _ rfl) (by rfl) ?_
  -- region 28
  refine AWP.region ?_
  refine AList.p rfl (pure_eqlStr (.tmp _ _ rfl) (ev_str rfl)) ?_
  refine AList.p rfl (pure_assign (.tmp _ _ rfl)) ?_
  refine AList.nil ?_
  refine Next.go ?_
  -- c21
  refine AWP.cond_false (.tmp _ _ rfl) (by rfl) ?_
  refine AWP.seq ?_
  -- region 30
  refine AWP.region ?_
  refine AList.p rfl (pure_eqlStr (.tmp _ _ rfl) (ev_str rfl)) ?_
  refine AList.p rfl (pure_assign (.tmp _ _ rfl)) ?_
  refine AList.nil ?_
  refine Next.go ?_
  -- c22
  refine AWP.cond_false (.tmp _ _ rfl) (by rfl) ?_
  refine AWP.seq ?_
  -- region 32
  refine AWP.region ?_
  refine AList.p rfl (pure_eqlStr (.tmp _ _ rfl) (ev_str rfl)) ?_
  refine AList.p rfl (pure_assign (.tmp _ _ rfl)) ?_
  refine AList.nil ?_
  refine Next.go ?_
  -- c23
  refine AWP.cond_false (.tmp _ _ rfl) (by rfl) ?_
  refine AWP.seq ?_
  refine AWP.seq ?_
  -- region 34
  refine AWP.region ?_
  refine AList.p rfl (pure_eqlStr (.tmp _ _ rfl) (ev_str rfl)) ?_
  refine AList.p rfl (pure_assign (.tmp _ _ rfl)) ?_
  refine AList.nil ?_
  refine Next.go ?_
  -- c24
  refine AWP.cond_false (.tmp _ _ rfl) (by rfl) ?_
  refine AWP.seq ?_
  -- region 35
  refine AWP.region ?_
  refine AList.p rfl (pure_eqlStr (.tmp _ _ rfl) (ev_str rfl)) ?_
  refine AList.p rfl (pure_assign (.tmp _ _ rfl)) ?_
  refine AList.nil ?_
  refine Next.go ?_
  -- c25
  refine AWP.cond_false (.tmp _ _ rfl) (by rfl) ?_
  refine AWP.seq ?_
  -- region 36
  refine AWP.region ?_
  refine AList.p rfl (pure_eqlStr (.tmp _ _ rfl) (ev_str rfl)) ?_
  refine AList.p rfl (pure_assign (.tmp _ _ rfl)) ?_
  refine AList.nil ?_
  refine Next.go ?_
  -- c26
  refine AWP.cond_false (.tmp _ _ rfl) (by rfl) ?_
  refine AWP.seq ?_
  -- region 37
  refine AWP.region ?_
  refine AList.p rfl (pure_eqlStr (.tmp _ _ rfl) (ev_str rfl)) ?_
  refine AList.p rfl (pure_assign (.tmp _ _ rfl)) ?_
  refine AList.nil ?_
  refine Next.go ?_
  -- c27
  refine AWP.cond_false (.tmp _ _ rfl) (by rfl) ?_
  -- region 38
  refine AWP.region ?_
  refine AList.p rfl (pure_eqlStr (.tmp _ _ rfl) (ev_str rfl)) ?_
  refine AList.p rfl (pure_assign (.tmp _ _ rfl)) ?_
  refine AList.nil ?_
  refine Next.go ?_
  -- c28
  refine AWP.cond_false (.tmp _ _ rfl) (by rfl) ?_
  refine AWP.seq ?_
  -- region 40
  refine AWP.region ?_
  refine AList.p rfl (pure_eqlStr (.tmp _ _ rfl) (ev_str rfl)) ?_
  refine AList.p rfl (pure_assign (.tmp _ _ rfl)) ?_
  refine AList.nil ?_
  refine Next.go ?_
  -- c29
  refine AWP.cond_false (.tmp _ _ rfl) (by rfl) ?_
  refine AWP.seq ?_
  refine AWP.seq ?_
  -- region 42
  refine AWP.region ?_
  refine AList.p rfl (pure_eqlStr (.tmp _ _ rfl) (ev_str rfl)) ?_
  refine AList.p rfl (pure_assign (.tmp _ _ rfl)) ?_
  refine AList.nil ?_
  refine Next.go ?_
  -- c30
  refine AWP.cond_false (.tmp _ _ rfl) (by rfl) ?_
  refine AWP.seq ?_
  -- region 43
  refine AWP.region ?_
  refine AList.p rfl (pure_eqlStr (.tmp _ _ rfl) (ev_str rfl)) ?_
  refine AList.p rfl (pure_assign (.tmp _ _ rfl)) ?_
  refine AList.nil ?_
  refine Next.go ?_
  -- c31
  refine AWP.cond_false (.tmp _ _ rfl) (by rfl) ?_
  -- region 44
  refine AWP.region ?_
  refine AList.p rfl (pure_eqlStr (.tmp _ _ rfl) (ev_str rfl)) ?_
  refine AList.p rfl (pure_assign (.tmp _ _ rfl)) ?_
  refine AList.nil ?_
  refine Next.go ?_
  -- c32
  refine AWP.cond_false (.tmp _ _ rfl) (by rfl) ?_
  refine AWP.seq ?_
  -- region 46
  refine AWP.region ?_
  refine AList.p rfl (pure_eqlStr (.tmp _ _ rfl) (ev_str rfl)) ?_
  refine AList.p rfl (pure_assign (.tmp _ _ rfl)) ?_
  refine AList.nil ?_
  refine Next.go ?_
  -- c33
  refine AWP.cond_false (.tmp _ _ rfl) (by rfl) ?_
  refine AWP.seq ?_
  refine AWP.seq ?_
  -- region 48
  refine AWP.region ?_
  refine AList.p rfl (pure_eqlStr (.tmp _ _ rfl) (ev_str rfl)) ?_
  refine AList.p rfl (pure_assign (.tmp _ _ rfl)) ?_
  refine AList.nil ?_
  refine Next.go ?_
  -- c34
  refine AWP.cond_false (.tmp _ _ rfl) (by rfl) ?_
  -- region 49
  refine AWP.region ?_
  refine AList.p rfl (pure_eqlStr (.tmp _ _ rfl) (ev_str rfl)) ?_
  refine AList.p rfl (pure_assign (.tmp _ _ rfl)) ?_
  refine AList.nil ?_
  refine Next.go ?_
  -- c35
  refine AWP.cond_false (.tmp _ _ rfl) (by rfl) ?_
  refine AWP.seq ?_
  -- region 51
  refine AWP.region ?_
  refine AList.p rfl (pure_eqlStr (.tmp _ _ rfl) (ev_str rfl)) ?_
  refine AList.p rfl (pure_assign (.tmp _ _ rfl)) ?_
  refine AList.nil ?_
  refine Next.go ?_
  -- c36
  refine AWP.cond_false (.tmp _ _ rfl) (by rfl) ?_
  refine AWP.skip ?_
  refine Block.go ?_
  refine Next.go ?_
  refine AWP.seq ?_
  -- region 53
  refine AWP.region ?_
  refine AList.p rfl (pure_move (.tmp _ _ rfl)) ?_
  refine AList.p rfl (pure_move (.tmp _ _ rfl)) ?_
  refine AList.s rfl (step_call0 Tryz.call54 (.cons (.tmp _ _ rfl) (.cons (.tmp _ _ rfl) .nil)) (otherISERROR_calls b q po pr l tl _ hn _ (by first | assumption | exact (Heap.objs_set_ne _ _ (by assumption)).trans hb | exact Heap.objs_set_same _ _ _ | exact (Heap.objs_set_ne _ _ (by assumption)).trans (Heap.objs_set_same _ _ _)))) ?_
  rintro _ _ ⟨rfl, rfl⟩
  rw [Heap.set_comm hne4x]
  replace hb4 := fresh_outF (y := callB (callerA q po pr) l tl (f)) hb4 hne4x
  refine AList.s0 (step_store Tryz.sizeOf24 (.tmp _ _ rfl) (.tmp _ _ rfl) rfl rfl (.inr ⟨_, rfl⟩) (by first | exact (Heap.objs_set_ne _ _ (by assumption)).trans hb | assumption | exact (by assumption : Heap.le _ _).objs _ _ (by assumption) | exact Heap.objs_set_same _ _ _ | exact (Heap.objs_set_ne _ _ (by assumption)).trans (Heap.objs_set_same _ _ _) | exact (Heap.objs_set_ne _ _ (by assumption)).trans ((Heap.objs_set_ne _ _ (by assumption)).trans (Heap.objs_set_same _ _ _)) | exact (Heap.objs_set_ne _ _ (by assumption)).trans (by assumption)) (Nat.le_of_ble_eq_true rfl)) ?_
  rintro _ _ ⟨rfl, hH⟩
  obtain rfl := hH.symm
  try first | rw [Heap.set_set] | rw [Heap.set_under (by assumption)]
  refine AList.nil ?_
  refine Next.go ?_
  refine AWP.frz (t := 4) rfl (by first | exact hb4 | exact Heap.fresh_set hb4 _) ?_
  refine AWP.ret ?_
  -- ret 0
  refine Ret.go (.cons (.cellI _ _ _ _ rfl Tryz.isAgg24 Tryz.sizeOf24 rfl) .nil) _ (Heap.le.refl _) ?_
  exact ⟨rfl, rfl⟩

set_option maxRecDepth 100000 in
theorem hasISERROR : bsHas nameL [73, 83, 69, 82, 82, 79, 82] = true := by kernel_rfl
set_option maxRecDepth 100000 in
theorem takesISERROR (H : Heap) : ACall Tryz.prog 33 [.str [73, 83, 69, 82, 82, 79, 82]] H (fun y H' => y = .tuple [.int .i64 1, .int .i64 1] ∧ H' = H) := closed_two (k := 20) Tryz.func33 rfl (by kernel_rfl) H

set_option maxRecDepth 100000 in
theorem CallISERROR_calls (q : FLoc) (po pr : AV) (l : List ArgN) (tl : Tail) (hn : l.length = 1)  (H : Heap) : ACall Tryz.prog 19 [callerA q po pr, .str [73, 83, 69, 82, 82, 79, 82], argsS l tl] H (fun y H' => y = (if 0 = 0 then BoolV (decide ((scalarV l[0]).kind = 4)) else FailV (0)).av ∧ H' = H) := by
  refine ACall.of_body Tryz.func19 rfl Tryz.ntmps19 Tryz.results19 rfl ?_
  refine AWP.seq ?_
  -- region 0
  refine AWP.region ?_
  refine AList.s rfl (step_alloc Tryz.zeroValue24 (zr24)) ?_
  rintro _ _ ⟨b6, hb6, rfl, hH⟩
  obtain rfl := hH.symm
  refine AList.nil ?_
  refine Next.go ?_
  refine AWP.seq ?_
  -- region 1
  refine AWP.region ?_
  refine AList.s rfl (step_loadKN Tryz.isAgg72 Tryz.sizeOf72 (.global _) rfl (by decide) inv_fnames) ?_
  rintro _ _ ⟨rfl, hH⟩
  obtain rfl := hH.symm
  refine AList.s rfl (step_alloc Tryz.zeroValue72 (zr72)) ?_
  rintro _ _ ⟨b7, hb7, rfl, hH⟩
  obtain rfl := hH.symm
  have hn6_7 := Heap.ne_of (by first | assumption | exact (by assumption : Heap.le _ _).objs _ _ (by assumption) | exact Heap.objs_set_same _ _ _ | exact (Heap.objs_set_ne _ _ (by assumption)).trans (Heap.objs_set_same _ _ _) | exact (Heap.objs_set_ne _ _ (by assumption)).trans ((Heap.objs_set_ne _ _ (by assumption)).trans (Heap.objs_set_same _ _ _)) | exact (Heap.objs_set_ne _ _ (by assumption)).trans (by assumption)) hb7
  refine AList.s0 (step_store Tryz.sizeOf72 (.tmp _ _ rfl) (.tmp _ _ rfl) rfl rfl (.inr ⟨_, rfl⟩) (Heap.objs_set_same _ _ _) (Nat.le_of_ble_eq_true rfl)) ?_
  rintro _ _ ⟨rfl, hH⟩
  obtain rfl := hH.symm
  rw [Heap.set_set, store_names]
  refine AList.nil ?_
  refine Next.go ?_
  refine AWP.frz (t := 7) rfl (by first | exact hb7 | exact Heap.fresh_set hb7 _) ?_
  refine AWP.seq ?_
  refine AWP.seq ?_
  -- region 2
  refine AWP.region ?_
  refine AList.p rfl (pure_sliceA Tryz.underlying72 Tryz.sizeOf9 (.tmp _ _ rfl) rfl (by rw [maxLen_eq]; decide) (fun c hc => by obtain ⟨s, _, rfl⟩ := List.mem_map.1 hc; exact ⟨rfl, rfl⟩)) ?_
  refine AList.p rfl (pure_move (.tmp _ _ rfl)) ?_
  refine AList.s rfl (step_call0 Tryz.call32 (.cons (.tmp _ _ rfl) (.cons (.tmp _ _ rfl) .nil)) (BS_calls nameL _ _ (by decide) (by decide) _)) ?_
  rintro _ _ ⟨rfl, hH⟩
  obtain rfl := hH.symm
  rw [hasISERROR]
  refine AList.p rfl (pure_move (.tmp _ _ rfl)) ?_
  refine AList.p rfl (pure_extract (.tmp _ _ rfl) rfl) ?_
  refine AList.p rfl (pure_extract (.tmp _ _ rfl) rfl) ?_
  refine AList.p rfl (pure_assign (.tmp _ _ rfl)) ?_
  refine AList.p rfl (pure_assign (.tmp _ _ rfl)) ?_
  refine AList.nil ?_
  refine Next.go ?_
  refine AWP.seq ?_
  -- region 3
  refine AWP.region ?_
  refine AList.p rfl (pure_move (.tmp _ _ rfl)) ?_
  refine AList.p rfl (pure_not (.tmp _ _ rfl)) ?_
  refine AList.nil ?_
  refine Next.go ?_
  -- c0
  refine AWP.cond_false (.tmp _ _ rfl) (by rfl) ?_
  refine AWP.skip ?_
  refine Next.go ?_
  refine AWP.seq ?_
  refine AWP.seq ?_
  -- region 5
  refine AWP.region ?_
  refine AList.p rfl (pure_move (.tmp _ _ rfl)) ?_
  refine AList.s rfl (step_call0 Tryz.call33 (.cons (.tmp _ _ rfl) .nil) (takesISERROR _)) ?_
  rintro _ _ ⟨rfl, hH⟩
  obtain rfl := hH.symm
  refine AList.p rfl (pure_move (.tmp _ _ rfl)) ?_
  refine AList.p rfl (pure_extract (.tmp _ _ rfl) rfl) ?_
  refine AList.p rfl (pure_extract (.tmp _ _ rfl) rfl) ?_
  refine AList.p rfl (pure_assign (.tmp _ _ rfl)) ?_
  refine AList.p rfl (pure_assign (.tmp _ _ rfl)) ?_
  refine AList.nil ?_
  refine Next.go ?_
  refine AWP.seq ?_
  -- region 6
  refine AWP.region ?_
  refine AList.p rfl (pure_move (.tmp _ _ rfl)) ?_
  first | (refine AList.p rfl (pure_lenL Tryz.underlying40 (.tmp _ _ rfl)) ?_) | (refine AList.p rfl (pure_lenS Tryz.underlying40 (.tmp _ _ rfl)) ?_) | (refine AList.p rfl (pure_lenM Tryz.underlying40 (.tmp _ _ rfl)) ?_)
  refine AList.p rfl (pure_move (.tmp _ _ rfl)) ?_
  refine AList.p rfl (pure_lss (.tmp _ _ rfl) (.tmp _ _ rfl)) ?_
  refine AList.p rfl (pure_move (.tmp _ _ rfl)) ?_
  -- the guard in slot 33
  refine bool_casesL (t := 33) rfl (fun hg33 => ?_) (fun hg33 => ?_)
  · have hh33 := hg33; try simp only [decide_eq_true_eq] at hh33
    refine AList.gn rfl rfl rfl (by first | rfl | assumption) ?_
    refine AList.gn rfl rfl rfl (by first | rfl | assumption) ?_
    refine AList.gn rfl rfl rfl (by first | rfl | assumption) ?_
    refine AList.gn rfl rfl rfl (by first | rfl | assumption) ?_
    refine AList.p rfl (pure_pickT (.tmp _ _ rfl) (by first | rfl | assumption) ev_bool) ?_
    refine AList.nil ?_
    refine Next.go ?_
    -- c1
    refine AWP.cond_true (.tmp _ _ rfl) (by first | rfl | assumption) ?_
    refine AWP.seq ?_
    -- region 7
    refine AWP.region ?_
    refine AList.s rfl (step_call0 Tryz.call24 (.cons ev_int .nil) (vFail_calls _ _)) ?_
    rintro _ _ ⟨rfl, hH⟩
    obtain rfl := hH.symm
    refine AList.s0 (step_store Tryz.sizeOf24 (.tmp _ _ rfl) (.tmp _ _ rfl) rfl rfl (.inr ⟨_, rfl⟩) (by first | assumption | exact (by assumption : Heap.le _ _).objs _ _ (by assumption) | exact Heap.objs_set_same _ _ _ | exact (Heap.objs_set_ne _ _ (by assumption)).trans (Heap.objs_set_same _ _ _) | exact (Heap.objs_set_ne _ _ (by assumption)).trans ((Heap.objs_set_ne _ _ (by assumption)).trans (Heap.objs_set_same _ _ _)) | exact (Heap.objs_set_ne _ _ (by assumption)).trans (by assumption)) (Nat.le_of_ble_eq_true rfl)) ?_
    rintro _ _ ⟨rfl, hH⟩
    obtain rfl := hH.symm
    try first | rw [Heap.set_set] | rw [Heap.set_under (by assumption)]
    refine AList.nil ?_
    refine Next.go ?_
    refine AWP.frz (t := 6) rfl (by first | exact hb6 | exact Heap.fresh_set hb6 _) ?_
    refine AWP.ret ?_
    refine Next.rt ?_
    -- ret 0
    refine Ret.go (.cons (.cellI _ _ _ _ rfl Tryz.isAgg24 Tryz.sizeOf24 rfl) .nil) _ (Heap.le.refl _) ?_
    first | (exfalso; omega) | exact absurd trivial hc51 | (refine ⟨?_, rfl⟩; first | (rw [if_pos hc51]; rfl) | (rw [if_pos rfl]; rfl) | (rw [if_neg hc51]; rfl))
  · have hh33 := hg33; try simp only [decide_eq_false_iff_not, Int.not_lt] at hh33
    refine AList.gp rfl rfl rfl (by first | rfl | assumption) (pure_move (.tmp _ _ rfl)) ?_
    first | (refine AList.gp rfl rfl rfl (by first | rfl | assumption) (pure_lenL Tryz.underlying40 (.tmp _ _ rfl)) ?_) | (refine AList.gp rfl rfl rfl (by first | rfl | assumption) (pure_lenS Tryz.underlying40 (.tmp _ _ rfl)) ?_) | (refine AList.gp rfl rfl rfl (by first | rfl | assumption) (pure_lenM Tryz.underlying40 (.tmp _ _ rfl)) ?_)
    refine AList.gp rfl rfl rfl (by first | rfl | assumption) (pure_move (.tmp _ _ rfl)) ?_
    refine AList.gp rfl rfl rfl (by first | rfl | assumption) (pure_gtr (.tmp _ _ rfl) (.tmp _ _ rfl)) ?_
    refine AList.p rfl (pure_pickF (.tmp _ _ rfl) (by first | rfl | assumption) (.tmp _ _ rfl)) ?_
    refine AList.nil ?_
    refine Next.go ?_
    -- c1
    refine AWP.cond (.tmp _ _ rfl) (fun hc38 => ?_) (fun hc38 => ?_)
    · try simp only [decide_eq_true_eq] at hc38
      omega
    · try simp only [decide_eq_false_iff_not, Int.not_lt] at hc38
      refine AWP.skip ?_
      refine Next.go ?_
      refine AWP.seq ?_
      -- region 8
      refine AWP.region ?_
      refine AList.p rfl (pure_move (.tmp _ _ rfl)) ?_
      refine AList.p rfl (pure_move (.tmp _ _ rfl)) ?_
      refine AList.p rfl (pure_build [(0, 1), (1, 1), (2, 1)] Tryz.underlying79 Tryz.zeroValue79 (zr79) rfl (pl79 _ Tryz.underlying79) (.cons (.tmp _ _ rfl) (.inl rfl) (.cons (.tmp _ _ rfl) (.inl rfl) (.cons ev_int (.inl rfl) .nil))) rfl) ?_
      refine AList.s rfl (step_box (.tmp _ _ rfl) (.inr ⟨_, rfl⟩)) ?_
      rintro _ _ ⟨b43, hb43, rfl, hH⟩
      obtain rfl := hH.symm
      have hn6_43 := Heap.ne_of (by first | assumption | exact (by assumption : Heap.le _ _).objs _ _ (by assumption) | exact Heap.objs_set_same _ _ _ | exact (Heap.objs_set_ne _ _ (by assumption)).trans (Heap.objs_set_same _ _ _) | exact (Heap.objs_set_ne _ _ (by assumption)).trans ((Heap.objs_set_ne _ _ (by assumption)).trans (Heap.objs_set_same _ _ _)) | exact (Heap.objs_set_ne _ _ (by assumption)).trans (by assumption)) hb43
      refine AList.p rfl (pure_assign (.tmp _ _ rfl)) ?_
      refine AList.nil ?_
      refine Next.go ?_
      refine AWP.seq ?_
      -- region 9
      refine AWP.region ?_
      refine AList.p rfl (pure_move (.tmp _ _ rfl)) ?_
      refine AList.p rfl (pure_move (.tmp _ _ rfl)) ?_
      refine AList.s rfl (step_call0 Tryz.call34 (.cons (.tmp _ _ rfl) (.cons (.tmp _ _ rfl) .nil)) (doesISERROR_calls _ q po pr l tl 0 hn _ (Heap.objs_set_same _ _ _))) ?_
      rintro _ _ ⟨rfl, rfl⟩
      rw [Heap.set_set]
      refine AList.s rfl (step_alloc Tryz.zeroValue24 (zr24)) ?_
      rintro _ _ ⟨b13, hb13, rfl, hH⟩
      obtain rfl := hH.symm
      have hn6_13 := Heap.ne_of (by first | assumption | exact (by assumption : Heap.le _ _).objs _ _ (by assumption) | exact Heap.objs_set_same _ _ _ | exact (Heap.objs_set_ne _ _ (by assumption)).trans (Heap.objs_set_same _ _ _) | exact (Heap.objs_set_ne _ _ (by assumption)).trans ((Heap.objs_set_ne _ _ (by assumption)).trans (Heap.objs_set_same _ _ _)) | exact (Heap.objs_set_ne _ _ (by assumption)).trans (by assumption)) hb13
      have hn43_13 := Heap.ne_of (by first | assumption | exact (by assumption : Heap.le _ _).objs _ _ (by assumption) | exact Heap.objs_set_same _ _ _ | exact (Heap.objs_set_ne _ _ (by assumption)).trans (Heap.objs_set_same _ _ _) | exact (Heap.objs_set_ne _ _ (by assumption)).trans ((Heap.objs_set_ne _ _ (by assumption)).trans (Heap.objs_set_same _ _ _)) | exact (Heap.objs_set_ne _ _ (by assumption)).trans (by assumption)) hb13
      refine AList.s0 (step_store Tryz.sizeOf24 (.tmp _ _ rfl) (.tmp _ _ rfl) rfl rfl (.inr ⟨_, rfl⟩) (by first | assumption | exact (by assumption : Heap.le _ _).objs _ _ (by assumption) | exact Heap.objs_set_same _ _ _ | exact (Heap.objs_set_ne _ _ (by assumption)).trans (Heap.objs_set_same _ _ _) | exact (Heap.objs_set_ne _ _ (by assumption)).trans ((Heap.objs_set_ne _ _ (by assumption)).trans (Heap.objs_set_same _ _ _)) | exact (Heap.objs_set_ne _ _ (by assumption)).trans (by assumption)) (Nat.le_of_ble_eq_true rfl)) ?_
      rintro _ _ ⟨rfl, hH⟩
      obtain rfl := hH.symm
      try first | rw [Heap.set_set] | rw [Heap.set_under (by assumption)]
      refine AList.nil ?_
      refine Next.go ?_
      refine AWP.frz (t := 13) rfl (by first | exact hb13 | exact Heap.fresh_set hb13 _) ?_
      refine AWP.seq ?_
      refine AWP.seq ?_
      -- region 10
      refine AWP.region ?_
      refine AList.p rfl (pure_move (.tmp _ _ rfl)) ?_
      first | (refine AList.p rfl (pure_nilCheckI (.tmp _ _ rfl)) ?_) | (refine AList.p rfl (pure_nilCheck (.tmp _ _ rfl)) ?_) | (refine AList.p rfl (pure_nilCheckF (.tmp _ _ rfl)) ?_)
      first | (refine AList.p rfl (pure_fieldI Tryz.underlying79 rfl Tryz.sizeOf3 (.tmp _ _ rfl)) ?_) | (refine AList.p rfl (pure_field Tryz.underlying79 rfl Tryz.sizeOf3 (.tmp _ _ rfl)) ?_)
      first | (refine AList.p rfl (pure_load1 Tryz.isAgg3 (.tmp _ _ rfl)) ?_) | (refine AList.s rfl (step_load1 Tryz.isAgg3 (.tmp _ _ rfl) (by first | assumption | exact (by assumption : Heap.le _ _).objs _ _ (by assumption) | exact Heap.objs_set_same _ _ _ | exact (Heap.objs_set_ne _ _ (by assumption)).trans (Heap.objs_set_same _ _ _) | exact (Heap.objs_set_ne _ _ (by assumption)).trans ((Heap.objs_set_ne _ _ (by assumption)).trans (Heap.objs_set_same _ _ _)) | exact (Heap.objs_set_ne _ _ (by assumption)).trans (by assumption)) rfl) ?_; rintro _ _ ⟨rfl, hH⟩; obtain rfl := hH.symm)
      refine AList.p rfl (pure_neq (.tmp _ _ rfl) ev_int) ?_
      refine AList.nil ?_
      refine Next.go ?_
      -- c2
      refine AWP.cond (.tmp _ _ rfl) (fun hc51 => ?_) (fun hc51 => ?_)
      · try simp only [decide_eq_true_eq, ne_eq] at hc51
        refine AWP.seq ?_
        -- region 11
        refine AWP.region ?_
        refine AList.p rfl (pure_move (.tmp _ _ rfl)) ?_
        first | (refine AList.p rfl (pure_nilCheckI (.tmp _ _ rfl)) ?_) | (refine AList.p rfl (pure_nilCheck (.tmp _ _ rfl)) ?_) | (refine AList.p rfl (pure_nilCheckF (.tmp _ _ rfl)) ?_)
        first | (refine AList.p rfl (pure_fieldI Tryz.underlying79 rfl Tryz.sizeOf3 (.tmp _ _ rfl)) ?_) | (refine AList.p rfl (pure_field Tryz.underlying79 rfl Tryz.sizeOf3 (.tmp _ _ rfl)) ?_)
        first | (refine AList.p rfl (pure_load1 Tryz.isAgg3 (.tmp _ _ rfl)) ?_) | (refine AList.s rfl (step_load1 Tryz.isAgg3 (.tmp _ _ rfl) (by first | assumption | exact (by assumption : Heap.le _ _).objs _ _ (by assumption) | exact Heap.objs_set_same _ _ _ | exact (Heap.objs_set_ne _ _ (by assumption)).trans (Heap.objs_set_same _ _ _) | exact (Heap.objs_set_ne _ _ (by assumption)).trans ((Heap.objs_set_ne _ _ (by assumption)).trans (Heap.objs_set_same _ _ _)) | exact (Heap.objs_set_ne _ _ (by assumption)).trans (by assumption)) rfl) ?_; rintro _ _ ⟨rfl, hH⟩; obtain rfl := hH.symm)
        refine AList.s rfl (step_call0 Tryz.call24 (.cons (.tmp _ _ rfl) .nil) (vFail_calls _ _)) ?_
        rintro _ _ ⟨rfl, hH⟩
        obtain rfl := hH.symm
        refine AList.s0 (step_store Tryz.sizeOf24 (.tmp _ _ rfl) (.tmp _ _ rfl) rfl rfl (.inr ⟨_, rfl⟩) (by first | assumption | exact (by assumption : Heap.le _ _).objs _ _ (by assumption) | exact Heap.objs_set_same _ _ _ | exact (Heap.objs_set_ne _ _ (by assumption)).trans (Heap.objs_set_same _ _ _) | exact (Heap.objs_set_ne _ _ (by assumption)).trans ((Heap.objs_set_ne _ _ (by assumption)).trans (Heap.objs_set_same _ _ _)) | exact (Heap.objs_set_ne _ _ (by assumption)).trans (by assumption)) (Nat.le_of_ble_eq_true rfl)) ?_
        rintro _ _ ⟨rfl, hH⟩
        obtain rfl := hH.symm
        try first | rw [Heap.set_set] | rw [Heap.set_under (by assumption)]
        refine AList.nil ?_
        refine Next.go ?_
        refine AWP.dropb (by first | exact hb43 | exact Heap.fresh_set hb43 _) ?_
        refine AWP.frz (t := 6) rfl (by first | exact hb6 | exact Heap.fresh_set hb6 _) ?_
        refine AWP.ret ?_
        refine Next.rt ?_
        -- ret 1
        refine Ret.go (.cons (.cellI _ _ _ _ rfl Tryz.isAgg24 Tryz.sizeOf24 rfl) .nil) _ (Heap.le.refl _) ?_
        first | (exfalso; omega) | exact absurd trivial hc51 | (refine ⟨?_, rfl⟩; first | (rw [if_pos hc51]; rfl) | (rw [if_pos rfl]; rfl) | (rw [if_neg hc51]; rfl))
      · try simp only [decide_eq_false_iff_not, ne_eq, Decidable.not_not] at hc51
        refine AWP.skip ?_
        refine Next.go ?_
        refine AWP.seq ?_
        -- region 12
        refine AWP.region ?_
        first | (refine AList.p rfl (pure_loadN Tryz.isAgg24 Tryz.sizeOf24 (.tmp _ _ rfl) (Nat.le_of_ble_eq_true rfl)) ?_) | (refine AList.s rfl (step_loadN Tryz.isAgg24 Tryz.sizeOf24 (.tmp _ _ rfl) (by first | assumption | exact (by assumption : Heap.le _ _).objs _ _ (by assumption) | exact Heap.objs_set_same _ _ _ | exact (Heap.objs_set_ne _ _ (by assumption)).trans (Heap.objs_set_same _ _ _) | exact (Heap.objs_set_ne _ _ (by assumption)).trans ((Heap.objs_set_ne _ _ (by assumption)).trans (Heap.objs_set_same _ _ _)) | exact (Heap.objs_set_ne _ _ (by assumption)).trans (by assumption)) (Nat.le_of_ble_eq_true rfl)) ?_; rintro _ _ ⟨rfl, hH⟩; obtain rfl := hH.symm)
        refine AList.s0 (step_store Tryz.sizeOf24 (.tmp _ _ rfl) (.tmp _ _ rfl) rfl rfl (.inr ⟨_, rfl⟩) (by first | assumption | exact (by assumption : Heap.le _ _).objs _ _ (by assumption) | exact Heap.objs_set_same _ _ _ | exact (Heap.objs_set_ne _ _ (by assumption)).trans (Heap.objs_set_same _ _ _) | exact (Heap.objs_set_ne _ _ (by assumption)).trans ((Heap.objs_set_ne _ _ (by assumption)).trans (Heap.objs_set_same _ _ _)) | exact (Heap.objs_set_ne _ _ (by assumption)).trans (by assumption)) (Nat.le_of_ble_eq_true rfl)) ?_
        rintro _ _ ⟨rfl, hH⟩
        obtain rfl := hH.symm
        try first | rw [Heap.set_set] | rw [Heap.set_under (by assumption)]
        refine AList.nil ?_
        refine Next.go ?_
        refine AWP.dropb (by first | exact hb43 | exact Heap.fresh_set hb43 _) ?_
        refine AWP.frz (t := 6) rfl (by first | exact hb6 | exact Heap.fresh_set hb6 _) ?_
        refine AWP.ret ?_
        -- ret 2
        refine Ret.go (.cons (.cellI _ _ _ _ rfl Tryz.isAgg24 Tryz.sizeOf24 rfl) .nil) _ (Heap.le.refl _) ?_
        first | (exfalso; omega) | exact absurd trivial hc51 | (refine ⟨?_, rfl⟩; first | (rw [if_pos hc51]; rfl) | (rw [if_pos rfl]; rfl) | (rw [if_neg hc51]; rfl))

end Go.Proofs.YtifoddpbmlajfaaGreatDoor
