/-
  The six rows: for every input each law returns true, and each argument reads afterwards as it read before.
-/
import Derived.Test.YtdibiongjkmlpaaRows
import Derived.Test.YtdibiongjkmlpaaSr
import Derived.Test.YtdibiongjkmlpaaGt
namespace Go.Proofs.Ytdibiongjkmlpaa
open Go Go.ChangeShapes Go.WideShapes Go.ChangeAt Go.RowKit

theorem Try.own : ownKnob Try.prog.godebug = none := by kernel_rfl
theorem Try.laidOut : laidOutB Try.prog = true := by kernel_rfl
theorem Try.cells3 : Try.prog.cellsOf 3 = 1 := by kernel_rfl
theorem Try.cells57 : Try.prog.cellsOf 57 = 1 := by kernel_rfl
theorem Try.cells59 : Try.prog.cellsOf 59 = 2 := by kernel_rfl
theorem Try.cells62 : Try.prog.cellsOf 62 = 4 := by kernel_rfl

theorem wf64 {n : Int} (h : (Lit.int .i64 n).wf = true) : In64 n := by
  simp [Lit.wf, IntKind.min, IntKind.max, IntKind.bits, IntKind.signed] at h
  unfold In64; omega
theorem rd_q4 (W : World) : Rd Try.prog W 62 Q4.av Q4.ok := by
  intro H enc fuel x cs h
  obtain ⟨hl, hget⟩ := rd_elem Try.underlying62 h (rd_int Try.underlying3)
  rw [Try.cells62] at hl
  rw [Try.cells3] at hget
  match cs, hl with
  | [c0, c1, c2, c3], _ =>
    obtain ⟨a, ha, hra⟩ := hget 0 (by omega)
    obtain ⟨b, hb, hrb⟩ := hget 1 (by omega)
    obtain ⟨c, hc, hrc⟩ := hget 2 (by omega)
    obtain ⟨d, hd, hrd⟩ := hget 3 (by omega)
    refine ⟨⟨a, b, c, d⟩, ⟨wf64 ha, wf64 hb, wf64 hc, wf64 hd⟩, ?_⟩
    exact RelCells.pieces (n := 1) hra (RelCells.pieces (n := 1) hrb (RelCells.pieces (n := 1) hrc hrd))
set_option maxRecDepth 100000 in
theorem rd_node (W : World) : Rd Try.prog W 59 RNode.av RNode.ok := by
  intro H enc fuel x cs h
  obtain ⟨hl, hget⟩ := rd_field Try.underlying59 h
  rw [Try.cells59] at hl
  match cs, hl with
  | [c0, c1], _ =>
    obtain ⟨a, ha, hra⟩ := hget 0 _ rfl 0 1 rfl Try.cells3 (rd_int Try.underlying3)
    obtain ⟨q, hq, hrq⟩ := hget 1 _ rfl 1 1 rfl Try.cells57 (rd_slice (sz := 4) Try.underlying57 Try.cells62 (by omega) (fun q => ⟨rfl, rfl⟩) (rd_q4 W))
    exact ⟨⟨a, q⟩, ⟨wf64 ha, hq.1, hq.2⟩, RelCells.pieces (n := 1) hra hrq⟩
theorem rd_nodes (W : World) : Rd Try.prog W 22 (fun l : List RNode => .slice 2 (l.map RNode.av) .shared) (fun l => l.length ≤ maxLen ∧ ∀ r, r ∈ l → r.ok) :=
  rd_slice Try.underlying22 Try.cells59 (by omega) (fun r => ⟨rfl, rfl⟩) (rd_node W)
theorem rd_cells (W : World) : Rd Try.prog W 23 (fun l : List Int => .slice 1 (l.map (.int .i64)) .shared) (fun l => l.length ≤ maxLen ∧ ∀ n, n ∈ l → (Lit.int .i64 n).wf = true) :=
  rd_slice Try.underlying23 Try.cells3 (by omega) (fun n => ⟨rfl, rfl⟩) (rd_int Try.underlying3)

set_option maxRecDepth 100000 in
theorem Afters_lifted (os : Os) (started : os.Started) (H : Type) (enc : TypeId × Value → H) :
    ReturnsInHanded {} Try.checked os 3 .any (Rows.graphAftersSpec.pre6 enc Try.prog Try.f3 Rows.graphAftersRow.domain false) (Rows.graphAftersSpec.post enc Try.prog Try.f3 false true false false) := by
  refine returnsInHanded_of_change_sized (C := Try.checked) Try.own started (by kernel_rfl) Try.func3
    (ChangeSpec.witness6 (enc := enc) (C := Try.checked) false ⟨#[], #[.slice none 0 0, .slice none 0 0], []⟩ 8 (by kernel_rfl) (by kernel_rfl) (by kernel_rfl) (by kernel_rfl)) ?_
  intro W base args ds gs before hval0 hW _ _ _
  have hval : ∀ (j : Nat) t v, Try.f3.params[j]? = some t → args[j]? = some v → Value.okWide Try.prog W .any base t v := hval0
  have hW' := hW
  obtain ⟨p, q, hA0, hV, rfl, _, _⟩ := hW
  have hA : DataW.TrodAll enc Try.prog W 0 (fun _ => true) true Try.f3.params.toList args.toList ds p := hA0
  rw [Try.params3] at hA hval
  obtain ⟨v0, v1, d0, d1, p0, p1, rfl, rfl, rfl, h0, h1⟩ := trodAll_two hA
  obtain ⟨rfl, rfl⟩ := trodVars_none hV
  clear hA0 hval0
  simp only [List.append_nil] at hW'
  obtain ⟨a0, len0, cap0, rfl⟩ := okWide_slice Try.underlying22 (hval 0 22 v0 rfl rfl)
  obtain ⟨x0, hx0, hr0⟩ := rd_arg (rd_nodes W) h0 (fun _ => rfl) rfl
  obtain ⟨a1, len1, cap1, rfl⟩ := okWide_slice Try.underlying23 (hval 1 23 v1 rfl rfl)
  obtain ⟨x1, hx1, hr1⟩ := rd_arg (rd_cells W) h1 (fun _ => rfl) rfl
  have hlt : ∀ x ∈ p0 ++ p1, x.block < W.heap.size := fun x hx => by simpa using hW'.lt x hx
  have hargs : ∀ {t : TypeId} {v : Value} {d : DataW H} {ps : List MemPlace}, DataW.Trod enc Try.prog W 0 (fun _ => true) true t v d ps → (∀ x ∈ ps, x.block < W.heap.size) → Try.prog.readableRec t = true → t < Try.prog.types.size → ∀ W' : World, Below W.heap.size W W' → DataW.Trod enc Try.prog W' 0 (fun b => decide (b < W.heap.size)) true t v d ps :=
    fun h hl hr ht W' hn => Below.trod Try.laidOut hr ht h hn hl
  refine (law_calls (P := Try.prog) (f := 3) (fun H => Afters_calls x0 .shared hx0.1 hx0.2 x1 .shared hx1.1 (fun n hn => wf64 (hx1.2 n hn)) H) (relvs_c hr0 (relvs_c hr1 relvs_n))).mono fun e W' ⟨he, hn⟩ => ?_
  subst he
  exact ⟨_, rfl, _, _, _, [], _, [], hW', trodAll_mk1 (shut_bool Try.underlying4 true), trodAll_mk2 (hargs h0 (fun x hx => hlt x (by simp [hx])) (by kernel_rfl) (of_decide_eq_true (by kernel_rfl)) W' hn) (hargs h1 (fun x hx => hlt x (by simp [hx])) (by kernel_rfl) (of_decide_eq_true (by kernel_rfl)) W' hn), rfl, hn.frame _, fun h => by cases h⟩
theorem Afters_holds : Rows.GraphAftersSaid :=
  OpenClaim.holds_of_wide 3 Try.f3 rfl rfl rfl rfl rfl rfl rfl ⟨rfl, rfl, rfl, rfl, rfl⟩ rfl rfl rfl rfl rfl (by kernel_rfl) Try.func3 (by kernel_rfl)
    (of_decide_eq_true (by kernel_rfl)) (by unfold Func.isWrapper; first | (rw [if_pos (by decide +kernel)]; kernel_rfl) | (rw [if_neg (by decide +kernel)]; exact ⟨rfl, rfl⟩))
    (fun os started H enc _ => Afters_lifted os started H enc)

set_option maxRecDepth 100000 in
theorem Orders_lifted (os : Os) (started : os.Started) (H : Type) (enc : TypeId × Value → H) :
    ReturnsInHanded {} Try.checked os 4 .any (Rows.graphOrdersSpec.pre6 enc Try.prog Try.f4 Rows.graphOrdersRow.domain false) (Rows.graphOrdersSpec.post enc Try.prog Try.f4 false true false false) := by
  refine returnsInHanded_of_change_sized (C := Try.checked) Try.own started (by kernel_rfl) Try.func4
    (ChangeSpec.witness6 (enc := enc) (C := Try.checked) false ⟨#[], #[.slice none 0 0, .slice none 0 0], []⟩ 8 (by kernel_rfl) (by kernel_rfl) (by kernel_rfl) (by kernel_rfl)) ?_
  intro W base args ds gs before hval0 hW _ _ _
  have hval : ∀ (j : Nat) t v, Try.f4.params[j]? = some t → args[j]? = some v → Value.okWide Try.prog W .any base t v := hval0
  have hW' := hW
  obtain ⟨p, q, hA0, hV, rfl, _, _⟩ := hW
  have hA : DataW.TrodAll enc Try.prog W 0 (fun _ => true) true Try.f4.params.toList args.toList ds p := hA0
  rw [Try.params4] at hA hval
  obtain ⟨v0, v1, d0, d1, p0, p1, rfl, rfl, rfl, h0, h1⟩ := trodAll_two hA
  obtain ⟨rfl, rfl⟩ := trodVars_none hV
  clear hA0 hval0
  simp only [List.append_nil] at hW'
  obtain ⟨a0, len0, cap0, rfl⟩ := okWide_slice Try.underlying22 (hval 0 22 v0 rfl rfl)
  obtain ⟨x0, hx0, hr0⟩ := rd_arg (rd_nodes W) h0 (fun _ => rfl) rfl
  obtain ⟨a1, len1, cap1, rfl⟩ := okWide_slice Try.underlying23 (hval 1 23 v1 rfl rfl)
  obtain ⟨x1, hx1, hr1⟩ := rd_arg (rd_cells W) h1 (fun _ => rfl) rfl
  have hlt : ∀ x ∈ p0 ++ p1, x.block < W.heap.size := fun x hx => by simpa using hW'.lt x hx
  have hargs : ∀ {t : TypeId} {v : Value} {d : DataW H} {ps : List MemPlace}, DataW.Trod enc Try.prog W 0 (fun _ => true) true t v d ps → (∀ x ∈ ps, x.block < W.heap.size) → Try.prog.readableRec t = true → t < Try.prog.types.size → ∀ W' : World, Below W.heap.size W W' → DataW.Trod enc Try.prog W' 0 (fun b => decide (b < W.heap.size)) true t v d ps :=
    fun h hl hr ht W' hn => Below.trod Try.laidOut hr ht h hn hl
  refine (law_calls (P := Try.prog) (f := 4) (fun H => Orders_calls x0 .shared hx0.1 hx0.2 x1 .shared hx1.1 (fun n hn => wf64 (hx1.2 n hn)) H) (relvs_c hr0 (relvs_c hr1 relvs_n))).mono fun e W' ⟨he, hn⟩ => ?_
  subst he
  exact ⟨_, rfl, _, _, _, [], _, [], hW', trodAll_mk1 (shut_bool Try.underlying4 true), trodAll_mk2 (hargs h0 (fun x hx => hlt x (by simp [hx])) (by kernel_rfl) (of_decide_eq_true (by kernel_rfl)) W' hn) (hargs h1 (fun x hx => hlt x (by simp [hx])) (by kernel_rfl) (of_decide_eq_true (by kernel_rfl)) W' hn), rfl, hn.frame _, fun h => by cases h⟩
theorem Orders_holds : Rows.GraphOrdersSaid :=
  OpenClaim.holds_of_wide 4 Try.f4 rfl rfl rfl rfl rfl rfl rfl ⟨rfl, rfl, rfl, rfl, rfl⟩ rfl rfl rfl rfl rfl (by kernel_rfl) Try.func4 (by kernel_rfl)
    (of_decide_eq_true (by kernel_rfl)) (by unfold Func.isWrapper; first | (rw [if_pos (by decide +kernel)]; kernel_rfl) | (rw [if_neg (by decide +kernel)]; exact ⟨rfl, rfl⟩))
    (fun os started H enc _ => Orders_lifted os started H enc)

set_option maxRecDepth 100000 in
theorem Reaches_lifted (os : Os) (started : os.Started) (H : Type) (enc : TypeId × Value → H) :
    ReturnsInHanded {} Try.checked os 5 .any (Rows.graphReachesSpec.pre6 enc Try.prog Try.f5 Rows.graphReachesRow.domain false) (Rows.graphReachesSpec.post enc Try.prog Try.f5 false true false false) := by
  refine returnsInHanded_of_change_sized (C := Try.checked) Try.own started (by kernel_rfl) Try.func5
    (ChangeSpec.witness6 (enc := enc) (C := Try.checked) false ⟨#[], #[.slice none 0 0, .slice none 0 0], []⟩ 8 (by kernel_rfl) (by kernel_rfl) (by kernel_rfl) (by kernel_rfl)) ?_
  intro W base args ds gs before hval0 hW _ _ _
  have hval : ∀ (j : Nat) t v, Try.f5.params[j]? = some t → args[j]? = some v → Value.okWide Try.prog W .any base t v := hval0
  have hW' := hW
  obtain ⟨p, q, hA0, hV, rfl, _, _⟩ := hW
  have hA : DataW.TrodAll enc Try.prog W 0 (fun _ => true) true Try.f5.params.toList args.toList ds p := hA0
  rw [Try.params5] at hA hval
  obtain ⟨v0, v1, d0, d1, p0, p1, rfl, rfl, rfl, h0, h1⟩ := trodAll_two hA
  obtain ⟨rfl, rfl⟩ := trodVars_none hV
  clear hA0 hval0
  simp only [List.append_nil] at hW'
  obtain ⟨a0, len0, cap0, rfl⟩ := okWide_slice Try.underlying22 (hval 0 22 v0 rfl rfl)
  obtain ⟨x0, hx0, hr0⟩ := rd_arg (rd_nodes W) h0 (fun _ => rfl) rfl
  obtain ⟨a1, len1, cap1, rfl⟩ := okWide_slice Try.underlying23 (hval 1 23 v1 rfl rfl)
  obtain ⟨x1, hx1, hr1⟩ := rd_arg (rd_cells W) h1 (fun _ => rfl) rfl
  have hlt : ∀ x ∈ p0 ++ p1, x.block < W.heap.size := fun x hx => by simpa using hW'.lt x hx
  have hargs : ∀ {t : TypeId} {v : Value} {d : DataW H} {ps : List MemPlace}, DataW.Trod enc Try.prog W 0 (fun _ => true) true t v d ps → (∀ x ∈ ps, x.block < W.heap.size) → Try.prog.readableRec t = true → t < Try.prog.types.size → ∀ W' : World, Below W.heap.size W W' → DataW.Trod enc Try.prog W' 0 (fun b => decide (b < W.heap.size)) true t v d ps :=
    fun h hl hr ht W' hn => Below.trod Try.laidOut hr ht h hn hl
  refine (law_calls (P := Try.prog) (f := 5) (fun H => Reaches_calls x0 .shared hx0.1 hx0.2 x1 .shared hx1.1 (fun n hn => wf64 (hx1.2 n hn)) H) (relvs_c hr0 (relvs_c hr1 relvs_n))).mono fun e W' ⟨he, hn⟩ => ?_
  subst he
  exact ⟨_, rfl, _, _, _, [], _, [], hW', trodAll_mk1 (shut_bool Try.underlying4 true), trodAll_mk2 (hargs h0 (fun x hx => hlt x (by simp [hx])) (by kernel_rfl) (of_decide_eq_true (by kernel_rfl)) W' hn) (hargs h1 (fun x hx => hlt x (by simp [hx])) (by kernel_rfl) (of_decide_eq_true (by kernel_rfl)) W' hn), rfl, hn.frame _, fun h => by cases h⟩
theorem Reaches_holds : Rows.GraphReachesSaid :=
  OpenClaim.holds_of_wide 5 Try.f5 rfl rfl rfl rfl rfl rfl rfl ⟨rfl, rfl, rfl, rfl, rfl⟩ rfl rfl rfl rfl rfl (by kernel_rfl) Try.func5 (by kernel_rfl)
    (of_decide_eq_true (by kernel_rfl)) (by unfold Func.isWrapper; first | (rw [if_pos (by decide +kernel)]; kernel_rfl) | (rw [if_neg (by decide +kernel)]; exact ⟨rfl, rfl⟩))
    (fun os started H enc _ => Reaches_lifted os started H enc)

set_option maxRecDepth 100000 in
theorem Stands_lifted (os : Os) (started : os.Started) (H : Type) (enc : TypeId × Value → H) :
    ReturnsInHanded {} Try.checked os 6 .any (Rows.graphStandsSpec.pre6 enc Try.prog Try.f6 Rows.graphStandsRow.domain false) (Rows.graphStandsSpec.post enc Try.prog Try.f6 false true false false) := by
  refine returnsInHanded_of_change_sized (C := Try.checked) Try.own started (by kernel_rfl) Try.func6
    (ChangeSpec.witness6 (enc := enc) (C := Try.checked) false ⟨#[], #[.slice none 0 0, .slice none 0 0], []⟩ 8 (by kernel_rfl) (by kernel_rfl) (by kernel_rfl) (by kernel_rfl)) ?_
  intro W base args ds gs before hval0 hW _ _ _
  have hval : ∀ (j : Nat) t v, Try.f6.params[j]? = some t → args[j]? = some v → Value.okWide Try.prog W .any base t v := hval0
  have hW' := hW
  obtain ⟨p, q, hA0, hV, rfl, _, _⟩ := hW
  have hA : DataW.TrodAll enc Try.prog W 0 (fun _ => true) true Try.f6.params.toList args.toList ds p := hA0
  rw [Try.params6] at hA hval
  obtain ⟨v0, v1, d0, d1, p0, p1, rfl, rfl, rfl, h0, h1⟩ := trodAll_two hA
  obtain ⟨rfl, rfl⟩ := trodVars_none hV
  clear hA0 hval0
  simp only [List.append_nil] at hW'
  obtain ⟨a0, len0, cap0, rfl⟩ := okWide_slice Try.underlying22 (hval 0 22 v0 rfl rfl)
  obtain ⟨x0, hx0, hr0⟩ := rd_arg (rd_nodes W) h0 (fun _ => rfl) rfl
  obtain ⟨a1, len1, cap1, rfl⟩ := okWide_slice Try.underlying23 (hval 1 23 v1 rfl rfl)
  obtain ⟨x1, hx1, hr1⟩ := rd_arg (rd_cells W) h1 (fun _ => rfl) rfl
  have hlt : ∀ x ∈ p0 ++ p1, x.block < W.heap.size := fun x hx => by simpa using hW'.lt x hx
  have hargs : ∀ {t : TypeId} {v : Value} {d : DataW H} {ps : List MemPlace}, DataW.Trod enc Try.prog W 0 (fun _ => true) true t v d ps → (∀ x ∈ ps, x.block < W.heap.size) → Try.prog.readableRec t = true → t < Try.prog.types.size → ∀ W' : World, Below W.heap.size W W' → DataW.Trod enc Try.prog W' 0 (fun b => decide (b < W.heap.size)) true t v d ps :=
    fun h hl hr ht W' hn => Below.trod Try.laidOut hr ht h hn hl
  refine (law_calls (P := Try.prog) (f := 6) (fun H => Stands_calls x0 .shared hx0.1 hx0.2 x1 .shared hx1.1 (fun n hn => wf64 (hx1.2 n hn)) H) (relvs_c hr0 (relvs_c hr1 relvs_n))).mono fun e W' ⟨he, hn⟩ => ?_
  subst he
  exact ⟨_, rfl, _, _, _, [], _, [], hW', trodAll_mk1 (shut_bool Try.underlying4 true), trodAll_mk2 (hargs h0 (fun x hx => hlt x (by simp [hx])) (by kernel_rfl) (of_decide_eq_true (by kernel_rfl)) W' hn) (hargs h1 (fun x hx => hlt x (by simp [hx])) (by kernel_rfl) (of_decide_eq_true (by kernel_rfl)) W' hn), rfl, hn.frame _, fun h => by cases h⟩
theorem Stands_holds : Rows.GraphStandsSaid :=
  OpenClaim.holds_of_wide 6 Try.f6 rfl rfl rfl rfl rfl rfl rfl ⟨rfl, rfl, rfl, rfl, rfl⟩ rfl rfl rfl rfl rfl (by kernel_rfl) Try.func6 (by kernel_rfl)
    (of_decide_eq_true (by kernel_rfl)) (by unfold Func.isWrapper; first | (rw [if_pos (by decide +kernel)]; kernel_rfl) | (rw [if_neg (by decide +kernel)]; exact ⟨rfl, rfl⟩))
    (fun os started H enc _ => Stands_lifted os started H enc)

set_option maxRecDepth 100000 in
theorem Sets_lifted (os : Os) (started : os.Started) (H : Type) (enc : TypeId × Value → H) :
    ReturnsInHanded {} Try.checked os 7 .any (Rows.graphSetsSpec.pre6 enc Try.prog Try.f7 Rows.graphSetsRow.domain false) (Rows.graphSetsSpec.post enc Try.prog Try.f7 false true false false) := by
  refine returnsInHanded_of_change_sized (C := Try.checked) Try.own started (by kernel_rfl) Try.func7
    (ChangeSpec.witness6 (enc := enc) (C := Try.checked) false ⟨#[], #[.slice none 0 0, .int .i64 0], []⟩ 8 (by kernel_rfl) (by kernel_rfl) (by kernel_rfl) (by kernel_rfl)) ?_
  intro W base args ds gs before hval0 hW _ _ _
  have hval : ∀ (j : Nat) t v, Try.f7.params[j]? = some t → args[j]? = some v → Value.okWide Try.prog W .any base t v := hval0
  have hW' := hW
  obtain ⟨p, q, hA0, hV, rfl, _, _⟩ := hW
  have hA : DataW.TrodAll enc Try.prog W 0 (fun _ => true) true Try.f7.params.toList args.toList ds p := hA0
  rw [Try.params7] at hA hval
  obtain ⟨v0, v1, d0, d1, p0, p1, rfl, rfl, rfl, h0, h1⟩ := trodAll_two hA
  obtain ⟨rfl, rfl⟩ := trodVars_none hV
  clear hA0 hval0
  simp only [List.append_nil] at hW'
  obtain ⟨a0, len0, cap0, rfl⟩ := okWide_slice Try.underlying22 (hval 0 22 v0 rfl rfl)
  obtain ⟨x0, hx0, hr0⟩ := rd_arg (rd_nodes W) h0 (fun _ => rfl) rfl
  obtain ⟨x1, rfl, _, _, wx1⟩ := open_int Try.underlying3 (hval 1 3 v1 rfl rfl) h1
  have hr1 : RelV (g0 W) (.int .i64 x1) (.int .i64 x1) := .int _ _
  have hlt : ∀ x ∈ p0 ++ p1, x.block < W.heap.size := fun x hx => by simpa using hW'.lt x hx
  have hargs : ∀ {t : TypeId} {v : Value} {d : DataW H} {ps : List MemPlace}, DataW.Trod enc Try.prog W 0 (fun _ => true) true t v d ps → (∀ x ∈ ps, x.block < W.heap.size) → Try.prog.readableRec t = true → t < Try.prog.types.size → ∀ W' : World, Below W.heap.size W W' → DataW.Trod enc Try.prog W' 0 (fun b => decide (b < W.heap.size)) true t v d ps :=
    fun h hl hr ht W' hn => Below.trod Try.laidOut hr ht h hn hl
  refine (law_calls (P := Try.prog) (f := 7) (fun H => Sets_calls x0 .shared hx0.1 hx0.2 x1 (wf64 wx1) H) (relvs_c hr0 (relvs_c hr1 relvs_n))).mono fun e W' ⟨he, hn⟩ => ?_
  subst he
  exact ⟨_, rfl, _, _, _, [], _, [], hW', trodAll_mk1 (shut_bool Try.underlying4 true), trodAll_mk2 (hargs h0 (fun x hx => hlt x (by simp [hx])) (by kernel_rfl) (of_decide_eq_true (by kernel_rfl)) W' hn) (hargs h1 (fun x hx => hlt x (by simp [hx])) (by kernel_rfl) (of_decide_eq_true (by kernel_rfl)) W' hn), rfl, hn.frame _, fun h => by cases h⟩
theorem Sets_holds : Rows.GraphSetsSaid :=
  OpenClaim.holds_of_wide 7 Try.f7 rfl rfl rfl rfl rfl rfl rfl ⟨rfl, rfl, rfl, rfl, rfl⟩ rfl rfl rfl rfl rfl (by kernel_rfl) Try.func7 (by kernel_rfl)
    (of_decide_eq_true (by kernel_rfl)) (by unfold Func.isWrapper; first | (rw [if_pos (by decide +kernel)]; kernel_rfl) | (rw [if_neg (by decide +kernel)]; exact ⟨rfl, rfl⟩))
    (fun os started H enc _ => Sets_lifted os started H enc)

set_option maxRecDepth 100000 in
theorem Keeps_lifted (os : Os) (started : os.Started) (H : Type) (enc : TypeId × Value → H) :
    ReturnsInHanded {} Try.checked os 8 .any (Rows.graphKeepsSpec.pre6 enc Try.prog Try.f8 Rows.graphKeepsRow.domain false) (Rows.graphKeepsSpec.post enc Try.prog Try.f8 false true false false) := by
  refine returnsInHanded_of_change_sized (C := Try.checked) Try.own started (by kernel_rfl) Try.func8
    (ChangeSpec.witness6 (enc := enc) (C := Try.checked) false ⟨#[], #[.slice none 0 0, .int .i64 0, .slice none 0 0], []⟩ 8 (by kernel_rfl) (by kernel_rfl) (by kernel_rfl) (by kernel_rfl)) ?_
  intro W base args ds gs before hval0 hW _ _ _
  have hval : ∀ (j : Nat) t v, Try.f8.params[j]? = some t → args[j]? = some v → Value.okWide Try.prog W .any base t v := hval0
  have hW' := hW
  obtain ⟨p, q, hA0, hV, rfl, _, _⟩ := hW
  have hA : DataW.TrodAll enc Try.prog W 0 (fun _ => true) true Try.f8.params.toList args.toList ds p := hA0
  rw [Try.params8] at hA hval
  obtain ⟨v0, v1, v2, d0, d1, d2, p0, p1, p2, rfl, rfl, rfl, h0, h1, h2⟩ := trodAll_three hA
  obtain ⟨rfl, rfl⟩ := trodVars_none hV
  clear hA0 hval0
  simp only [List.append_nil] at hW'
  obtain ⟨a0, len0, cap0, rfl⟩ := okWide_slice Try.underlying22 (hval 0 22 v0 rfl rfl)
  obtain ⟨x0, hx0, hr0⟩ := rd_arg (rd_nodes W) h0 (fun _ => rfl) rfl
  obtain ⟨x1, rfl, _, _, wx1⟩ := open_int Try.underlying3 (hval 1 3 v1 rfl rfl) h1
  have hr1 : RelV (g0 W) (.int .i64 x1) (.int .i64 x1) := .int _ _
  obtain ⟨a2, len2, cap2, rfl⟩ := okWide_slice Try.underlying23 (hval 2 23 v2 rfl rfl)
  obtain ⟨x2, hx2, hr2⟩ := rd_arg (rd_cells W) h2 (fun _ => rfl) rfl
  have hlt : ∀ x ∈ p0 ++ p1 ++ p2, x.block < W.heap.size := fun x hx => by simpa using hW'.lt x hx
  have hargs : ∀ {t : TypeId} {v : Value} {d : DataW H} {ps : List MemPlace}, DataW.Trod enc Try.prog W 0 (fun _ => true) true t v d ps → (∀ x ∈ ps, x.block < W.heap.size) → Try.prog.readableRec t = true → t < Try.prog.types.size → ∀ W' : World, Below W.heap.size W W' → DataW.Trod enc Try.prog W' 0 (fun b => decide (b < W.heap.size)) true t v d ps :=
    fun h hl hr ht W' hn => Below.trod Try.laidOut hr ht h hn hl
  refine (law_calls (P := Try.prog) (f := 8) (fun H => Keeps_calls x0 .shared hx0.1 hx0.2 x1 (wf64 wx1) x2 .shared hx2.1 (fun n hn => wf64 (hx2.2 n hn)) H) (relvs_c hr0 (relvs_c hr1 (relvs_c hr2 relvs_n)))).mono fun e W' ⟨he, hn⟩ => ?_
  subst he
  exact ⟨_, rfl, _, _, _, [], _, [], hW', trodAll_mk1 (shut_bool Try.underlying4 true), trodAll_mk3 (hargs h0 (fun x hx => hlt x (by simp [hx])) (by kernel_rfl) (of_decide_eq_true (by kernel_rfl)) W' hn) (hargs h1 (fun x hx => hlt x (by simp [hx])) (by kernel_rfl) (of_decide_eq_true (by kernel_rfl)) W' hn) (hargs h2 (fun x hx => hlt x (by simp [hx])) (by kernel_rfl) (of_decide_eq_true (by kernel_rfl)) W' hn), rfl, hn.frame _, fun h => by cases h⟩
theorem Keeps_holds : Rows.GraphKeepsSaid :=
  OpenClaim.holds_of_wide 8 Try.f8 rfl rfl rfl rfl rfl rfl rfl ⟨rfl, rfl, rfl, rfl, rfl⟩ rfl rfl rfl rfl rfl (by kernel_rfl) Try.func8 (by kernel_rfl)
    (of_decide_eq_true (by kernel_rfl)) (by unfold Func.isWrapper; first | (rw [if_pos (by decide +kernel)]; kernel_rfl) | (rw [if_neg (by decide +kernel)]; exact ⟨rfl, rfl⟩))
    (fun os started H enc _ => Keeps_lifted os started H enc)

end Go.Proofs.Ytdibiongjkmlpaa
