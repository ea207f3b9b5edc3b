/-
  The evaluator of closed calls, part 8: append, copy and calls come to what 'evM' says; one operation is sound.
-/
import Derived.Test.YtojblnldfdeefaaGreatDoorE3
namespace Go.Proofs.YtojblnldfdeefaaGreatDoor.Cc
open Go Go.RowKit

def RelVs (g : G) (xs : List V) (vs : List Value) : Prop := xs.length = vs.length ∧ ∀ (i : Nat) x v, xs[i]? = some x → vs[i]? = some v → RelV g x v
theorem RelVs.append {g : G} {xs ys : List V} {vs us : List Value} (h : RelVs g xs vs) (k : RelVs g ys us) : RelVs g (xs ++ ys) (vs ++ us) := by
  refine ⟨by simp [h.1, k.1], fun i x v hx hv => ?_⟩
  rw [List.getElem?_append] at hx hv
  rw [h.1] at hx
  split at hx
  · rename_i hlt; rw [if_pos hlt] at hv; exact h.2 i x v hx hv
  · rename_i hlt; rw [if_neg hlt] at hv; exact k.2 _ x v hx hv
def ACall (P : Program) (ng : Con) (f : FuncId) (xs : List V) (H : Heap) (r : V) (H' : Heap) : Prop :=
  ∀ g vs w, g.ng = ng → RelVs g xs vs → Sat g H w → Calls P f vs.toArray w (fun e w' => ∃ v, e = .returned v ∧ ∃ g', g.le g' ∧ RelV g' r v ∧ Sat g' H' w')
def VCall (P : Program) (ng : Con) (f : FuncId) (xs : List V) (H : Heap) (r : V) (H' : Heap) : Prop :=
  ∀ g vs w, g.ng = ng → RelVs g xs vs → Sat g H w → ∃ v w', (callFunc f vs.toArray).run P w = .ok (.value v) w' ∧ ∃ g', g.le g' ∧ RelV g' r v ∧ Sat g' H' w'
def Enters (P : Program) (f : FuncId) : Prop := ∀ args w, (callFunc f args).run P w = .ok (.enter f args) w
def OCall (P : Program) (ng : Con) (f : FuncId) (xs : List V) (H : Heap) (r : V) (H' : Heap) : Prop :=
  (ACall P ng f xs H r H' ∧ Enters P f) ∨ VCall P ng f xs H r H'
def CallOK (P : Program) (ng : Con) (call : CallF) : Prop :=
  ∀ f xs H r H', call f xs H = some (r, H') → OCall P ng f xs H r H'

section
variable {P : Program} {ti : TI} (ok : TIok P ti) {ng : Con} {e : Lk} {dst : Option Tmp} {ty : TypeId} {pos : String} {af : Array Edge} {gd : Option (Nat × Bool)}

theorem ext_left {α : Type} (A B : Array α) : (A ++ B).extract 0 A.size = A := by
  apply Array.toList_inj.1
  simp
theorem take_all {α : Type} {us : Array α} {k : Nat} (h : us.size = k) : us.extract 0 k = us := by subst h; simp
include ok
theorem m_append {T T' E : TypeId} {i i' j : TyI} {x y : Operand} {vx vy r : V} {ys : List V} {H H' : Heap} (hT : ti T = some i) (hu : i.und = .slice E) (hT' : ti T' = some i') (hu' : listy i'.und = true) (hj : ti E = some j)
    (hx : evO ng e x = some vx) (hy : evO ng e y = some vy) (hs : srcCells H j.size vy = some ys) (hzl : j.zero.lays = true) (hzc : j.zero.cells.length = j.size) (h : evAppend H E j vx ys = some (r, H')) :
    AStep P ng ⟨dst, .call { callee := .builtin .append, args := #[x, y], argTypes := #[T, T'] }, ty, pos, af, gd⟩ e H r H' := by
  refine AStep.of fun g a w hg k st => ?_
  subst hg
  obtain ⟨v, hex, hv⟩ := evO_at hx k
  obtain ⟨u, hey, hu2⟩ := evO_at hy k
  obtain ⟨us, n, hl1, hl2, hus, hfirst⟩ := src_spec (P := P) st hs hu2
  have husz : us.size = n * j.size := by rw [← hus.1]; exact hl2
  have hfirst' : ∀ w', w'.heap = w.heap → (Builtin.firstCells j.size n (a.eval y)).run P w' = .ok us w' := fun w' hw => by
    rw [hey, hfirst n (Nat.le_refl _) w' hw, take_all husz]
  have hlen : Builtin.lenOf (a.eval y) = (pure n : Sem Nat) := by rw [hey]; exact hl1
  unfold evAppend at h
  split at h
  · -- nothing is appended
    have hn0 : n * j.size = 0 := by rw [← hl2]; rfl
    cases hs0 : Nat.blt 0 j.size with
    | false => rw [hs0] at h; cases h
    | true =>
      rw [hs0] at h
      have hs0 : 0 < j.size := by simpa [Nat.blt_eq] using hs0
      have hn : n = 0 := by
        rcases Nat.eq_zero_or_pos n with h1 | h1
        · exact h1
        · have := Nat.mul_pos h1 hs0; omega
      subst hn
      have hz : us = #[] := by apply Array.eq_empty_of_size_eq_zero; omega
      subst hz
      have same : ∀ base L C, v = .slice base L C → L ≤ C → (execOp a.eval ⟨dst, .call { callee := .builtin .append, args := #[x, y], argTypes := #[T, T'] }, ty, pos, af, gd⟩).run P w = .ok (.value v) w := by
        intro base L C hv0 hLC
        subst hv0
        have := run_append_in (dst := dst) (ty := ty) (pos := pos) (af := af) (gd := gd) (w' := w) ok hT hu hT' hu' hj hex hlen (hfirst' w rfl) (show L + 0 ≤ C from hLC) (fun b _ => rfl) (fun _ => rfl)
        simpa using this
      have hv' := hv
      simp only [cond] at h
      cases hv <;> simp only at h <;> first | (cases h; done) | skip
      · cases h; exact ⟨_, w, g, same _ _ _ rfl (Nat.le_refl _), G.le.refl g, hv', st⟩
      · cases h; exact ⟨_, w, g, same _ _ _ rfl (Nat.le_refl _), G.le.refl g, hv', st⟩
      · rename_i hl _ _ _; cases h; exact ⟨_, w, g, same _ _ _ rfl (by assumption), G.le.refl g, hv', st⟩
  · -- something is
    rename_i hne
    cases hb : (Nat.blt 0 j.size && (Nat.blt 0 j.bytes && (Nat.beq (Nat.mod ys.length j.size) 0 && ys.all V.one))) with
    | false => rw [hb] at h; cases h
    | true =>
      rw [hb] at h
      simp only [cond] at h
      simp only [Bool.and_eq_true] at hb
      have hs0 : 0 < j.size := by simpa [Nat.blt_eq] using hb.1
      have hb0 : 0 < j.bytes := by simpa [Nat.blt_eq] using hb.2.1
      have hone := hb.2.2.2
      have hdiv : Nat.div ys.length j.size = n := by
        show ys.length / j.size = n
        rw [hl2]; exact Nat.mul_div_cancel _ hs0
      rw [hdiv] at h
      have hnpos : 0 < n := by
        rcases Nat.eq_zero_or_pos n with h1 | h1
        · rw [h1] at hl2
          exfalso
          apply hne
          exact List.eq_nil_of_length_eq_zero (by simpa using hl2)
        · exact h1
      -- out of nothing
      have fresh : ∀ base, v = .slice base 0 0 → (∀ w', (Builtin.firstCells j.size 0 (.slice base 0 0)).run P w' = .ok #[] w') → Nat.ble (n * j.bytes) roomy = true →
          ∃ v w' g', (execOp a.eval ⟨dst, .call { callee := .builtin .append, args := #[x, y], argTypes := #[T, T'] }, ty, pos, af, gd⟩).run P w = .ok (.value v) w' ∧ g.le g' ∧ RelV g' (.sl j.size H.nn 0 n) v ∧ Sat g' (H.new (.cells E ys false false)) w' := by
        intro base hv0 hf0 hroom
        subst hv0
        obtain ⟨nc, vs, c1, c2, c3, hrun⟩ := run_append_grow (dst := dst) (ty := ty) (pos := pos) (af := af) (gd := gd) ok (L := 0) (C := 0) (os := #[]) hT hu hT' hu' hj hex hlen hfirst' (fun w' _ => hf0 w') (by omega) (by omega) (by rw [Nat.zero_add]; exact Nat.le_of_ble_eq_true hroom) hzl hzc
        rw [Nat.zero_add] at c1 c3 hrun
        have hsz : (#[] ++ us ++ vs : Array Value).size = nc * j.size := by
          simp [husz, c3]
          have : n * j.size ≤ nc * j.size := Nat.mul_le_mul_right _ c1
          omega
        have hnb := st.nn_not_bn
        have nm : (g.name H.nn w.heap.size (nc * j.size) hnb).nm H.nn = w.heap.size := if_pos rfl
        refine ⟨_, _, g.name H.nn w.heap.size (nc * j.size) hnb, hrun, g.le_name _ _ _ _, ?_, st.drew.new _ (by simp) hnb ?_⟩
        · have := RelV.sl (g := g.name H.nn w.heap.size (nc * j.size) hnb) j.size H.nn 0 n nc (by simp [G.name]) (by rw [Nat.zero_add]; exact (if_pos rfl).symm) c1 c2
          rwa [nm] at this
        · refine ⟨#[] ++ us ++ vs, (0, 0), ⟨_, ?_, fun _ => rfl⟩, fun _ => .inl rfl, ?_, ?_, by simp, ?_⟩
          · rw [show (g.name H.nn w.drew.heap.size (nc * j.size) hnb).nm H.nn = w.heap.size from if_pos rfl]
            show (w.heap.push _)[w.heap.size]? = _
            simp
          · rw [hsz]; exact (if_pos rfl).symm
          · rw [hsz, hl2]; exact Nat.mul_le_mul_right _ c1
          · have : (#[] ++ us ++ vs : Array Value).extract 0 ys.length = us := by
              rw [hl2, ← husz]
              simp
            rw [this]
            exact hus.mono (g.le_name _ _ _ _)
      cases hv <;> simp only at h <;> first | (cases h; done) | skip
      case nilS =>
        obtain ⟨hr, h⟩ := cond_some h
        cases h
        exact fresh none rfl (fun w' => by simp [Builtin.firstCells]) hr
      case voidS p =>
        obtain ⟨hr, h⟩ := cond_some h
        cases h
        exact fresh (some p) rfl (fun w' => by simp [Builtin.firstCells, loadCells, loadCellsFrom]) hr
      case sl sz m o len cap hbn hvs hlc hcm =>
        cases hq : (Nat.beq sz j.size && Nat.ble ((len + Nat.div ys.length sz) * j.bytes) roomy) with
        | false => rw [hq] at h; cases h
        | true =>
          rw [hq] at h
          simp only [] at h
          simp only [Bool.and_eq_true] at hq
          have hszj := Nat.eq_of_beq_eq_true hq.1
          subst hszj
          rw [hdiv] at hq h
          have hroom := Nat.le_of_ble_eq_true hq.2
          split at h <;> first | (cases h; done) | skip
          rename_i S cs ex ro hm
          obtain ⟨vs, fz, ⟨T1, a1, aT⟩, a2, a3, a4, a5, a6⟩ := st.at_ _ _ hm
          rw [hl2] at h
          have hmul : (len + n) * j.size = len * j.size + n * j.size := Nat.add_mul _ _ _
          cases hfitc : Nat.ble (o + len * j.size + n * j.size) cs.length with
          | true =>
            rw [hfitc] at h
            have hfitc := Nat.le_of_ble_eq_true hfitc
            cases ro with
            | true => cases h
            | false =>
              cases h
              have hcap : len + n ≤ cap := by
                have : (len + n) * j.size ≤ cap * j.size := by omega
                exact Nat.le_of_mul_le_mul_right this hs0
              obtain ⟨w', hrun, st'⟩ := store_at (P := P) (o := o + len * j.size) st hm hus hone (by omega)
              refine ⟨_, w', g, run_append_in ok hT hu hT' hu' hj hex hlen (hfirst' w rfl) hcap (fun b hbb => ?_) (fun hbb => by cases hbb), G.le.refl g, .sl j.size m o (len + n) cap hbn hvs hcap hcm, st'⟩
              cases hbb
              rw [Addr.add_off]; exact hrun
          | false =>
            rw [hfitc] at h
            have hfitc : ¬ (o + len * j.size + n * j.size ≤ cs.length) := fun hh => by rw [Nat.ble_eq_true_of_le hh] at hfitc; cases hfitc
            simp only [] at h
            cases ex with
            | true =>
              simp only at h
              obtain ⟨ho, h⟩ := cond_some h
              cases h
              have ho := Nat.le_of_ble_eq_true ho
              have hcl := a5 rfl
              have hC : cap < len + n := by
                rcases Nat.lt_or_ge cap (len + n) with h1 | h1
                · exact h1
                · have := Nat.mul_le_mul_right j.size h1
                  omega
              have hold : ∀ w', w'.heap = w.heap → (Builtin.firstCells j.size len (.slice (some ⟨g.nm m, o, none⟩) len cap)).run P w' = .ok (vs.extract o (o + len * j.size)) w' := fun w' hw => run_cells (w := w') (by rw [hw]; exact a1) (by omega)
              obtain ⟨nc, us2, c1, c2, c3, hrun⟩ := run_append_grow (dst := dst) (ty := ty) (pos := pos) (af := af) (gd := gd) ok hT hu hT' hu' hj hex hlen hfirst' hold hC (by omega) hroom hzl hzc
              have hos : (vs.extract o (o + len * j.size)).size = len * j.size := by simp; omega
              have hsz : (vs.extract o (o + len * j.size) ++ us ++ us2 : Array Value).size = nc * j.size := by
                rw [Array.size_append, Array.size_append, hos, husz, c3]
                have : (len + n) * j.size ≤ nc * j.size := Nat.mul_le_mul_right _ c1
                omega
              have hnb := st.nn_not_bn
              have nm : (g.name H.nn w.heap.size (nc * j.size) hnb).nm H.nn = w.heap.size := if_pos rfl
              have hcells := (RelCells.sub a4 a6 ho).append hus
              refine ⟨_, _, g.name H.nn w.heap.size (nc * j.size) hnb, hrun, g.le_name _ _ _ _, ?_, st.drew.new _ (by simp) hnb ?_⟩
              · have := RelV.sl (g := g.name H.nn w.heap.size (nc * j.size) hnb) j.size H.nn 0 (len + n) nc (by simp [G.name]) (by rw [Nat.zero_add]; exact (if_pos rfl).symm) c1 c2
                rwa [nm] at this
              · have hcl2 : ((cs.drop o).take (len * j.size) ++ ys).length = (vs.extract o (o + len * j.size) ++ us).size := hcells.1
                refine ⟨vs.extract o (o + len * j.size) ++ us ++ us2, (0, 0), ⟨_, ?_, fun _ => rfl⟩, fun _ => .inl rfl, ?_, ?_, by simp, ?_⟩
                · rw [show (g.name H.nn w.drew.heap.size (nc * j.size) hnb).nm H.nn = w.heap.size from if_pos rfl]
                  show (w.heap.push _)[w.heap.size]? = _
                  simp
                · rw [hsz]; exact (if_pos rfl).symm
                · rw [hcl2]; simp
                · rw [hcl2]
                  have : (vs.extract o (o + len * j.size) ++ us ++ us2 : Array Value).extract 0 (vs.extract o (o + len * j.size) ++ us).size = vs.extract o (o + len * j.size) ++ us := by
                    exact ext_left _ _
                  rw [this]
                  exact hcells.mono (g.le_name _ _ _ _)
            | false =>
              simp only at h
              obtain ⟨hc0, h⟩ := cond_some h
              cases h
              simp only [Bool.and_eq_true, Bool.not_eq_true'] at hc0
              obtain ⟨ho0, hl0, hro, hSE⟩ := hc0
              have hSE := Nat.eq_of_beq_eq_true hSE
              subst hSE
              have ho0 := Nat.eq_of_beq_eq_true ho0
              have hl0 := Nat.eq_of_beq_eq_true hl0
              subst hro
              subst ho0
              have hfz := a2 rfl
              obtain rfl := aT rfl
              have hnb := st.nn_not_bn
              have hmn : m ≠ H.nn := by rintro rfl; rw [st.fresh _ (Nat.le_refl _)] at hm; cases hm
              have hcl : cs.length ≤ vs.size := a4
              have h00 : RelCells g cs (vs.extract 0 (len * j.size)) := by rw [hl0]; exact a6
              by_cases hC : cap < len + n
              · have hold : ∀ w', w'.heap = w.heap → (Builtin.firstCells j.size len (.slice (some ⟨g.nm m, 0, none⟩) len cap)).run P w' = .ok (vs.extract 0 (0 + len * j.size)) w' := fun w' hw => run_cells (w := w') (by rw [hw]; exact a1) (by omega)
                rw [Nat.zero_add] at hold
                obtain ⟨nc, us2, c1, c2, c3, hrun⟩ := run_append_grow (dst := dst) (ty := ty) (pos := pos) (af := af) (gd := gd) ok hT hu hT' hu' hj hex hlen hfirst' hold hC (by omega) hroom hzl hzc
                have hos : (vs.extract 0 (len * j.size)).size = len * j.size := by simp; omega
                have hsz : (vs.extract 0 (len * j.size) ++ us ++ us2 : Array Value).size = nc * j.size := by
                  rw [Array.size_append, Array.size_append, hos, husz, c3]
                  have : (len + n) * j.size ≤ nc * j.size := Nat.mul_le_mul_right _ c1
                  omega
                have nm : (g.name H.nn w.heap.size (nc * j.size) hnb).nm H.nn = w.heap.size := if_pos rfl
                have hcells := h00.append hus
                have hcl2 : (cs ++ ys).length = (vs.extract 0 (len * j.size) ++ us).size := hcells.1
                refine ⟨_, _, g.name H.nn w.heap.size (nc * j.size) hnb, hrun, g.le_name _ _ _ _, ?_, st.drew.moveAt (b := w.heap.size) (k := nc * j.size) hm rfl (by simp) hnb rfl rfl rfl (by simp) (.inr (Nat.le_refl _)) (by simp) (fun q hq _ => Below.heap_alloc w.drew _ q hq) ?_⟩
                · have := RelV.sl (g := g.name H.nn w.heap.size (nc * j.size) hnb) j.size H.nn 0 (len + n) nc (by simp [G.name]) (by rw [Nat.zero_add]; exact (if_pos rfl).symm) c1 c2
                  rwa [nm] at this
                · refine ⟨vs.extract 0 (len * j.size) ++ us ++ us2, (0, 0), ⟨_, ?_, fun _ => rfl⟩, fun _ => .inl rfl, ?_, ?_, by simp, ?_⟩
                  · rw [nm]
                    show (w.heap.push _)[w.heap.size]? = _
                    simp
                  · rw [hsz]; exact (if_pos rfl).symm
                  · rw [hcl2]; simp
                  · rw [hcl2]
                    have : (vs.extract 0 (len * j.size) ++ us ++ us2 : Array Value).extract 0 (vs.extract 0 (len * j.size) ++ us).size = vs.extract 0 (len * j.size) ++ us := ext_left _ _
                    rw [this]
                    exact hcells.mono (g.le_name _ _ _ _)
              · have hcap : len + n ≤ cap := by omega
                have hcapm : (len + n) * j.size ≤ cap * j.size := Nat.mul_le_mul_right _ hcap
                have hrun := run_storeCells_th (P := P) (g.nm m) (len * j.size) _ fz us.toList 0 vs w a1 hfz (by simp; omega) (hus.one_cells hone)
                simp only [Nat.add_zero] at hrun
                have nm : (g.name H.nn (g.nm m) (g.vs m) hnb).nm H.nn = g.nm m := if_pos rfl
                have hlt : g.nm m < w.heap.size := (Array.getElem?_eq_some_iff.1 a1).1
                refine ⟨_, w.setRow (g.nm m) (vs.toList.take (len * j.size) ++ us.toList ++ vs.toList.drop (len * j.size + us.toList.length)).toArray, g.name H.nn (g.nm m) (g.vs m) hnb, run_append_in ok hT hu hT' hu' hj hex hlen (hfirst' w rfl) hcap (fun b hbb => ?_) (fun hbb => by cases hbb), g.le_name _ _ _ _, ?_,
                  st.moveAt (b := g.nm m) (k := g.vs m) hm rfl (by simp) hnb rfl rfl rfl (by simp) (.inl rfl) (by simpa using hlt) (fun q _ hq => setRow_other w _ q _ hq) ?_⟩
                · cases hbb
                  rw [Addr.add_off, Nat.zero_add]
                  exact hrun
                · have := RelV.sl (g := g.name H.nn (g.nm m) (g.vs m) hnb) j.size H.nn 0 (len + n) cap (by simp [G.name]) (by rw [hvs]; exact (if_pos rfl).symm) hcap hcm
                  rwa [nm] at this
                · have hrow : RelCells g (cs ++ ys) (vs.extract 0 (len * j.size) ++ us) := h00.append hus
                  have hcl2 : (cs ++ ys).length = (vs.extract 0 (len * j.size) ++ us).size := hrow.1
                  have hos : (vs.extract 0 (len * j.size)).size = len * j.size := by simp; omega
                  refine ⟨_, fz, ⟨_, by rw [nm]; exact setRow_heap w _ vs _ _ fz a1, fun _ => rfl⟩, fun _ => (by
                    have e : (vs.toList.take (len * j.size) ++ us.toList ++ vs.toList.drop (len * j.size + us.toList.length)).toArray.size = vs.size := by simp; omega
                    rw [e]; exact hfz), ?_, ?_, by simp, ?_⟩
                  · rw [show (g.name H.nn (g.nm m) (g.vs m) hnb).vs H.nn = g.vs m from if_pos rfl, ← a3]
                    simp; omega
                  · rw [hcl2, Array.size_append, hos, husz]; simp; omega
                  · have e1 : (vs.toList.take (len * j.size) ++ us.toList ++ vs.toList.drop (len * j.size + us.toList.length)).toArray.extract 0 (cs ++ ys).length = vs.extract 0 (len * j.size) ++ us := by
                      have e2 : (vs.toList.take (len * j.size) ++ us.toList ++ vs.toList.drop (len * j.size + us.toList.length)).toArray = (vs.extract 0 (len * j.size) ++ us) ++ (vs.toList.drop (len * j.size + us.toList.length)).toArray := by
                        apply Array.toList_inj.1
                        simp
                      rw [e2, hcl2]
                      exact ext_left _ _
                    rw [e1]
                    exact hrow.mono (g.le_name _ _ _ _)

theorem m_copy {T E : TypeId} {ts : Array TypeId} {i j : TyI} {x y : Operand} {sz n o len : Nat} {vy : V} {ys : List V} {S : TypeId} {cs : List V} {ex : Bool} {H : Heap} (hT : ti T = some i) (ht : ts[0]? = some T) (hu : i.und = .slice E) (hj : ti E = some j)
    (hx : evO ng e x = some (.sl sz n o len)) (hy : evO ng e y = some vy) (hs : srcCells H sz vy = some ys) (hn : H.get n = some (.cells S cs ex false)) (hs0 : 0 < sz) (hsz : j.size = sz) (ho : o + len * sz ≤ cs.length) (hone : ys.all V.one = true) :
    AStep P ng ⟨dst, .call { callee := .builtin .copy, args := #[x, y], argTypes := ts }, ty, pos, af, gd⟩ e H (.int .i64 (Nat.min (Nat.div ys.length sz) len)) (H.set n (.cells S (putRow cs o (ys.take (Nat.min (Nat.div ys.length sz) len * sz))) ex false)) := by
  refine AStep.of fun g a w hg k st => ?_
  subst hg
  obtain ⟨v, hex, hv⟩ := evO_at hx k
  obtain ⟨u, hey, hu2⟩ := evO_at hy k
  obtain ⟨us, q, hl1, hl2, hus, hfirst⟩ := src_spec (P := P) st hs hu2
  have husz : us.size = q * sz := by rw [← hus.1]; exact hl2
  have hdiv : Nat.div ys.length sz = q := by
    show ys.length / sz = q
    rw [hl2]; exact Nat.mul_div_cancel _ hs0
  rw [hdiv]
  have hmin : Nat.min q len ≤ q := Nat.min_le_left _ _
  have hmin2 : Nat.min q len ≤ len := Nat.min_le_right _ _
  have hm1 : Nat.min q len * sz ≤ q * sz := Nat.mul_le_mul_right _ hmin
  have hm2 : Nat.min q len * sz ≤ len * sz := Nat.mul_le_mul_right _ hmin2
  cases hv with
  | sl sz n o len cap hbn hvs hlc hcm =>
    have hpiece : RelCells g (ys.take (Nat.min q len * sz)) (us.extract 0 (Nat.min q len * sz)) := by
      have := hus.piece (o := 0) (k := Nat.min q len * sz) (by omega)
      simpa using this
    have hlen2 : (ys.take (Nat.min q len * sz)).length = Nat.min q len * sz := by simp; omega
    have h1 : (ys.take (Nat.min q len * sz)).all V.one = true := List.all_eq_true.2 fun x hx => List.all_eq_true.1 hone x (List.mem_of_mem_take hx)
    obtain ⟨w', hrun, st'⟩ := store_at (P := P) (o := o) st hn hpiece h1 (by omega)
    have u1 := ok.run_underlying hT
    rw [hu] at u1
    have hf := hfirst _ hmin w rfl
    refine ⟨.int .i64 (Nat.min q len), w', g, ?_, G.le.refl g, .int _ _, st'⟩
    simp only [execCall_builtin, builtin, Builtin.copy_]
    simp [ht, hex, hey, u1, hl1, ok.run_sizeOf hj, hsz, goInt]
    rw [hf]
    simp only [Result.andThen_ok]
    rw [hrun]
    rfl
omit ok in
theorem m_call {call : CallF} (hc : CallOK P ng call) {f : Operand} {as : Array Operand} {ts : Array TypeId} {fid : FuncId} {cap xs : List V} {r : V} {H H' : Heap} (hf : evO ng e f = some (.func fid cap)) (hx : evL ng e as.toList = some xs) (h : call fid (xs ++ cap) H = some (r, H')) :
    AStep P ng ⟨dst, .call { callee := .value f, args := as, argTypes := ts }, ty, pos, af, gd⟩ e H r H' := by
  intro g a w hg k st
  subst hg
  obtain ⟨v, hev, hv⟩ := evO_at hf k
  cases hv with
  | func f cap us hn hr =>
    obtain ⟨h1, h2⟩ := evL_rel k hx
    have hargs : RelVs g (xs ++ cap) (as.toList.map a.eval ++ us.toList) := RelVs.append ⟨by rw [h1]; simp, h2⟩ ⟨by simpa using hn, fun i c v hc hv => hr i c v hc (by simpa using hv)⟩
    have e : (as.toList.map a.eval ++ us.toList).toArray = as.map a.eval ++ us := by
      apply Array.ext'; simp
    rcases hc _ _ _ _ _ h with ⟨hcall, hent⟩ | hval
    · have hent : ∀ args w, (callFunc fid args).run P w = .ok (.enter fid args) w := hent
      have : (execOp a.eval ⟨dst, .call { callee := .value f, args := as, argTypes := ts }, ty, pos, af, gd⟩).run P w = .ok (.enter fid (as.map a.eval ++ us)) w := by
        simp [execOp, resolve, hev, Deferred.ofValue, invoke, hent]
      rw [this]
      have hc := hcall g _ w rfl hargs st
      rw [e] at hc
      exact hc
    · obtain ⟨v, w', hrun, g', q1, q2, q3⟩ := hval g _ w rfl hargs st
      rw [e] at hrun
      have : (execOp a.eval ⟨dst, .call { callee := .value f, args := as, argTypes := ts }, ty, pos, af, gd⟩).run P w = .ok (.value v) w' := by
        simp [execOp, resolve, hev, Deferred.ofValue, invoke, hrun]
      rw [this]
      exact ⟨g', q1, q2, q3⟩

omit ok in
theorem m_callM {call : CallF} (hc : CallOK P ng call) {f : Operand} {as : Array Operand} {ts : Array TypeId} {fid : FuncId} {fs xs : List V} {r : V} {H H' : Heap} (hf : evO ng e f = some (.meth fid fs)) (hx : evL ng e as.toList = some xs) (h : call fid (fs ++ xs) H = some (r, H')) :
    AStep P ng ⟨dst, .call { callee := .value f, args := as, argTypes := ts }, ty, pos, af, gd⟩ e H r H' := by
  intro g a w hg k st
  subst hg
  obtain ⟨v, hev, hv⟩ := evO_at hf k
  cases hv with
  | meth f fs us hn hr =>
    obtain ⟨h1, h2⟩ := evL_rel k hx
    have hargs : RelVs g (fs ++ xs) (us.toList ++ as.toList.map a.eval) := RelVs.append ⟨by simpa using hn, fun i c v hc hv => hr i c v hc (by simpa using hv)⟩ ⟨by rw [h1]; simp, h2⟩
    have e : (us.toList ++ as.toList.map a.eval).toArray = us ++ as.map a.eval := by
      apply Array.ext'; simp
    rcases hc _ _ _ _ _ h with ⟨hcall, hent⟩ | hval
    · have hent : ∀ args w, (callFunc fid args).run P w = .ok (.enter fid args) w := hent
      have : (execOp a.eval ⟨dst, .call { callee := .value f, args := as, argTypes := ts }, ty, pos, af, gd⟩).run P w = .ok (.enter fid (us ++ as.map a.eval)) w := by
        simp [execOp, resolve, hev, Deferred.ofValue, invoke, hent]
      rw [this]
      have hc := hcall g _ w rfl hargs st
      rw [e] at hc
      exact hc
    · obtain ⟨v, w', hrun, g', q1, q2, q3⟩ := hval g _ w rfl hargs st
      rw [e] at hrun
      have : (execOp a.eval ⟨dst, .call { callee := .value f, args := as, argTypes := ts }, ty, pos, af, gd⟩).run P w = .ok (.value v) w' := by
        simp [execOp, resolve, hev, Deferred.ofValue, invoke, hrun]
      rw [this]
      exact ⟨g', q1, q2, q3⟩

theorem evM_sound {call : CallF} (hc : CallOK P ng call) {o : Oper} {x : V} {H H' : Heap} (h : evM ti ng call e H o = some (x, H')) : AStep P ng o e H x H' := by
  obtain ⟨dst, op, ty, pos, af, gd⟩ := o
  cases op with
  | load T p =>
    simp only [evM, evM_load] at h
    split at h <;> first | (cases h; done) | skip
    rename_i n o i hp hT
    split at h <;> first | (cases h; done) | skip
    rename_i cs hn
    split at h <;> first | (cases h; done) | skip
    rename_i v hv
    cases h
    exact m_load ok hT hp hn hv
  | store T p y =>
    simp only [evM, evM_store] at h
    split at h <;> first | (cases h; done) | skip
    rename_i n o v i hp hy hT
    split at h <;> first | (cases h; done) | skip
    rename_i S cs ex hn
    obtain ⟨hb, h⟩ := cond_some h
    cases h
    simp only [Bool.and_eq_true] at hb
    exact m_store ok hT hp hy hn hb.1 (Nat.eq_of_beq_eq_true hb.2.1) (Nat.le_of_ble_eq_true hb.2.2)
  | slice T y lo hi mx =>
    cases mx with
    | some m => simp [evM, evM_slice] at h
    | none =>
      simp only [evM, evM_slice] at h
      split at h <;> first | (cases h; done) | skip
      rename_i i hT
      split at h <;> first | (cases h; done) | skip
      rename_i N E n o hu hy
      split at h <;> first | (cases h; done) | skip
      rename_i l hh j S cs ro hlo hhi hj hn
      obtain ⟨hb, h⟩ := cond_some h
      cases h
      simp only [Bool.and_eq_true] at hb
      exact m_sliceA ok hT hu hj hy hlo hhi hn (Nat.eq_of_beq_eq_true hb.1) (Nat.le_of_ble_eq_true hb.2.1) (Nat.le_of_ble_eq_true hb.2.2.1) (by simpa [Nat.blt_eq] using hb.2.2.2.1) (Nat.le_of_ble_eq_true hb.2.2.2.2)
  | convert S D y =>
    simp only [evM] at h
    cases hsl : isSl (evO ng e y) with
    | false => rw [hsl] at h; exact conv2_sound ok h
    | true =>
    rw [hsl] at h
    simp only [evM_convert, cond_true] at h
    split at h <;> first | (cases h; done) | skip
    rename_i i i' sz n o len hS hD hy
    split at h <;> first | (cases h; done) | skip
    rename_i E hu hu'
    split at h <;> first | (cases h; done) | skip
    rename_i j cs hE hn
    split at h <;> first | (cases h; done) | skip
    rename_i hju
    cases hb : (Nat.beq sz 1 && Nat.ble (o + len) cs.length) with
    | false => rw [hb] at h; cases h
    | true =>
      rw [hb] at h
      simp only [Bool.and_eq_true] at hb
      have hsz := Nat.eq_of_beq_eq_true hb.1
      subst hsz
      simp only [cond] at h
      split at h <;> first | (cases h; done) | skip
      rename_i s hs
      cases h
      exact m_text ok hS hD hu hu' hE hju hy hn (Nat.le_of_ble_eq_true hb.2) hs
  | range T y =>
    simp only [evM, evM_range] at h
    split at h <;> first | (cases h; done) | skip
    rename_i i s hT hy
    split at h <;> first | (cases h; done) | skip
    rename_i hu
    cases h
    exact m_range ok hT hu hy
  | next y b =>
    cases b with
    | false => simp [evM, evM_next] at h
    | true =>
      simp only [evM, evM_next] at h
      split at h <;> first | (cases h; done) | skip
      rename_i n hy
      split at h <;> first | (cases h; done) | skip
      rename_i s p hn
      cases hb : Nat.blt p s.length with
      | true =>
        rw [hb] at h
        cases h
        exact (m_next hy hn).1 (by simpa [Nat.blt_eq] using hb)
      | false =>
        rw [hb] at h
        cases h
        exact (m_next hy hn).2 (fun hlt => by
          have : Nat.blt p s.length = true := by simpa [Nat.blt_eq] using hlt
          rw [this] at hb; cases hb)
  | call c =>
    obtain ⟨cal, as, ts⟩ := c
    cases cal with
    | value f =>
      simp only [evM, evM_call, evM_value] at h
      split at h <;> first | (cases h; done) | skip
      · rename_i g cap xs hf hx
        exact m_call hc hf hx h
      · rename_i g cap xs hf hx
        exact m_callM hc hf hx h
    | builtin b =>
      simp only [evM, evM_call, evM_builtin] at h
      split at h
      · rename_i b' as' ts' y z T T' has hts
        have e1 : as = #[y, z] := Array.toList_inj.1 (by simpa using has)
        have e2 : ts = #[T, T'] := Array.toList_inj.1 (by simpa using hts)
        subst e1
        subst e2
        split at h <;> first | (cases h; done) | skip
        rename_i i i' vx vy hT hT' hx hy
        split at h <;> first | (cases h; done) | skip
        rename_i E hu
        cases hl : listy i'.und with
        | false => rw [hl] at h; cases h
        | true =>
          rw [hl] at h
          simp only [cond] at h
          split at h <;> first | (cases h; done) | skip
          rename_i j hj
          split at h <;> first | (cases h; done) | skip
          rename_i ys hs
          cases hb : (j.zero.lays && Nat.beq j.zero.cells.length j.size) with
          | false => rw [hb] at h; cases h
          | true =>
            rw [hb] at h
            simp only [Bool.and_eq_true] at hb
            exact m_append ok hT hu hT' hl hj hx hy hs hb.1 (Nat.eq_of_beq_eq_true hb.2) h
      · rename_i b' as' ts' y z T r has hts
        have e1 : as = #[y, z] := Array.toList_inj.1 (by simpa using has)
        have e2 : ts[0]? = some T := by
          have : ts.toList[0]? = some T := by rw [hts]; rfl
          simpa using this
        subst e1
        split at h <;> first | (cases h; done) | skip
        rename_i i sz n o len vy hT hx hy
        split at h <;> first | (cases h; done) | skip
        rename_i E hu
        split at h <;> first | (cases h; done) | skip
        rename_i j ys S cs ex hj hs hn
        obtain ⟨hb, h⟩ := cond_some h
        cases h
        simp only [Bool.and_eq_true] at hb
        exact m_copy ok hT e2 hu hj hx hy hs hn (by simpa [Nat.blt_eq] using hb.1) (Nat.eq_of_beq_eq_true hb.2.1) (Nat.le_of_ble_eq_true hb.2.2.2.1) hb.2.2.2.2
      · cases h
    | _ => simp [evM, evM_call] at h
  | _ => simp [evM] at h
theorem evStep_sound {call : CallF} (hc : CallOK P ng call) {o : Oper} {x : V} {H H' : Heap} (h : evStep P ti ng call e H o = some (x, H')) : AStep P ng o e H x H' := by
  unfold evStep at h
  split at h
  · rename_i y hy
    cases h
    exact (evP_sound ok hy).step H
  · cases ha : isA o.op with
    | true =>
      rw [ha] at h
      simp only [cond] at h
      split at h <;> first | (cases h; done) | skip
      rename_i y b hb
      cases h
      exact evA_new ok hb
    | false =>
      rw [ha] at h
      exact evM_sound ok hc h
end

end Go.Proofs.YtojblnldfdeefaaGreatDoor.Cc

namespace Go.Proofs.YtojblnldfdeefaaGreatDoor.Cc
open Go Go.RowKit

structure Ext (X : Nat → Option O) (H H2 : Heap) : Prop where
  nn : H2.nn = H.nn
  out : ∀ n, X n = none → H2.get n = H.get n
  inn : ∀ n o, X n = some o → H2.get n = some o
  fresh : ∀ n o, X n = some o → H.get n = none ∧ n < H.nn
theorem Ext.free {X : Nat → Option O} {H H2 : Heap} (h : Ext X H H2) {n : Nat} {x : O} (hn : H.get n = some x) : X n = none := by
  cases hx : X n with
  | none => rfl
  | some o => have := (h.fresh n o hx).1; rw [hn] at this; cases this
theorem Ext.get {X : Nat → Option O} {H H2 : Heap} (h : Ext X H H2) {n : Nat} {x : O} (hn : H.get n = some x) : H2.get n = some x := by rw [h.out n (h.free hn)]; exact hn
theorem Ext.free_nn {X : Nat → Option O} {H H2 : Heap} (h : Ext X H H2) {n : Nat} (hn : H.nn ≤ n) : X n = none := by
  cases hx : X n with
  | none => rfl
  | some o => have := (h.fresh n o hx).2; omega
theorem Ext.set {X : Nat → Option O} {H H2 : Heap} (h : Ext X H H2) {n : Nat} (hn : X n = none) (y : O) : Ext X (H.set n y) (H2.set n y) := by
  refine ⟨h.nn, fun m hm => ?_, fun m o hm => ?_, fun m o hm => ?_⟩
  · rw [Heap.get_set, Heap.get_set, h.out m hm]
  · have e : m ≠ n := by rintro rfl; rw [hn] at hm; cases hm
    rw [Heap.get_set, if_neg e]; exact h.inn m o hm
  · have e : m ≠ n := by rintro rfl; rw [hn] at hm; cases hm
    exact ⟨by rw [Heap.get_set, if_neg e]; exact (h.fresh m o hm).1, (h.fresh m o hm).2⟩
theorem Ext.bump {X : Nat → Option O} {H H2 : Heap} (h : Ext X H H2) (k : Nat) : Ext X ⟨H.t, H.nn + k⟩ ⟨H2.t, H2.nn + k⟩ :=
  ⟨by show H2.nn + k = H.nn + k; rw [h.nn], h.out, h.inn, fun n o hn => ⟨(h.fresh n o hn).1, Nat.lt_of_lt_of_le (h.fresh n o hn).2 (Nat.le_add_right _ _)⟩⟩
theorem Ext.new {X : Nat → Option O} {H H2 : Heap} (h : Ext X H H2) (y : O) : Ext X (H.new y) (H2.new y) := by
  have := (h.bump 1).set (n := H.nn) (h.free_nn (Nat.le_refl _)) y
  have e : H2.new y = Heap.set ⟨H2.t, H2.nn + 1⟩ H.nn y := by unfold Heap.new Heap.set; rw [h.nn]
  rw [e]
  exact this
theorem Ext.move {X : Nat → Option O} {H H2 : Heap} (h : Ext X H H2) {n : Nat} (hn : X n = none) (y : O) : Ext X (H.move n y) (H2.move n y) := by
  have := ((h.set hn .gone).bump 1).set (n := H.nn) (h.free_nn (Nat.le_refl _)) y
  have e : H2.move n y = Heap.set ⟨(H2.set n .gone).t, (H2.set n .gone).nn + 1⟩ H.nn y := by
    show (⟨(H2.t.set n .gone).set H2.nn y, H2.nn + 1⟩ : Heap) = ⟨(H2.t.set n .gone).set H.nn y, H2.nn + 1⟩
    rw [h.nn]
  rw [e]
  exact this
theorem Ext.cells {X : Nat → Option O} {H H2 : Heap} (h : Ext X H H2) {n : Nat} {cs : List V} (hn : objCells H n = some cs) : objCells H2 n = some cs := by
  unfold objCells at hn ⊢
  split at hn
  · rename_i T cs' ex ro hg
    rw [h.get hg]
    exact hn
  · cases hn
theorem Ext.load {X : Nat → Option O} {H H2 : Heap} (h : Ext X H H2) {ti : TI} {n o : Nat} {T : TypeId} {x : V} (hn : loadV ti H n o T = some x) : loadV ti H2 n o T = some x := by
  unfold loadV at hn ⊢
  split at hn
  · rename_i i cs h1 h2
    rw [h1, h.cells h2]
    exact hn
  · cases hn
theorem Ext.holds {X : Nat → Option O} {H H2 : Heap} (h : Ext X H H2) {ti : TI} {b : Ob} (hb : b.holds ti H = true) : b.holds ti H2 = true := by
  unfold Ob.holds at hb ⊢
  cases hl : loadV ti H b.n b.o b.T with
  | none => rw [hl] at hb; cases hb
  | some y => rw [hl] at hb; rw [h.load hl]; exact hb
theorem Ext.src {X : Nat → Option O} {H H2 : Heap} (h : Ext X H H2) {sz : Nat} {y : V} {ys : List V} (hs : srcCells H sz y = some ys) : srcCells H2 sz y = some ys := by
  cases y <;> simp only [srcCells] at hs ⊢ <;> first | exact hs | skip
  rename_i sz' m o k
  cases hb : Nat.beq sz' sz with
  | false => rw [hb] at hs; cases hs
  | true =>
    rw [hb] at hs
    simp only [cond] at hs ⊢
    split at hs <;> first | (cases hs; done) | skip
    rename_i cs hc
    rw [h.cells hc]
    exact hs
theorem Ext.append {X : Nat → Option O} {H H2 H' : Heap} (h : Ext X H H2) {E : TypeId} {j : TyI} {x r : V} {ys : List V} (ha : evAppend H E j x ys = some (r, H')) : ∃ H2', evAppend H2 E j x ys = some (r, H2') ∧ Ext X H' H2' := by
  unfold evAppend at ha ⊢
  cases ys with
  | nil =>
    simp only at ha ⊢
    cases hb : Nat.blt 0 j.size with
    | false => rw [hb] at ha; cases ha
    | true =>
      rw [hb] at ha
      simp only [cond] at ha ⊢
      cases x <;> simp only at ha ⊢ <;> first | (cases ha; done) | (cases ha; exact ⟨H2, rfl, h⟩)
  | cons y0 ys0 =>
    simp only at ha ⊢
    generalize y0 :: ys0 = ys at ha ⊢
    cases hb : (Nat.blt 0 j.size && (Nat.blt 0 j.bytes && (Nat.beq (Nat.mod ys.length j.size) 0 && ys.all V.one))) with
    | false => rw [hb] at ha; cases ha
    | true =>
      rw [hb] at ha
      simp only [cond_true] at ha ⊢
      cases x <;> simp only at ha ⊢ <;> first | (cases ha; done) | skip
      case nilS =>
        obtain ⟨hc, ha⟩ := cond_some ha
        cases ha
        rw [hc, h.nn]
        exact ⟨_, rfl, h.new _⟩
      case voidS =>
        obtain ⟨hc, ha⟩ := cond_some ha
        cases ha
        rw [hc, h.nn]
        exact ⟨_, rfl, h.new _⟩
      case sl sz n o len =>
        cases hc : (Nat.beq sz j.size && Nat.ble ((len + Nat.div ys.length sz) * j.bytes) roomy) with
        | false => rw [hc] at ha; cases ha
        | true =>
          rw [hc] at ha
          simp only [cond_true] at ha ⊢
          cases hn : H.get n with
          | none => rw [hn] at ha; cases ha
          | some ob =>
            rw [hn] at ha
            rw [h.get hn]
            cases ob <;> simp only at ha ⊢ <;> first | (cases ha; done) | skip
            rename_i T cs ex ro
            cases hd : Nat.ble (o + len * sz + ys.length) cs.length with
            | true =>
              rw [hd] at ha
              simp only [cond_true] at ha ⊢
              cases ro with
              | true => cases ha
              | false => cases ha; exact ⟨_, rfl, h.set (h.free hn) _⟩
            | false =>
              rw [hd] at ha
              simp only [cond_false] at ha ⊢
              cases ex with
              | true =>
                simp only [cond_true] at ha ⊢
                obtain ⟨hf, ha⟩ := cond_some ha
                cases ha
                rw [hf, h.nn]
                exact ⟨_, rfl, h.new _⟩
              | false =>
                simp only [cond_false] at ha ⊢
                obtain ⟨hf, ha⟩ := cond_some ha
                cases ha
                rw [hf, h.nn]
                exact ⟨_, rfl, h.move (h.free hn) _⟩

def CallExt (call : CallF) : Prop := ∀ f xs H r H' X H2, call f xs H = some (r, H') → Ext X H H2 → ∃ H2', call f xs H2 = some (r, H2') ∧ Ext X H' H2'

section
variable {P : Program} {ti : TI} {ng : Con} {e : Lk} {X : Nat → Option O} {H H' H2 : Heap} {call : CallF} (hc : CallExt call) (h : Ext X H H2)
include hc h
theorem evM_ext {o : Oper} {x : V} (ha : evM ti ng call e H o = some (x, H')) : ∃ H2', evM ti ng call e H2 o = some (x, H2') ∧ Ext X H' H2' := by
  obtain ⟨dst, op, ty, pos, af, gd⟩ := o
  cases op with
  | load T p =>
    simp only [evM, evM_load] at ha ⊢
    split at ha <;> first | (cases ha; done) | skip
    rename_i n o i hp hT
    split at ha <;> first | (cases ha; done) | skip
    rename_i cs hn
    simp only [h.cells hn]
    split at ha <;> first | (cases ha; done) | skip
    rename_i v hv
    cases ha
    exact ⟨H2, by simp only [], h⟩
  | store T p y =>
    simp only [evM, evM_store] at ha ⊢
    split at ha <;> first | (cases ha; done) | skip
    rename_i n o v i hp hy hT
    split at ha <;> first | (cases ha; done) | skip
    rename_i S cs ex hn
    simp only [h.get hn]
    obtain ⟨hb, ha⟩ := cond_some ha
    cases ha
    rw [hb]
    exact ⟨_, rfl, h.set (h.free hn) _⟩
  | slice T y lo hi mx =>
    cases mx with
    | some m => simp [evM, evM_slice] at ha
    | none =>
      simp only [evM, evM_slice] at ha ⊢
      split at ha <;> first | (cases ha; done) | skip
      rename_i i hT
      split at ha <;> first | (cases ha; done) | skip
      rename_i N E n o hu hy
      split at ha <;> first | (cases ha; done) | skip
      rename_i l hh j S cs ro hlo hhi hj hn
      simp only [hlo, hhi, hj, h.get hn]
      obtain ⟨hb, ha⟩ := cond_some ha
      cases ha
      rw [hb]
      exact ⟨_, rfl, h⟩
  | convert S D y =>
    simp only [evM] at ha ⊢
    cases hsl : isSl (evO ng e y) with
    | false =>
      rw [hsl] at ha
      simp only [cond_false, evM_conv2] at ha ⊢
      split at ha <;> first | (cases ha; done) | skip
      split at ha <;> first | (cases ha; done) | skip
      · split at ha <;> first | (cases ha; done) | skip
        split at ha <;> first | (cases ha; done) | skip
        obtain ⟨hb, ha⟩ := cond_some ha
        cases ha
        rw [hb, h.nn]
        exact ⟨_, rfl, h.new _⟩
      · split at ha <;> first | (cases ha; done) | skip
        rename_i hk hn
        obtain ⟨hb, ha⟩ := cond_some ha
        cases ha
        simp only [hk, h.cells hn, hb, cond_true]
        exact ⟨_, rfl, h⟩
      · split at ha <;> first | (cases ha; done) | skip
        split at ha <;> first | (cases ha; done) | skip
        cases ha
        exact ⟨_, rfl, h⟩
      · split at ha <;> first | (cases ha; done) | skip
        split at ha <;> first | (cases ha; done) | skip
        cases ha
        exact ⟨_, rfl, h⟩
    | true =>
    rw [hsl] at ha
    simp only [evM_convert, cond_true] at ha ⊢
    split at ha <;> first | (cases ha; done) | skip
    rename_i i i' sz n o len hS hD hy
    split at ha <;> first | (cases ha; done) | skip
    rename_i E hu hu'
    split at ha <;> first | (cases ha; done) | skip
    rename_i j cs hE hn
    split at ha <;> first | (cases ha; done) | skip
    rename_i hju
    simp only [hE, h.cells hn, hju]
    cases hb : (Nat.beq sz 1 && Nat.ble (o + len) cs.length) with
    | false => rw [hb] at ha; cases ha
    | true =>
      rw [hb] at ha
      simp only [cond] at ha ⊢
      split at ha <;> first | (cases ha; done) | skip
      rename_i s hs
      cases ha
      try simp only [hs]
      exact ⟨_, rfl, h⟩
  | range T y =>
    simp only [evM, evM_range] at ha ⊢
    split at ha <;> first | (cases ha; done) | skip
    rename_i i s hT hy
    split at ha <;> first | (cases ha; done) | skip
    rename_i hu
    cases ha
    try simp only [hT, hy, hu]
    exact ⟨_, by rw [h.nn], h.new _⟩
  | next y b =>
    cases b with
    | false => simp [evM, evM_next] at ha
    | true =>
      simp only [evM, evM_next] at ha ⊢
      split at ha <;> first | (cases ha; done) | skip
      rename_i n hy
      split at ha <;> first | (cases ha; done) | skip
      rename_i s p hn
      simp only [h.get hn]
      cases hb : Nat.blt p s.length with
      | true => rw [hb] at ha; cases ha; exact ⟨_, rfl, h.set (h.free hn) _⟩
      | false => rw [hb] at ha; cases ha; exact ⟨_, rfl, h⟩
  | call c =>
    obtain ⟨cal, as, ts⟩ := c
    cases cal with
    | value f =>
      simp only [evM, evM_call, evM_value] at ha ⊢
      split at ha <;> first | (cases ha; done) | skip
      all_goals
        rename_i g cap xs hf hx
        try simp only [hf, hx]
        exact hc _ _ _ _ _ _ _ ha h
    | builtin b =>
      simp only [evM, evM_call, evM_builtin] at ha ⊢
      split at ha
      · rename_i b' as' ts' y z T T' has hts
        try simp only [has, hts]
        split at ha <;> first | (cases ha; done) | skip
        rename_i i i' vx vy hT hT' hx hy
        split at ha <;> first | (cases ha; done) | skip
        rename_i E hu
        try simp only [hT, hT', hx, hy, hu]
        cases hl : listy i'.und with
        | false => rw [hl] at ha; cases ha
        | true =>
          rw [hl] at ha
          simp only [cond] at ha ⊢
          split at ha <;> first | (cases ha; done) | skip
          rename_i j hj
          split at ha <;> first | (cases ha; done) | skip
          rename_i ys hs
          simp only [h.src hs]
          cases hb : (j.zero.lays && Nat.beq j.zero.cells.length j.size) with
          | false => rw [hb] at ha; cases ha
          | true =>
            rw [hb] at ha
            exact h.append ha
      · rename_i b' as' ts' y z T r has hts
        try simp only [has, hts]
        split at ha <;> first | (cases ha; done) | skip
        rename_i i sz n o len vy hT hx hy
        split at ha <;> first | (cases ha; done) | skip
        rename_i E hu
        split at ha <;> first | (cases ha; done) | skip
        rename_i j ys S cs ex hj hs hn
        simp only [hj, h.src hs, h.get hn]
        obtain ⟨hb, ha⟩ := cond_some ha
        cases ha
        rw [hb]
        exact ⟨_, rfl, h.set (h.free hn) _⟩
      · cases ha
    | _ => simp [evM, evM_call] at ha
  | _ => simp [evM] at ha
theorem evStep_ext {o : Oper} {x : V} (ha : evStep P ti ng call e H o = some (x, H')) : ∃ H2', evStep P ti ng call e H2 o = some (x, H2') ∧ Ext X H' H2' := by
  unfold evStep at ha ⊢
  split at ha
  · rename_i y hy
    cases ha
    try simp only [hy]
    exact ⟨H2, rfl, h⟩
  · rename_i hy
    try simp only [hy]
    cases hA : isA o.op with
    | true =>
      rw [hA] at ha
      simp only [cond] at ha ⊢
      split at ha <;> first | (cases ha; done) | skip
      rename_i y b hb
      cases ha
      rw [h.nn, hb]
      exact ⟨_, rfl, h.new _⟩
    | false =>
      rw [hA] at ha
      exact evM_ext hc h ha
omit hc in
theorem ext_freeName {n : Nat} (hX : X n = none) : freeName H2 n = freeName H n := by unfold freeName; rw [h.out n hX, h.nn]
theorem evR_ext {ops : List Oper} {r0 i : Nat} (hX : X (r0 + i) = none) {o : Oper} {x : V} (ha : evR P ti ng call ops r0 e H i o = some (x, H')) : ∃ H2', evR P ti ng call ops r0 e H2 i o = some (x, H2') ∧ Ext X H' H2' := by
  unfold evR at ha ⊢
  split at ha
  · rename_i hw
    cases hA : isA o.op with
    | true =>
      rw [hA] at ha
      simp only [cond_true] at ha ⊢
      rw [ext_freeName h hX]
      cases hf : freeName H (r0 + i) with
      | false => rw [hf] at ha; cases ha
      | true =>
        rw [hf] at ha
        simp only [cond_true] at ha ⊢
        split at ha <;> first | (cases ha; done) | skip
        rename_i y b hb
        cases ha
        exact ⟨_, rfl, h.set hX _⟩
    | false =>
      rw [hA] at ha
      simp only [cond_false] at ha ⊢
      split at ha
      · rename_i y hy
        cases ha
        exact ⟨H2, rfl, h⟩
      · exact evM_ext hc h ha
  · cases ha; exact ⟨H2, rfl, h⟩
  · cases ha
end

end Go.Proofs.YtojblnldfdeefaaGreatDoor.Cc

namespace Go.Proofs.YtojblnldfdeefaaGreatDoor.Cc
open Go Go.RowKit

/-! ### heaps that hold the same -/
abbrev Heq (H H2 : Heap) : Prop := Ext (fun _ => none) H H2
theorem Heq.refl (H : Heap) : Heq H H := ⟨rfl, fun _ _ => rfl, fun _ _ h => (by cases h), fun _ _ h => (by cases h)⟩
theorem Heq.of {H H2 : Heap} (h1 : H2.nn = H.nn) (h2 : ∀ n, H2.get n = H.get n) : Heq H H2 := ⟨h1, fun n _ => h2 n, fun _ _ h => (by cases h), fun _ _ h => (by cases h)⟩
theorem Heq.get' {H H2 : Heap} (h : Heq H H2) (n : Nat) : H2.get n = H.get n := h.out n rfl
theorem Heq.symm {H H2 : Heap} (h : Heq H H2) : Heq H2 H := Heq.of h.nn.symm fun n => (h.get' n).symm
theorem Heq.trans {A B C : Heap} (h : Heq A B) (k : Heq B C) : Heq A C := Heq.of (k.nn.trans h.nn) fun n => (k.get' n).trans (h.get' n)
theorem Ext.uniq {X : Nat → Option O} {H A B : Heap} (h : Ext X H A) (k : Ext X H B) : Heq A B := Heq.of (k.nn.trans h.nn.symm) fun n => by
  cases hx : X n with
  | none => rw [k.out n hx, h.out n hx]
  | some o => rw [k.inn n o hx, h.inn n o hx]
theorem Ext.eqv {X : Nat → Option O} {H A H2 A2 : Heap} (h : Ext X H A) (k : Heq H H2) (l : Heq A A2) : Ext X H2 A2 :=
  ⟨by rw [l.nn, h.nn, k.nn], fun n hn => by rw [l.get', h.out n hn, k.get'], fun n o hn => by rw [l.get', h.inn n o hn], fun n o hn => by rw [k.get', k.nn]; exact h.fresh n o hn⟩
def single (n : Nat) (b : O) : Nat → Option O := fun m => if m = n then some b else none
theorem freeName_spec {H : Heap} {n : Nat} (h : freeName H n = true) : H.get n = none ∧ n < H.nn := by
  unfold freeName at h
  simp only [Bool.and_eq_true] at h
  refine ⟨?_, by simpa [Nat.blt_eq] using h.2⟩
  cases hg : H.get n with
  | none => rfl
  | some x => rw [hg] at h; cases h.1
theorem ext_single {H : Heap} {n : Nat} (h : freeName H n = true) (b : O) : Ext (single n b) H (H.set n b) := by
  obtain ⟨h1, h2⟩ := freeName_spec h
  refine ⟨rfl, fun m hm => ?_, fun m o hm => ?_, fun m o hm => ?_⟩
  · have e : m ≠ n := by rintro rfl; simp [Cc.single] at hm
    rw [Heap.get_set, if_neg e]
  · have e : m = n := by
      by_cases e : m = n
      · exact e
      · simp [Cc.single, e] at hm
    subst e
    simp [Cc.single] at hm
    subst hm
    rw [Heap.get_set, if_pos rfl]
  · have e : m = n := by
      by_cases e : m = n
      · exact e
      · simp [Cc.single, e] at hm
    subst e
    exact ⟨h1, h2⟩

/-! ### slots -/
def fits (n : Nat) (d : Option Tmp) : Bool := match d with | some d => Nat.blt d n | none => true
theorem Lk.put_swap (e : Lk) {d d' : Option Tmp} (x y : V) (h : ∀ t, d = some t → d' ≠ some t) : (e.put d x).put d' y = (e.put d' y).put d x := by
  funext t
  cases d with
  | none => rfl
  | some d =>
    cases d' with
    | none => rfl
    | some d' =>
      have hne : d ≠ d' := fun e => h d rfl (by rw [e])
      simp only [Lk.put]
      cases h1 : Nat.beq t d' with
      | false => rfl
      | true =>
        cases h2 : Nat.beq t d with
        | false => rfl
        | true => exact absurd ((Nat.eq_of_beq_eq_true h2).symm.trans (Nat.eq_of_beq_eq_true h1)) hne
theorem Lk.only_put (l : List Nat) (e : Lk) {d : Option Tmp} (x : V) (h : ∀ t, d = some t → t ∉ l) : Lk.only l (e.put d x) = Lk.only l e := by
  funext t
  unfold Lk.only
  cases hc : l.contains t with
  | false => rfl
  | true =>
    cases d with
    | none => rfl
    | some d =>
      have hne : t ≠ d := by
        rintro rfl
        exact h t rfl (by simpa using hc)
      simp [Lk.put, beqF' hne]
where
  beqF' {k n : Nat} (h : k ≠ n) : Nat.beq k n = false := by
    cases e : Nat.beq k n with
    | true => exact absurd (Nat.eq_of_beq_eq_true e) h
    | false => rfl
theorem putT_spec {e e' : Tr V} {n : Nat} {d : Option Tmp} {x : V} (h : putT e n d x = some e') : fits n d = true ∧ e'.get = Lk.put e.get d x := by
  cases d with
  | none => cases h; exact ⟨rfl, rfl⟩
  | some d =>
    simp only [putT] at h
    obtain ⟨hb, h⟩ := cond_some h
    refine ⟨hb, ?_⟩
    subst h
    funext t
    rw [Tr.get_set]
    simp only [Lk.put]
    by_cases e : t = d
    · subst e; simp [Nat.beq_refl]
    · rw [if_neg e]
      cases hb : Nat.beq t d with
      | true => exact absurd (Nat.eq_of_beq_eq_true hb) e
      | false => rfl

structure RelAct (g : G) (n : Nat) (ds : List Deferred) (e : Lk) (a : Act) : Prop where
  size : a.tmps.size = n
  defers : a.defers = ds
  rel : RelE g e a
theorem RelAct.mono {g g' : G} (h : g.le g') {n : Nat} {ds : List Deferred} {e : Lk} {a : Act} (k : RelAct g n ds e a) : RelAct g' n ds e a := ⟨k.size, k.defers, k.rel.mono h⟩
theorem RelAct.put {g : G} {n : Nat} {ds : List Deferred} {e : Lk} {a : Act} (k : RelAct g n ds e a) {d : Option Tmp} (hd : fits n d = true) {x : V} {v : Value} (h : RelV g x v) : RelAct g n ds (e.put d x) (a.put d v) := by
  cases d with
  | none => exact k
  | some d =>
    have hlt : d < n := by simpa [fits, Nat.blt_eq] using hd
    refine ⟨by simp [Act.put, k.size], k.defers, ⟨fun t y hy => ?_⟩⟩
    simp only [Lk.put] at hy
    simp only [Act.put, Array.getElem?_setIfInBounds]
    cases hb : Nat.beq t d with
    | true =>
      rw [hb] at hy
      have : t = d := Nat.eq_of_beq_eq_true hb
      subst this
      cases hy
      exact ⟨v, by rw [if_pos rfl, if_pos (by rw [k.size]; exact hlt)], h⟩
    | false =>
      rw [hb] at hy
      have : d ≠ t := fun e => Nat.ne_of_beq_eq_false hb e.symm
      obtain ⟨u, hu, hr⟩ := k.rel.at_ t y hy
      exact ⟨u, by rw [if_neg this]; exact hu, hr⟩
theorem wantedV_spec {ops : List Oper} {e : Lk} {o : Oper} {b : Bool} (h : wantedV ops e o = some b) {g : G} {a : Act} (k : RelE g e a) : Region.wanted o (yielded ops.toArray a.tmps) = b := by
  unfold wantedV at h
  split at h
  · rename_i hg; cases h; simp [Region.wanted, hg]
  · rename_i j want hg
    split at h <;> first | (cases h; done) | skip
    rename_i p hp
    split at h <;> first | (cases h; done) | skip
    rename_i d hd
    split at h
    · rename_i b' hb
      cases h
      obtain ⟨v, hv, hr⟩ := k.at_ d _ hb
      cases hr
      simp only [Region.wanted, hg, yielded, List.getElem?_toArray, hp, Option.bind_some, hd, hv]
      cases b' <;> cases want <;> rfl
    · rename_i hb
      cases h
      obtain ⟨v, hv, hr⟩ := k.at_ d _ hb
      cases hr
      simp only [Region.wanted, hg, yielded, List.getElem?_toArray, hp, Option.bind_some, hd, hv, undef]
      rfl
    · cases h

section
variable {P : Program} {ti : TI} {ng : Con} {n : Nat} {call : CallF} {ops : List Oper} {r0 : Nat}

def Obs (ti : TI) (j : Nat) (ob : List Ob) (H H' : Heap) : Prop := ∀ b ∈ ob, b.D.contains j = true ∨ b.holds ti H' = true ∨ ∃ X, Ext X H H'
def XAny (P : Program) (ti : TI) (ng : Con) (n : Nat) (call : CallF) (ops : List Oper) (r0 : Nat) (Q : Lk → Heap → Prop) : Nat → Array Bool → List Ob → Lk → Heap → Prop
  | 0, listed, _, e, H => Region.ready .any ops.toArray listed = [] ∧ Q e H
  | f + 1, listed, ob, e, H => (Region.ready .any ops.toArray listed = [] → Q e H) ∧ ∀ j, j ∈ Region.ready .any ops.toArray listed →
      ∃ o x H', ops[j]? = some o ∧ fits n o.dst = true ∧ evR P ti ng call ops r0 (Lk.only (o.looksAt ops.toArray) e) H j o = some (x, H') ∧ Obs ti j ob H H' ∧
        XAny P ti ng n call ops r0 Q f (listed.setIfInBounds j true) ob (e.put o.dst x) H'

theorem XAny.eqv (hc : CallExt call) {Q : Lk → Heap → Prop} (hQ : ∀ e H H2, Heq H H2 → Q e H → Q e H2) : ∀ (f : Nat) (listed : Array Bool) (ob : List Ob) (e : Lk) (H H2 : Heap), Heq H H2 → XAny P ti ng n call ops r0 Q f listed ob e H → XAny P ti ng n call ops r0 Q f listed ob e H2
  | 0, _, _, _, _, _, h, ⟨h1, h2⟩ => ⟨h1, hQ _ _ _ h h2⟩
  | f + 1, listed, ob, e, H, H2, h, ⟨h1, h2⟩ => ⟨fun hr => hQ _ _ _ h (h1 hr), fun j hj => by
      obtain ⟨o, x, H', a1, a2, a3, a4, a5⟩ := h2 j hj
      obtain ⟨H2', b1, b2⟩ := evR_ext hc h rfl a3
      refine ⟨o, x, H2', a1, a2, b1, fun b hb => ?_, XAny.eqv hc hQ f _ ob _ H' H2' b2 a5⟩
      rcases a4 b hb with c | c | ⟨X, c⟩
      · exact .inl c
      · exact .inr (.inl (b2.holds c))
      · exact .inr (.inr ⟨X, c.eqv h b2⟩)⟩

theorem evR_sound (ok : TIok P ti) (hc : CallOK P ng call) {e : Lk} {H H' : Heap} {i : Nat} {o : Oper} {x : V} (h : evR P ti ng call ops r0 e H i o = some (x, H')) :
    (wantedV ops e o = some false ∧ x = .undef ∧ H' = H) ∨ (wantedV ops e o = some true ∧ AStep P ng o e H x H') := by
  unfold evR at h
  split at h
  · rename_i hw
    refine .inr ⟨hw, ?_⟩
    cases hA : isA o.op with
    | true =>
      rw [hA] at h
      simp only [cond_true] at h
      cases hf : freeName H (r0 + i) with
      | false => rw [hf] at h; cases h
      | true =>
        rw [hf] at h
        simp only [cond_true] at h
        split at h <;> first | (cases h; done) | skip
        rename_i y b hb
        cases h
        obtain ⟨h1, h2⟩ := freeName_spec hf
        exact evA_at ok hb h1 h2
    | false =>
      rw [hA] at h
      simp only [cond_false] at h
      split at h
      · rename_i y hy
        cases h
        exact (evP_sound ok hy).step H
      · exact evM_sound ok hc h
  · rename_i hw; cases h; exact .inl ⟨hw, rfl, rfl⟩
  · cases h
theorem wpAny_of_XAny (ok : TIok P ti) (hc : CallOK P ng call) {ds : List Deferred} {Q : Lk → Heap → Prop} {g0 : G} {Q' : Exit → Act → World → Prop} (hQ : ∀ g a w e H, g0.le g → RelAct g n ds e a → Sat g H w → Q e H → Q' .normal a w) :
    ∀ (f : Nat) (listed : Array Bool) (ob : List Ob) (g : G) (a : Act) (w : World) (e : Lk) (H : Heap), g0.ng = ng → g0.le g → RelAct g n ds e a → Sat g H w → XAny P ti ng n call ops r0 Q f listed ob e H → wpAny P .any ops.toArray Q' f listed a w
  | 0, _, _, g, a, w, e, H, _, hg, hr, hs, ⟨h0, hq⟩ => ⟨h0, hQ g a w e H hg hr hs hq⟩
  | f + 1, listed, ob, g, a, w, e, H, hng, hg, hr, hs, ⟨h0, h1⟩ => ⟨fun hr' => hQ g a w e H hg hr hs (h0 hr'), fun i hi => by
      obtain ⟨o, x, H', a1, a2, a3, _, a5⟩ := h1 i hi
      unfold wpOp
      simp only [List.getElem?_toArray, a1]
      rcases evR_sound ok hc a3 with ⟨hw, rfl, rfl⟩ | ⟨hw, hst⟩
      · rw [if_neg (by rw [wantedV_spec hw (hr.rel.only _)]; decide)]
        exact wpAny_of_XAny ok hc hQ f _ ob g _ w _ _ hng hg (hr.put a2 .undef) hs a5
      · rw [if_pos (wantedV_spec hw (hr.rel.only _))]
        exact .inl ((hst g a w (hg.ng.trans hng) (hr.rel.only _) hs).wp fun v w' ⟨g', hle, hrv, hs'⟩ =>
          wpAny_of_XAny ok hc hQ f _ ob g' _ w' _ H' hng (hg.trans hle) ((hr.mono hle).put a2 hrv) hs' a5)⟩
end

end Go.Proofs.YtojblnldfdeefaaGreatDoor.Cc
