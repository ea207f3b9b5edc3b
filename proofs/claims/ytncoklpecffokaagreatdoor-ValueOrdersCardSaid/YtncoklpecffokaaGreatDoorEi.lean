/-
  The evaluator of closed calls, part 9: what is evaluated over a heap is evaluated alike over one that holds more ('Ext').
-/
import Derived.Test.YtncoklpecffokaaGreatDoorEh
namespace Go.Proofs.YtncoklpecffokaaGreatDoor.Cc
open Go Go.RowKit

/-- H2 holds what H holds, and X besides. -/
structure Ext (X : Nat → Option O) (H H2 : Heap) : Prop where
  nn : H2.nn = H.nn
  out : ∀ n, X n = none → H2.get n = H.get n
  inn : ∀ n o, X n = some o → H2.get n = some o
  fresh : ∀ n o, X n = some o → H.get n = none ∧ n < H.nn
theorem Ext.free {X : Nat → Option O} {H H2 : Heap} (h : Ext X H H2) {n : Nat} {x : O} (hn : H.get n = some x) : X n = none := by
  cases hx : X n with
  | none => rfl
  | some o => have := (h.fresh n o hx).1; rw [hn] at this; cases this
theorem Ext.get {X : Nat → Option O} {H H2 : Heap} (h : Ext X H H2) {n : Nat} {x : O} (hn : H.get n = some x) : H2.get n = some x := by rw [h.out n (h.free hn)]; exact hn
theorem Ext.free_nn {X : Nat → Option O} {H H2 : Heap} (h : Ext X H H2) {n : Nat} (hn : H.nn ≤ n) : X n = none := by
  cases hx : X n with
  | none => rfl
  | some o => have := (h.fresh n o hx).2; omega
theorem Ext.set {X : Nat → Option O} {H H2 : Heap} (h : Ext X H H2) {n : Nat} (hn : X n = none) (y : O) : Ext X (H.set n y) (H2.set n y) := by
  refine ⟨h.nn, fun m hm => ?_, fun m o hm => ?_, fun m o hm => ?_⟩
  · rw [Heap.get_set, Heap.get_set, h.out m hm]
  · have e : m ≠ n := by rintro rfl; rw [hn] at hm; cases hm
    rw [Heap.get_set, if_neg e]; exact h.inn m o hm
  · have e : m ≠ n := by rintro rfl; rw [hn] at hm; cases hm
    exact ⟨by rw [Heap.get_set, if_neg e]; exact (h.fresh m o hm).1, (h.fresh m o hm).2⟩
theorem Ext.bump {X : Nat → Option O} {H H2 : Heap} (h : Ext X H H2) (k : Nat) : Ext X ⟨H.t, H.nn + k⟩ ⟨H2.t, H2.nn + k⟩ :=
  ⟨by show H2.nn + k = H.nn + k; rw [h.nn], h.out, h.inn, fun n o hn => ⟨(h.fresh n o hn).1, Nat.lt_of_lt_of_le (h.fresh n o hn).2 (Nat.le_add_right _ _)⟩⟩
theorem Ext.new {X : Nat → Option O} {H H2 : Heap} (h : Ext X H H2) (y : O) : Ext X (H.new y) (H2.new y) := by
  have := (h.bump 1).set (n := H.nn) (h.free_nn (Nat.le_refl _)) y
  have e : H2.new y = Heap.set ⟨H2.t, H2.nn + 1⟩ H.nn y := by unfold Heap.new Heap.set; rw [h.nn]
  rw [e]
  exact this
theorem Ext.move {X : Nat → Option O} {H H2 : Heap} (h : Ext X H H2) {n : Nat} (hn : X n = none) (y : O) : Ext X (H.move n y) (H2.move n y) := by
  have := ((h.set hn .gone).bump 1).set (n := H.nn) (h.free_nn (Nat.le_refl _)) y
  have e : H2.move n y = Heap.set ⟨(H2.set n .gone).t, (H2.set n .gone).nn + 1⟩ H.nn y := by
    show (⟨(H2.t.set n .gone).set H2.nn y, H2.nn + 1⟩ : Heap) = ⟨(H2.t.set n .gone).set H.nn y, H2.nn + 1⟩
    rw [h.nn]
  rw [e]
  exact this
theorem Ext.cells {X : Nat → Option O} {H H2 : Heap} (h : Ext X H H2) {n : Nat} {cs : List V} (hn : objCells H n = some cs) : objCells H2 n = some cs := by
  unfold objCells at hn ⊢
  split at hn
  · rename_i T cs' ex ro hg
    rw [h.get hg]
    exact hn
  · cases hn
theorem Ext.load {X : Nat → Option O} {H H2 : Heap} (h : Ext X H H2) {ti : TI} {n o : Nat} {T : TypeId} {x : V} (hn : loadV ti H n o T = some x) : loadV ti H2 n o T = some x := by
  unfold loadV at hn ⊢
  split at hn
  · rename_i i cs h1 h2
    rw [h1, h.cells h2]
    exact hn
  · cases hn
theorem Ext.holds {X : Nat → Option O} {H H2 : Heap} (h : Ext X H H2) {ti : TI} {b : Ob} (hb : b.holds ti H = true) : b.holds ti H2 = true := by
  unfold Ob.holds at hb ⊢
  cases hl : loadV ti H b.n b.o b.T with
  | none => rw [hl] at hb; cases hb
  | some y => rw [hl] at hb; rw [h.load hl]; exact hb
theorem Ext.src {X : Nat → Option O} {H H2 : Heap} (h : Ext X H H2) {sz : Nat} {y : V} {ys : List V} (hs : srcCells H sz y = some ys) : srcCells H2 sz y = some ys := by
  cases y <;> simp only [srcCells] at hs ⊢ <;> first | exact hs | skip
  rename_i sz' m o k
  cases hb : Nat.beq sz' sz with
  | false => rw [hb] at hs; cases hs
  | true =>
    rw [hb] at hs
    simp only [cond] at hs ⊢
    split at hs <;> first | (cases hs; done) | skip
    rename_i cs hc
    rw [h.cells hc]
    exact hs
theorem Ext.append {X : Nat → Option O} {H H2 H' : Heap} (h : Ext X H H2) {E : TypeId} {j : TyI} {x r : V} {ys : List V} (ha : evAppend H E j x ys = some (r, H')) : ∃ H2', evAppend H2 E j x ys = some (r, H2') ∧ Ext X H' H2' := by
  unfold evAppend at ha ⊢
  cases ys with
  | nil =>
    simp only at ha ⊢
    cases hb : Nat.blt 0 j.size with
    | false => rw [hb] at ha; cases ha
    | true =>
      rw [hb] at ha
      simp only [cond] at ha ⊢
      cases x <;> simp only at ha ⊢ <;> first | (cases ha; done) | (cases ha; exact ⟨H2, rfl, h⟩)
  | cons y0 ys0 =>
    simp only at ha ⊢
    generalize y0 :: ys0 = ys at ha ⊢
    cases hb : (Nat.blt 0 j.size && (Nat.blt 0 j.bytes && (Nat.beq (Nat.mod ys.length j.size) 0 && ys.all V.one))) with
    | false => rw [hb] at ha; cases ha
    | true =>
      rw [hb] at ha
      simp only [cond_true] at ha ⊢
      cases x <;> simp only at ha ⊢ <;> first | (cases ha; done) | skip
      case nilS =>
        obtain ⟨hc, ha⟩ := cond_some ha
        cases ha
        rw [hc, h.nn]
        exact ⟨_, rfl, h.new _⟩
      case voidS =>
        obtain ⟨hc, ha⟩ := cond_some ha
        cases ha
        rw [hc, h.nn]
        exact ⟨_, rfl, h.new _⟩
      case sl sz n o len =>
        cases hc : (Nat.beq sz j.size && Nat.ble ((len + Nat.div ys.length sz) * j.bytes) roomy) with
        | false => rw [hc] at ha; cases ha
        | true =>
          rw [hc] at ha
          simp only [cond_true] at ha ⊢
          cases hn : H.get n with
          | none => rw [hn] at ha; cases ha
          | some ob =>
            rw [hn] at ha
            rw [h.get hn]
            cases ob <;> simp only at ha ⊢ <;> first | (cases ha; done) | skip
            rename_i T cs ex ro
            cases hd : Nat.ble (o + len * sz + ys.length) cs.length with
            | true =>
              rw [hd] at ha
              simp only [cond_true] at ha ⊢
              cases ro with
              | true => cases ha
              | false => cases ha; exact ⟨_, rfl, h.set (h.free hn) _⟩
            | false =>
              rw [hd] at ha
              simp only [cond_false] at ha ⊢
              cases ex with
              | true =>
                simp only [cond_true] at ha ⊢
                obtain ⟨hf, ha⟩ := cond_some ha
                cases ha
                rw [hf, h.nn]
                exact ⟨_, rfl, h.new _⟩
              | false =>
                simp only [cond_false] at ha ⊢
                obtain ⟨hf, ha⟩ := cond_some ha
                cases ha
                rw [hf, h.nn]
                exact ⟨_, rfl, h.move (h.free hn) _⟩

def CallExt (call : CallF) : Prop := ∀ f xs H r H' X H2, call f xs H = some (r, H') → Ext X H H2 → ∃ H2', call f xs H2 = some (r, H2') ∧ Ext X H' H2'

section
variable {P : Program} {ti : TI} {ng : Con} {e : Lk} {X : Nat → Option O} {H H' H2 : Heap} {call : CallF} (hc : CallExt call) (h : Ext X H H2)
include hc h
theorem evM_ext {o : Oper} {x : V} (ha : evM ti ng call e H o = some (x, H')) : ∃ H2', evM ti ng call e H2 o = some (x, H2') ∧ Ext X H' H2' := by
  obtain ⟨dst, op, ty, pos, af, gd⟩ := o
  cases op with
  | load T p =>
    simp only [evM, evM_load] at ha ⊢
    split at ha <;> first | (cases ha; done) | skip
    rename_i n o i hp hT
    split at ha <;> first | (cases ha; done) | skip
    rename_i cs hn
    simp only [h.cells hn]
    split at ha <;> first | (cases ha; done) | skip
    rename_i v hv
    cases ha
    exact ⟨H2, by simp only [], h⟩
  | store T p y =>
    simp only [evM, evM_store] at ha ⊢
    split at ha <;> first | (cases ha; done) | skip
    rename_i n o v i hp hy hT
    split at ha <;> first | (cases ha; done) | skip
    rename_i S cs ex hn
    simp only [h.get hn]
    obtain ⟨hb, ha⟩ := cond_some ha
    cases ha
    rw [hb]
    exact ⟨_, rfl, h.set (h.free hn) _⟩
  | slice T y lo hi mx =>
    cases mx with
    | some m => simp [evM, evM_slice] at ha
    | none =>
      simp only [evM, evM_slice] at ha ⊢
      split at ha <;> first | (cases ha; done) | skip
      rename_i i hT
      split at ha <;> first | (cases ha; done) | skip
      rename_i N E n o hu hy
      split at ha <;> first | (cases ha; done) | skip
      rename_i l hh j S cs ro hlo hhi hj hn
      simp only [hlo, hhi, hj, h.get hn]
      obtain ⟨hb, ha⟩ := cond_some ha
      cases ha
      rw [hb]
      exact ⟨_, rfl, h⟩
  | convert S D y =>
    simp only [evM] at ha ⊢
    cases hsl : isSl (evO ng e y) with
    | false =>
      rw [hsl] at ha
      simp only [cond_false, evM_conv2] at ha ⊢
      split at ha <;> first | (cases ha; done) | skip
      split at ha <;> first | (cases ha; done) | skip
      · split at ha <;> first | (cases ha; done) | skip
        split at ha <;> first | (cases ha; done) | skip
        obtain ⟨hb, ha⟩ := cond_some ha
        cases ha
        rw [hb, h.nn]
        exact ⟨_, rfl, h.new _⟩
      · split at ha <;> first | (cases ha; done) | skip
        rename_i hk hn
        obtain ⟨hb, ha⟩ := cond_some ha
        cases ha
        simp only [hk, h.cells hn, hb, cond_true]
        exact ⟨_, rfl, h⟩
      · split at ha <;> first | (cases ha; done) | skip
        split at ha <;> first | (cases ha; done) | skip
        cases ha
        exact ⟨_, rfl, h⟩
      · split at ha <;> first | (cases ha; done) | skip
        split at ha <;> first | (cases ha; done) | skip
        cases ha
        exact ⟨_, rfl, h⟩
    | true =>
    rw [hsl] at ha
    simp only [evM_convert, cond_true] at ha ⊢
    split at ha <;> first | (cases ha; done) | skip
    rename_i i i' sz n o len hS hD hy
    split at ha <;> first | (cases ha; done) | skip
    rename_i E hu hu'
    split at ha <;> first | (cases ha; done) | skip
    rename_i j cs hE hn
    split at ha <;> first | (cases ha; done) | skip
    rename_i hju
    simp only [hE, h.cells hn, hju]
    cases hb : (Nat.beq sz 1 && Nat.ble (o + len) cs.length) with
    | false => rw [hb] at ha; cases ha
    | true =>
      rw [hb] at ha
      simp only [cond] at ha ⊢
      split at ha <;> first | (cases ha; done) | skip
      rename_i s hs
      cases ha
      try simp only [hs]
      exact ⟨_, rfl, h⟩
  | range T y =>
    simp only [evM, evM_range] at ha ⊢
    split at ha <;> first | (cases ha; done) | skip
    rename_i i s hT hy
    split at ha <;> first | (cases ha; done) | skip
    rename_i hu
    cases ha
    try simp only [hT, hy, hu]
    exact ⟨_, by rw [h.nn], h.new _⟩
  | next y b =>
    cases b with
    | false => simp [evM, evM_next] at ha
    | true =>
      simp only [evM, evM_next] at ha ⊢
      split at ha <;> first | (cases ha; done) | skip
      rename_i n hy
      split at ha <;> first | (cases ha; done) | skip
      rename_i s p hn
      simp only [h.get hn]
      cases hb : Nat.blt p s.length with
      | true => rw [hb] at ha; cases ha; exact ⟨_, rfl, h.set (h.free hn) _⟩
      | false => rw [hb] at ha; cases ha; exact ⟨_, rfl, h⟩
  | call c =>
    obtain ⟨cal, as, ts⟩ := c
    cases cal with
    | value f =>
      simp only [evM, evM_call, evM_value] at ha ⊢
      split at ha <;> first | (cases ha; done) | skip
      rename_i g cap xs hf hx
      try simp only [hf, hx]
      exact hc _ _ _ _ _ _ _ ha h
    | builtin b =>
      simp only [evM, evM_call, evM_builtin] at ha ⊢
      split at ha
      · rename_i b' as' ts' y z T T' has hts
        try simp only [has, hts]
        split at ha <;> first | (cases ha; done) | skip
        rename_i i i' vx vy hT hT' hx hy
        split at ha <;> first | (cases ha; done) | skip
        rename_i E hu
        try simp only [hT, hT', hx, hy, hu]
        cases hl : listy i'.und with
        | false => rw [hl] at ha; cases ha
        | true =>
          rw [hl] at ha
          simp only [cond] at ha ⊢
          split at ha <;> first | (cases ha; done) | skip
          rename_i j hj
          split at ha <;> first | (cases ha; done) | skip
          rename_i ys hs
          simp only [h.src hs]
          cases hb : (j.zero.lays && Nat.beq j.zero.cells.length j.size) with
          | false => rw [hb] at ha; cases ha
          | true =>
            rw [hb] at ha
            exact h.append ha
      · rename_i b' as' ts' y z T r has hts
        try simp only [has, hts]
        split at ha <;> first | (cases ha; done) | skip
        rename_i i sz n o len vy hT hx hy
        split at ha <;> first | (cases ha; done) | skip
        rename_i E hu
        split at ha <;> first | (cases ha; done) | skip
        rename_i j ys S cs ex hj hs hn
        simp only [hj, h.src hs, h.get hn]
        obtain ⟨hb, ha⟩ := cond_some ha
        cases ha
        rw [hb]
        exact ⟨_, rfl, h.set (h.free hn) _⟩
      · cases ha
    | _ => simp [evM, evM_call] at ha
  | _ => simp [evM] at ha
theorem evStep_ext {o : Oper} {x : V} (ha : evStep P ti ng call e H o = some (x, H')) : ∃ H2', evStep P ti ng call e H2 o = some (x, H2') ∧ Ext X H' H2' := by
  unfold evStep at ha ⊢
  split at ha
  · rename_i y hy
    cases ha
    try simp only [hy]
    exact ⟨H2, rfl, h⟩
  · rename_i hy
    try simp only [hy]
    cases hA : isA o.op with
    | true =>
      rw [hA] at ha
      simp only [cond] at ha ⊢
      split at ha <;> first | (cases ha; done) | skip
      rename_i y b hb
      cases ha
      rw [h.nn, hb]
      exact ⟨_, rfl, h.new _⟩
    | false =>
      rw [hA] at ha
      exact evM_ext hc h ha
omit hc in
theorem ext_freeName {n : Nat} (hX : X n = none) : freeName H2 n = freeName H n := by unfold freeName; rw [h.out n hX, h.nn]
theorem evR_ext {ops : List Oper} {r0 i : Nat} (hX : X (r0 + i) = none) {o : Oper} {x : V} (ha : evR P ti ng call ops r0 e H i o = some (x, H')) : ∃ H2', evR P ti ng call ops r0 e H2 i o = some (x, H2') ∧ Ext X H' H2' := by
  unfold evR at ha ⊢
  split at ha
  · rename_i hw
    cases hA : isA o.op with
    | true =>
      rw [hA] at ha
      simp only [cond_true] at ha ⊢
      rw [ext_freeName h hX]
      cases hf : freeName H (r0 + i) with
      | false => rw [hf] at ha; cases ha
      | true =>
        rw [hf] at ha
        simp only [cond_true] at ha ⊢
        split at ha <;> first | (cases ha; done) | skip
        rename_i y b hb
        cases ha
        exact ⟨_, rfl, h.set hX _⟩
    | false =>
      rw [hA] at ha
      simp only [cond_false] at ha ⊢
      split at ha
      · rename_i y hy
        cases ha
        exact ⟨H2, rfl, h⟩
      · exact evM_ext hc h ha
  · cases ha; exact ⟨H2, rfl, h⟩
  · cases ha
end

end Go.Proofs.YtncoklpecffokaaGreatDoor.Cc
