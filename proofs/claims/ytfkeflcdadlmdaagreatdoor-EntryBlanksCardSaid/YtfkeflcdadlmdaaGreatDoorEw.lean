/-
  The evaluator of closed calls, part 9: what is evaluated over a heap is evaluated alike over one that holds more ('Ext').
-/
import Derived.Test.YtfkeflcdadlmdaaGreatDoorEz
namespace Go.Proofs.YtfkeflcdadlmdaaGreatDoor.Cc
open Go Go.RowKit

structure Ext (X : Nat → Option O) (H H2 : Heap) : Prop where
 nn : H2.nn = H.nn
 out : ∀ n, X n = none → H2.get n = H.get n
 inn : ∀ n o, X n = some o → H2.get n = some o
 fresh : ∀ n o, X n = some o → H.get n = none ∧ n < H.nn
theorem Ext.free {X : Nat → Option O} {H H2 : Heap} (h : Ext X H H2) {n : Nat} {x : O} (hn : H.get n = some x) : X n = none := by
 cases hx : X n with
 | none => rfl
 | some o => have := (h.fresh n o hx).1; rw [hn] at this; cases this
theorem Ext.get {X : Nat → Option O} {H H2 : Heap} (h : Ext X H H2) {n : Nat} {x : O} (hn : H.get n = some x) : H2.get n = some x := by rw [h.out n (h.free hn)]; exact hn
theorem Ext.free_nn {X : Nat → Option O} {H H2 : Heap} (h : Ext X H H2) {n : Nat} (hn : H.nn ≤ n) : X n = none := by
 cases hx : X n with
 | none => rfl
 | some o => have := (h.fresh n o hx).2; omega
theorem Ext.set {X : Nat → Option O} {H H2 : Heap} (h : Ext X H H2) {n : Nat} (hn : X n = none) (y : O) : Ext X (H.set n y) (H2.set n y) := by
 refine ⟨h.nn, fun m hm => ?_, fun m o hm => ?_, fun m o hm => ?_⟩
 ·rw [Heap.get_set, Heap.get_set, h.out m hm]
 ·have e : m ≠ n := by rintro rfl; rw [hn] at hm; cases hm
  rw [Heap.get_set, if_neg e]; exact h.inn m o hm
 ·have e : m ≠ n := by rintro rfl; rw [hn] at hm; cases hm
  exact ⟨by rw [Heap.get_set, if_neg e]; exact (h.fresh m o hm).1, (h.fresh m o hm).2⟩
theorem Ext.bump {X : Nat → Option O} {H H2 : Heap} (h : Ext X H H2) (k : Nat) : Ext X ⟨H.t, H.nn + k⟩ ⟨H2.t, H2.nn + k⟩ :=
 ⟨by show H2.nn + k = H.nn + k; rw [h.nn], h.out, h.inn, fun n o hn => ⟨(h.fresh n o hn).1, Nat.lt_of_lt_of_le (h.fresh n o hn).2 (Nat.le_add_right _ _)⟩⟩
theorem Ext.new {X : Nat → Option O} {H H2 : Heap} (h : Ext X H H2) (y : O) : Ext X (H.new y) (H2.new y) := by
 have := (h.bump 1).set (n := H.nn) (h.free_nn (Nat.le_refl _)) y
 have e : H2.new y = Heap.set ⟨H2.t, H2.nn + 1⟩ H.nn y := by unfold Heap.new Heap.set; rw [h.nn]
 rw [e]
 exact this
theorem Ext.move {X : Nat → Option O} {H H2 : Heap} (h : Ext X H H2) {n : Nat} (hn : X n = none) (y : O) : Ext X (H.move n y) (H2.move n y) := by
 have := ((h.set hn .gone).bump 1).set (n := H.nn) (h.free_nn (Nat.le_refl _)) y
 have e : H2.move n y = Heap.set ⟨(H2.set n .gone).t, (H2.set n .gone).nn + 1⟩ H.nn y := by
  show (⟨(H2.t.set n .gone).set H2.nn y, H2.nn + 1⟩ : Heap) = ⟨(H2.t.set n .gone).set H.nn y, H2.nn + 1⟩
  rw [h.nn]
 rw [e]
 exact this
theorem Ext.cells {X : Nat → Option O} {H H2 : Heap} (h : Ext X H H2) {n : Nat} {cs : List V} (hn : objCells H n = some cs) : objCells H2 n = some cs := by
 unfold objCells at hn ⊢
 split at hn
 ·rename_i T cs' ex ro hg
  rw [h.get hg]
  exact hn
 ·cases hn
theorem Ext.load {X : Nat → Option O} {H H2 : Heap} (h : Ext X H H2) {ti : TI} {n o : Nat} {T : TypeId} {x : V} (hn : loadV ti H n o T = some x) : loadV ti H2 n o T = some x := by
 unfold loadV at hn ⊢
 split at hn
 ·rename_i i cs h1 h2
  rw [h1, h.cells h2]
  exact hn
 ·cases hn
theorem Ext.holds {X : Nat → Option O} {H H2 : Heap} (h : Ext X H H2) {ti : TI} {b : Ob} (hb : b.holds ti H = true) : b.holds ti H2 = true := by
 unfold Ob.holds at hb ⊢
 cases hl : loadV ti H b.n b.o b.T with
 | none => rw [hl] at hb; cases hb
 | some y => rw [hl] at hb; rw [h.load hl]; exact hb
theorem Ext.src {X : Nat → Option O} {H H2 : Heap} (h : Ext X H H2) {sz : Nat} {y : V} {ys : List V} (hs : srcCells H sz y = some ys) : srcCells H2 sz y = some ys := by
 cases y <;> simp only [srcCells] at hs ⊢ <;> first | exact hs | skip
 rename_i sz' m o k
 cases hb : Nat.beq sz' sz with
 | false => rw [hb] at hs; cases hs
 | true =>
  rw [hb] at hs
  simp only [cond] at hs ⊢
  split at hs <;> first | (cases hs; done) | skip
  rename_i cs hc
  rw [h.cells hc]
  exact hs
theorem Ext.append {X : Nat → Option O} {H H2 H' : Heap} (h : Ext X H H2) {E : TypeId} {j : TyI} {x r : V} {ys : List V} (ha : evAppend H E j x ys = some (r, H')) : ∃ H2', evAppend H2 E j x ys = some (r, H2') ∧ Ext X H' H2' := by
 unfold evAppend at ha ⊢
 cases ys with
 | nil =>
  simp only at ha ⊢
  cases hb : Nat.blt 0 j.size with
  | false => rw [hb] at ha; cases ha
  | true =>
   rw [hb] at ha
   simp only [cond] at ha ⊢
   cases x <;> simp only at ha ⊢ <;> first | (cases ha; done) | (cases ha; exact ⟨H2, rfl, h⟩)
 | cons y0 ys0 =>
  simp only at ha ⊢
  generalize y0 :: ys0 = ys at ha ⊢
  cases hb : (Nat.blt 0 j.size && (Nat.blt 0 j.bytes && (Nat.beq (Nat.mod ys.length j.size) 0 && ys.all V.one))) with
  | false => rw [hb] at ha; cases ha
  | true =>
   rw [hb] at ha
   simp only [cond_true] at ha ⊢
   cases x <;> simp only at ha ⊢ <;> first | (cases ha; done) | skip
   case nilS =>
    obtain ⟨hc, ha⟩ := yK ha
    cases ha
    rw [hc, h.nn]
    exact ⟨_, rfl, h.new _⟩
   case voidS =>
    obtain ⟨hc, ha⟩ := yK ha
    cases ha
    rw [hc, h.nn]
    exact ⟨_, rfl, h.new _⟩
   case sl sz n o len =>
    cases hc : (Nat.beq sz j.size && Nat.ble ((len + Nat.div ys.length sz) * j.bytes) roomy) with
    | false => rw [hc] at ha; cases ha
    | true =>
     rw [hc] at ha
     simp only [cond_true] at ha ⊢
     cases hn : H.get n with
     | none => rw [hn] at ha; cases ha
     | some ob =>
      rw [hn] at ha
      rw [h.get hn]
      cases ob <;> simp only at ha ⊢ <;> first | (cases ha; done) | skip
      rename_i T cs ex ro
      cases hd : Nat.ble (o + len * sz + ys.length) cs.length with
      | true =>
       rw [hd] at ha
       simp only [cond_true] at ha ⊢
       cases ro with
       | true => cases ha
       | false => cases ha; exact ⟨_, rfl, h.set (h.free hn) _⟩
      | false =>
       rw [hd] at ha
       simp only [cond_false] at ha ⊢
       cases ex with
       | true =>
        simp only [cond_true] at ha ⊢
        obtain ⟨hf, ha⟩ := yK ha
        cases ha
        rw [hf, h.nn]
        exact ⟨_, rfl, h.new _⟩
       | false =>
        simp only [cond_false] at ha ⊢
        obtain ⟨hf, ha⟩ := yK ha
        cases ha
        rw [hf, h.nn]
        exact ⟨_, rfl, h.move (h.free hn) _⟩

def CallExt (call : CallF) : Prop := ∀ f xs H r H' X H2, call f xs H = some (r, H') → Ext X H H2 → ∃ H2', call f xs H2 = some (r, H2') ∧ Ext X H' H2'

section
variable {P : Program} {ti : TI} {ng : Con} {e : Lk} {X : Nat → Option O} {H H' H2 : Heap} {call : CallF} (hc : CallExt call) (h : Ext X H H2)
include hc h
theorem axK {o : Oper} {x : V} (ha : evM ti ng call e H o = some (x, H')) : ∃ H2', evM ti ng call e H2 o = some (x, H2') ∧ Ext X H' H2' := by
 obtain ⟨dst, op, ty, pos, af, gd⟩ := o
 cases op with
 | load T p =>
  simp only [evM, evM_load] at ha ⊢
  split at ha <;> first | (cases ha; done) | skip
  rename_i n o i hp hT
  split at ha <;> first | (cases ha; done) | skip
  rename_i cs hn
  simp only [h.cells hn]
  split at ha <;> first | (cases ha; done) | skip
  rename_i v hv
  cases ha
  exact ⟨H2, by simp only [], h⟩
 | store T p y =>
  simp only [evM, evM_store] at ha ⊢
  split at ha <;> first | (cases ha; done) | skip
  rename_i n o v i hp hy hT
  split at ha <;> first | (cases ha; done) | skip
  rename_i S cs ex hn
  simp only [h.get hn]
  obtain ⟨hb, ha⟩ := yK ha
  cases ha
  rw [hb]
  exact ⟨_, rfl, h.set (h.free hn) _⟩
 | slice T y lo hi mx =>
  cases mx with
  | some m => simp [evM, evM_slice] at ha
  | none =>
   simp only [evM, evM_slice] at ha ⊢
   split at ha <;> first | (cases ha; done) | skip
   rename_i i hT
   split at ha <;> first | (cases ha; done) | skip
   rename_i N E n o hu hy
   split at ha <;> first | (cases ha; done) | skip
   rename_i l hh j S cs ro hlo hhi hj hn
   simp only [hlo, hhi, hj, h.get hn]
   obtain ⟨hb, ha⟩ := yK ha
   cases ha
   rw [hb]
   exact ⟨_, rfl, h⟩
 | convert S D y =>
  simp only [evM] at ha ⊢
  cases hsl : isSl (evO ng e y) with
  | false =>
   rw [hsl] at ha
   simp only [cond_false, evM_conv2] at ha ⊢
   split at ha <;> first | (cases ha; done) | skip
   split at ha <;> first | (cases ha; done) | skip
   ·split at ha <;> first | (cases ha; done) | skip
    split at ha <;> first | (cases ha; done) | skip
    obtain ⟨hb, ha⟩ := yK ha
    cases ha
    rw [hb, h.nn]
    exact ⟨_, rfl, h.new _⟩
   ·split at ha <;> first | (cases ha; done) | skip
    rename_i hk hn
    obtain ⟨hb, ha⟩ := yK ha
    cases ha
    simp only [hk, h.cells hn, hb, cond_true]
    exact ⟨_, rfl, h⟩
   ·split at ha <;> first | (cases ha; done) | skip
    split at ha <;> first | (cases ha; done) | skip
    cases ha
    exact ⟨_, rfl, h⟩
   ·split at ha <;> first | (cases ha; done) | skip
    split at ha <;> first | (cases ha; done) | skip
    cases ha
    exact ⟨_, rfl, h⟩
  | true =>
  rw [hsl] at ha
  simp only [evM_convert, cond_true] at ha ⊢
  split at ha <;> first | (cases ha; done) | skip
  rename_i i i' sz n o len hS hD hy
  split at ha <;> first | (cases ha; done) | skip
  rename_i E hu hu'
  split at ha <;> first | (cases ha; done) | skip
  rename_i j cs hE hn
  split at ha <;> first | (cases ha; done) | skip
  rename_i hju
  simp only [hE, h.cells hn, hju]
  cases hb : (Nat.beq sz 1 && Nat.ble (o + len) cs.length) with
  | false => rw [hb] at ha; cases ha
  | true =>
   rw [hb] at ha
   simp only [cond] at ha ⊢
   split at ha <;> first | (cases ha; done) | skip
   rename_i s hs
   cases ha
   try simp only [hs]
   exact ⟨_, rfl, h⟩
 | range T y =>
  simp only [evM, evM_range] at ha ⊢
  split at ha <;> first | (cases ha; done) | skip
  rename_i i s hT hy
  split at ha <;> first | (cases ha; done) | skip
  rename_i hu
  cases ha
  try simp only [hT, hy, hu]
  exact ⟨_, by rw [h.nn], h.new _⟩
 | next y b =>
  cases b with
  | false => simp [evM, evM_next] at ha
  | true =>
   simp only [evM, evM_next] at ha ⊢
   split at ha <;> first | (cases ha; done) | skip
   rename_i n hy
   split at ha <;> first | (cases ha; done) | skip
   rename_i s p hn
   simp only [h.get hn]
   cases hb : Nat.blt p s.length with
   | true => rw [hb] at ha; cases ha; exact ⟨_, rfl, h.set (h.free hn) _⟩
   | false => rw [hb] at ha; cases ha; exact ⟨_, rfl, h⟩
 | call c =>
  obtain ⟨cal, as, ts⟩ := c
  cases cal with
  | value f =>
   simp only [evM, evM_call, evM_value] at ha ⊢
   split at ha <;> first | (cases ha; done) | skip
   rename_i g cap xs hf hx
   try simp only [hf, hx]
   exact hc _ _ _ _ _ _ _ ha h
  | builtin b =>
   simp only [evM, evM_call, evM_builtin] at ha ⊢
   split at ha
   ·rename_i b' as' ts' y z T T' has hts
    try simp only [has, hts]
    split at ha <;> first | (cases ha; done) | skip
    rename_i i i' vx vy hT hT' hx hy
    split at ha <;> first | (cases ha; done) | skip
    rename_i E hu
    try simp only [hT, hT', hx, hy, hu]
    cases hl : listy i'.und with
    | false => rw [hl] at ha; cases ha
    | true =>
     rw [hl] at ha
     simp only [cond] at ha ⊢
     split at ha <;> first | (cases ha; done) | skip
     rename_i j hj
     split at ha <;> first | (cases ha; done) | skip
     rename_i ys hs
     simp only [h.src hs]
     cases hb : (j.zero.lays && Nat.beq j.zero.cells.length j.size) with
     | false => rw [hb] at ha; cases ha
     | true =>
      rw [hb] at ha
      exact h.append ha
   ·rename_i b' as' ts' y z T r has hts
    try simp only [has, hts]
    split at ha <;> first | (cases ha; done) | skip
    rename_i i sz n o len vy hT hx hy
    split at ha <;> first | (cases ha; done) | skip
    rename_i E hu
    split at ha <;> first | (cases ha; done) | skip
    rename_i j ys S cs ex hj hs hn
    simp only [hj, h.src hs, h.get hn]
    obtain ⟨hb, ha⟩ := yK ha
    cases ha
    rw [hb]
    exact ⟨_, rfl, h.set (h.free hn) _⟩
   ·cases ha
  | _ => simp [evM, evM_call] at ha
 | _ => simp [evM] at ha
theorem atO {o : Oper} {x : V} (ha : evStep P ti ng call e H o = some (x, H')) : ∃ H2', evStep P ti ng call e H2 o = some (x, H2') ∧ Ext X H' H2' := by
 unfold evStep at ha ⊢
 split at ha
 ·rename_i y hy
  cases ha
  try simp only [hy]
  exact ⟨H2, rfl, h⟩
 ·rename_i hy
  try simp only [hy]
  cases hA : isA o.op with
  | true =>
   rw [hA] at ha
   simp only [cond] at ha ⊢
   split at ha <;> first | (cases ha; done) | skip
   rename_i y b hb
   cases ha
   rw [h.nn, hb]
   exact ⟨_, rfl, h.new _⟩
  | false =>
   rw [hA] at ha
   exact axK hc h ha
omit hc in
theorem acQ {n : Nat} (hX : X n = none) : freeName H2 n = freeName H n := by unfold freeName; rw [h.out n hX, h.nn]
theorem aoY {ops : List Oper} {r0 i : Nat} (hX : X (r0 + i) = none) {o : Oper} {x : V} (ha : evR P ti ng call ops r0 e H i o = some (x, H')) : ∃ H2', evR P ti ng call ops r0 e H2 i o = some (x, H2') ∧ Ext X H' H2' := by
 unfold evR at ha ⊢
 split at ha
 ·rename_i hw
  cases hA : isA o.op with
  | true =>
   rw [hA] at ha
   simp only [cond_true] at ha ⊢
   rw [acQ h hX]
   cases hf : freeName H (r0 + i) with
   | false => rw [hf] at ha; cases ha
   | true =>
    rw [hf] at ha
    simp only [cond_true] at ha ⊢
    split at ha <;> first | (cases ha; done) | skip
    rename_i y b hb
    cases ha
    exact ⟨_, rfl, h.set hX _⟩
  | false =>
   rw [hA] at ha
   simp only [cond_false] at ha ⊢
   split at ha
   ·rename_i y hy
    cases ha
    exact ⟨H2, rfl, h⟩
   ·exact axK hc h ha
 ·cases ha; exact ⟨H2, rfl, h⟩
 ·cases ha
end

end Go.Proofs.YtfkeflcdadlmdaaGreatDoor.Cc

namespace Go.Proofs.YtfkeflcdadlmdaaGreatDoor.Cc
open Go Go.RowKit

/-! ### heaps that hold the same -/
abbrev Heq (H H2 : Heap) : Prop := Ext (fun _ => none) H H2
theorem Heq.refl (H : Heap) : Heq H H := ⟨rfl, fun _ _ => rfl, fun _ _ h => (by cases h), fun _ _ h => (by cases h)⟩
theorem Heq.of {H H2 : Heap} (h1 : H2.nn = H.nn) (h2 : ∀ n, H2.get n = H.get n) : Heq H H2 := ⟨h1, fun n _ => h2 n, fun _ _ h => (by cases h), fun _ _ h => (by cases h)⟩
theorem Heq.get' {H H2 : Heap} (h : Heq H H2) (n : Nat) : H2.get n = H.get n := h.out n rfl
theorem Heq.symm {H H2 : Heap} (h : Heq H H2) : Heq H2 H := Heq.of h.nn.symm fun n => (h.get' n).symm
theorem Heq.trans {A B C : Heap} (h : Heq A B) (k : Heq B C) : Heq A C := Heq.of (k.nn.trans h.nn) fun n => (k.get' n).trans (h.get' n)
theorem Ext.uniq {X : Nat → Option O} {H A B : Heap} (h : Ext X H A) (k : Ext X H B) : Heq A B := Heq.of (k.nn.trans h.nn.symm) fun n => by
 cases hx : X n with
 | none => rw [k.out n hx, h.out n hx]
 | some o => rw [k.inn n o hx, h.inn n o hx]
theorem Ext.eqv {X : Nat → Option O} {H A H2 A2 : Heap} (h : Ext X H A) (k : Heq H H2) (l : Heq A A2) : Ext X H2 A2 :=
 ⟨by rw [l.nn, h.nn, k.nn], fun n hn => by rw [l.get', h.out n hn, k.get'], fun n o hn => by rw [l.get', h.inn n o hn], fun n o hn => by rw [k.get', k.nn]; exact h.fresh n o hn⟩
def single (n : Nat) (b : O) : Nat → Option O := fun m => if m = n then some b else none
theorem aeH {H : Heap} {n : Nat} (h : freeName H n = true) : H.get n = none ∧ n < H.nn := by
 unfold freeName at h
 simp only [Bool.and_eq_true] at h
 refine ⟨?_, by simpa [Nat.blt_eq] using h.2⟩
 cases hg : H.get n with
 | none => rfl
 | some x => rw [hg] at h; cases h.1
theorem aiX {H : Heap} {n : Nat} (h : freeName H n = true) (b : O) : Ext (single n b) H (H.set n b) := by
 obtain ⟨h1, h2⟩ := aeH h
 refine ⟨rfl, fun m hm => ?_, fun m o hm => ?_, fun m o hm => ?_⟩
 ·have e : m ≠ n := by rintro rfl; simp [Cc.single] at hm
  rw [Heap.get_set, if_neg e]
 ·have e : m = n := by
   by_cases e : m = n
   ·exact e
   ·simp [Cc.single, e] at hm
  subst e
  simp [Cc.single] at hm
  subst hm
  rw [Heap.get_set, if_pos rfl]
 ·have e : m = n := by
   by_cases e : m = n
   ·exact e
   ·simp [Cc.single, e] at hm
  subst e
  exact ⟨h1, h2⟩

/-! ### slots -/
def fits (n : Nat) (d : Option Tmp) : Bool := match d with | some d => Nat.blt d n | none => true
theorem Lk.put_swap (e : Lk) {d d' : Option Tmp} (x y : V) (h : ∀ t, d = some t → d' ≠ some t) : (e.put d x).put d' y = (e.put d' y).put d x := by
 funext t
 cases d with
 | none => rfl
 | some d =>
  cases d' with
  | none => rfl
  | some d' =>
   have hne : d ≠ d' := fun e => h d rfl (by rw [e])
   simp only [Lk.put]
   cases h1 : Nat.beq t d' with
   | false => rfl
   | true =>
    cases h2 : Nat.beq t d with
    | false => rfl
    | true => exact absurd ((Nat.eq_of_beq_eq_true h2).symm.trans (Nat.eq_of_beq_eq_true h1)) hne
theorem Lk.only_put (l : List Nat) (e : Lk) {d : Option Tmp} (x : V) (h : ∀ t, d = some t → t ∉ l) : Lk.only l (e.put d x) = Lk.only l e := by
 funext t
 unfold Lk.only
 cases hc : l.contains t with
 | false => rfl
 | true =>
  cases d with
  | none => rfl
  | some d =>
   have hne : t ≠ d := by
    rintro rfl
    exact h t rfl (by simpa using hc)
   simp [Lk.put, beqF' hne]
where
 beqF' {k n : Nat} (h : k ≠ n) : Nat.beq k n = false := by
  cases e : Nat.beq k n with
  | true => exact absurd (Nat.eq_of_beq_eq_true e) h
  | false => rfl
theorem acO {e e' : Tr V} {n : Nat} {d : Option Tmp} {x : V} (h : putT e n d x = some e') : fits n d = true ∧ e'.get = Lk.put e.get d x := by
 cases d with
 | none => cases h; exact ⟨rfl, rfl⟩
 | some d =>
  simp only [putT] at h
  obtain ⟨hb, h⟩ := yK h
  refine ⟨hb, ?_⟩
  subst h
  funext t
  rw [Tr.get_set]
  simp only [Lk.put]
  by_cases e : t = d
  ·subst e; simp [Nat.beq_refl]
  ·rw [if_neg e]
   cases hb : Nat.beq t d with
   | true => exact absurd (Nat.eq_of_beq_eq_true hb) e
   | false => rfl

structure RelAct (g : G) (n : Nat) (ds : List Deferred) (e : Lk) (a : Act) : Prop where
 size : a.tmps.size = n
 defers : a.defers = ds
 rel : RelE g e a
theorem RelAct.mono {g g' : G} (h : g.le g') {n : Nat} {ds : List Deferred} {e : Lk} {a : Act} (k : RelAct g n ds e a) : RelAct g' n ds e a := ⟨k.size, k.defers, k.rel.mono h⟩
theorem RelAct.put {g : G} {n : Nat} {ds : List Deferred} {e : Lk} {a : Act} (k : RelAct g n ds e a) {d : Option Tmp} (hd : fits n d = true) {x : V} {v : Value} (h : RelV g x v) : RelAct g n ds (e.put d x) (a.put d v) := by
 cases d with
 | none => exact k
 | some d =>
  have hlt : d < n := by simpa [fits, Nat.blt_eq] using hd
  refine ⟨by simp [Act.put, k.size], k.defers, ⟨fun t y hy => ?_⟩⟩
  simp only [Lk.put] at hy
  simp only [Act.put, Array.getElem?_setIfInBounds]
  cases hb : Nat.beq t d with
  | true =>
   rw [hb] at hy
   have : t = d := Nat.eq_of_beq_eq_true hb
   subst this
   cases hy
   exact ⟨v, by rw [if_pos rfl, if_pos (by rw [k.size]; exact hlt)], h⟩
  | false =>
   rw [hb] at hy
   have : d ≠ t := fun e => Nat.ne_of_beq_eq_false hb e.symm
   obtain ⟨u, hu, hr⟩ := k.rel.at_ t y hy
   exact ⟨u, by rw [if_neg this]; exact hu, hr⟩
theorem abI {ops : List Oper} {e : Lk} {o : Oper} {b : Bool} (h : wantedV ops e o = some b) {g : G} {a : Act} (k : RelE g e a) : Region.wanted o (yielded ops.toArray a.tmps) = b := by
 unfold wantedV at h
 split at h
 ·rename_i hg; cases h; simp [Region.wanted, hg]
 ·rename_i j want hg
  split at h <;> first | (cases h; done) | skip
  rename_i p hp
  split at h <;> first | (cases h; done) | skip
  rename_i d hd
  split at h
  ·rename_i b' hb
   cases h
   obtain ⟨v, hv, hr⟩ := k.at_ d _ hb
   cases hr
   simp only [Region.wanted, hg, yielded, List.getElem?_toArray, hp, Option.bind_some, hd, hv]
   cases b' <;> cases want <;> rfl
  ·rename_i hb
   cases h
   obtain ⟨v, hv, hr⟩ := k.at_ d _ hb
   cases hr
   simp only [Region.wanted, hg, yielded, List.getElem?_toArray, hp, Option.bind_some, hd, hv, undef]
   rfl
  ·cases h

section
variable {P : Program} {ti : TI} {ng : Con} {n : Nat} {call : CallF} {ops : List Oper} {r0 : Nat}

def Obs (ti : TI) (j : Nat) (ob : List Ob) (H H' : Heap) : Prop := ∀ b ∈ ob, b.D.contains j = true ∨ b.holds ti H' = true ∨ ∃ X, Ext X H H'
def XAny (P : Program) (ti : TI) (ng : Con) (n : Nat) (call : CallF) (ops : List Oper) (r0 : Nat) (Q : Lk → Heap → Prop) : Nat → Array Bool → List Ob → Lk → Heap → Prop
 | 0, listed, _, e, H => Region.ready .any ops.toArray listed = [] ∧ Q e H
 | f + 1, listed, ob, e, H => (Region.ready .any ops.toArray listed = [] → Q e H) ∧ ∀ j, j ∈ Region.ready .any ops.toArray listed →
   ∃ o x H', ops[j]? = some o ∧ fits n o.dst = true ∧ evR P ti ng call ops r0 (Lk.only (o.looksAt ops.toArray) e) H j o = some (x, H') ∧ Obs ti j ob H H' ∧
    XAny P ti ng n call ops r0 Q f (listed.setIfInBounds j true) ob (e.put o.dst x) H'

theorem XAny.eqv (hc : CallExt call) {Q : Lk → Heap → Prop} (hQ : ∀ e H H2, Heq H H2 → Q e H → Q e H2) : ∀ (f : Nat) (listed : Array Bool) (ob : List Ob) (e : Lk) (H H2 : Heap), Heq H H2 → XAny P ti ng n call ops r0 Q f listed ob e H → XAny P ti ng n call ops r0 Q f listed ob e H2
 | 0, _, _, _, _, _, h, ⟨h1, h2⟩ => ⟨h1, hQ _ _ _ h h2⟩
 | f + 1, listed, ob, e, H, H2, h, ⟨h1, h2⟩ => ⟨fun hr => hQ _ _ _ h (h1 hr), fun j hj => by
     obtain ⟨o, x, H', a1, a2, a3, a4, a5⟩ := h2 j hj
     obtain ⟨H2', b1, b2⟩ := aoY hc h rfl a3
     refine ⟨o, x, H2', a1, a2, b1, fun b hb => ?_, XAny.eqv hc hQ f _ ob _ H' H2' b2 a5⟩
     rcases a4 b hb with c | c | ⟨X, c⟩
     ·exact .inl c
     ·exact .inr (.inl (b2.holds c))
     ·exact .inr (.inr ⟨X, c.eqv h b2⟩)⟩

theorem axI (ok : TIok P ti) (hc : CallOK P ng call) {e : Lk} {H H' : Heap} {i : Nat} {o : Oper} {x : V} (h : evR P ti ng call ops r0 e H i o = some (x, H')) :
  (wantedV ops e o = some false ∧ x = .undef ∧ H' = H) ∨ (wantedV ops e o = some true ∧ AStep P ng o e H x H') := by
 unfold evR at h
 split at h
 ·rename_i hw
  refine .inr ⟨hw, ?_⟩
  cases hA : isA o.op with
  | true =>
   rw [hA] at h
   simp only [cond_true] at h
   cases hf : freeName H (r0 + i) with
   | false => rw [hf] at h; cases h
   | true =>
    rw [hf] at h
    simp only [cond_true] at h
    split at h <;> first | (cases h; done) | skip
    rename_i y b hb
    cases h
    obtain ⟨h1, h2⟩ := aeH hf
    exact evA_at ok hb h1 h2
  | false =>
   rw [hA] at h
   simp only [cond_false] at h
   split at h
   ·rename_i y hy
    cases h
    exact (amR ok hy).step H
   ·exact amS ok hc h
 ·rename_i hw; cases h; exact .inl ⟨hw, rfl, rfl⟩
 ·cases h
theorem wpAny_of_XAny (ok : TIok P ti) (hc : CallOK P ng call) {ds : List Deferred} {Q : Lk → Heap → Prop} {g0 : G} {Q' : Exit → Act → World → Prop} (hQ : ∀ g a w e H, g0.le g → RelAct g n ds e a → Sat g H w → Q e H → Q' .normal a w) :
  ∀ (f : Nat) (listed : Array Bool) (ob : List Ob) (g : G) (a : Act) (w : World) (e : Lk) (H : Heap), g0.ng = ng → g0.le g → RelAct g n ds e a → Sat g H w → XAny P ti ng n call ops r0 Q f listed ob e H → wpAny P .any ops.toArray Q' f listed a w
 | 0, _, _, g, a, w, e, H, _, hg, hr, hs, ⟨h0, hq⟩ => ⟨h0, hQ g a w e H hg hr hs hq⟩
 | f + 1, listed, ob, g, a, w, e, H, hng, hg, hr, hs, ⟨h0, h1⟩ => ⟨fun hr' => hQ g a w e H hg hr hs (h0 hr'), fun i hi => by
     obtain ⟨o, x, H', a1, a2, a3, _, a5⟩ := h1 i hi
     unfold wpOp
     simp only [List.getElem?_toArray, a1]
     rcases axI ok hc a3 with ⟨hw, rfl, rfl⟩ | ⟨hw, hst⟩
     ·rw [if_neg (by rw [abI hw (hr.rel.only _)]; decide)]
      exact wpAny_of_XAny ok hc hQ f _ ob g _ w _ _ hng hg (hr.put a2 .undef) hs a5
     ·rw [if_pos (abI hw (hr.rel.only _))]
      exact .inl ((hst g a w (hg.ng.trans hng) (hr.rel.only _) hs).wp fun v w' ⟨g', hle, hrv, hs'⟩ =>
        wpAny_of_XAny ok hc hQ f _ ob g' _ w' _ H' hng (hg.trans hle) ((hr.mono hle).put a2 hrv) hs' a5)⟩
end

end Go.Proofs.YtfkeflcdadlmdaaGreatDoor.Cc

namespace Go.Proofs.YtfkeflcdadlmdaaGreatDoor.Cc
open Go Go.RowKit

mutual
theorem V.beq_eq : ∀ (x : V) {y : V}, V.beq x y = true → x = y
 | .bool a, y, h => by cases y <;> simp [V.beq] at h; rw [h]
 | .int k m, y, h => by cases y <;> simp [V.beq] at h; rw [h.1, h.2]
 | .str s, y, h => by cases y <;> simp [V.beq] at h; rw [h]
 | .nilp, y, h => by cases y <;> simp [V.beq] at h; rfl
 | .ptr n o, y, h => by
  cases y <;> simp only [V.beq, Bool.and_eq_true, Bool.false_eq_true] at h
  rw [Nat.eq_of_beq_eq_true h.1, Nat.eq_of_beq_eq_true h.2]
 | .nilS, y, h => by cases y <;> simp [V.beq] at h; rfl
 | .voidS, y, h => by cases y <;> simp [V.beq] at h; rfl
 | .viewS, y, h => by cases y <;> simp [V.beq] at h
 | .sl a b c d, y, h => by
  cases y <;> simp only [V.beq, Bool.and_eq_true, Bool.false_eq_true] at h
  rw [Nat.eq_of_beq_eq_true h.1, Nat.eq_of_beq_eq_true h.2.1, Nat.eq_of_beq_eq_true h.2.2.1, Nat.eq_of_beq_eq_true h.2.2.2]
 | .nilM, y, h => by cases y <;> simp [V.beq] at h; rfl
 | .map n, y, h => by
  cases y <;> simp only [V.beq, Bool.false_eq_true] at h
  rw [Nat.eq_of_beq_eq_true h]
 | .func f cs, y, h => by
  cases y <;> simp only [V.beq, Bool.and_eq_true, Bool.false_eq_true] at h
  rw [Nat.eq_of_beq_eq_true h.1, V.beqL_eq cs h.2]
 | .nilF, y, h => by cases y <;> simp [V.beq] at h; rfl
 | .iface t v, y, h => by
  cases y <;> simp only [V.beq, Bool.and_eq_true, Bool.false_eq_true] at h
  rw [Nat.eq_of_beq_eq_true h.1, V.beq_eq v h.2]
 | .nilI, y, h => by cases y <;> simp [V.beq] at h; rfl
 | .agg cs, y, h => by
  cases y <;> simp only [V.beq, Bool.false_eq_true] at h
  rw [V.beqL_eq cs h]
 | .tuple cs, y, h => by
  cases y <;> simp only [V.beq, Bool.false_eq_true] at h
  rw [V.beqL_eq cs h]
 | .undef, y, h => by cases y <;> simp [V.beq] at h
theorem V.beqL_eq : ∀ (xs : List V) {ys : List V}, V.beqL xs ys = true → xs = ys
 | [], ys, h => by cases ys with | nil => rfl | cons => simp [V.beqL] at h
 | x :: xs, ys, h => by
  cases ys with
  | nil => simp [V.beqL] at h
  | cons y ys =>
   simp only [V.beqL, Bool.and_eq_true] at h
   rw [V.beq_eq x h.1, V.beqL_eq xs h.2]
end

section
variable {P : Program} {ti : TI} {ng : Con} {n : Nat} {call : CallF} {ops : List Oper} {r0 : Nat}

theorem aeE {listed : Array Bool} {i j : Nat} {D : List Nat} {oj : Oper} (hj : ops[j]? = some oj) (hw : waits oj i D = true) (hi : listed.getD i true = false) (hD : ∀ k ∈ D, listed.getD k true = false) : j ∉ Region.ready .any ops.toArray listed := by
 intro h
 obtain ⟨_, o, ho, hall⟩ := mem_ready.1 h
 have : o = oj := by simpa [hj] using ho.symm
 subst this
 unfold waits at hw
 rw [List.any_eq_true] at hw
 obtain ⟨ed, he, hb⟩ := hw
 simp only [Bool.and_eq_true, Bool.or_eq_true] at hb
 have h1 := hall ed (by simpa using he) hb.1
 have key : ∀ k, listed.getD k true = false → ed.on = k → False := by
  intro k hk e
  subst e
  rcases Nat.lt_or_ge ed.on listed.size with h' | h'
  ·simp [h'] at hk h1; rw [hk] at h1; cases h1
  ·simp [Array.getElem?_eq_none h'] at h1
 rcases hb.2 with hb2 | hb2
 ·exact key i hi (Nat.eq_of_beq_eq_true hb2)
 ·exact key ed.on (hD ed.on (by simpa using hb2)) rfl

theorem ayF (hc : CallExt call) {Q : Lk → Heap → Prop} {i : Nat} {oi : Oper} {D : List Nat} {x : V} {ob' : List Ob} {e0 : Lk} (hi : ops[i]? = some oi) (hd : fits n oi.dst = true) (hobD : ∀ b ∈ ob', b.D = D)
  (hP : ∀ H, (∀ b ∈ ob', b.holds ti H = true) → evR P ti ng call ops r0 e0 H i oi = some (x, H)) :
  ∀ (f : Nat) (listed : Array Bool) (ob : List Ob) (e : Lk) (H : Heap), (∀ k ∈ D, listed.getD k true = false ∧ ∃ ok, ops[k]? = some ok ∧ waits ok i D = true) →
   (∀ j oj, ops[j]? = some oj → j ≠ i → listed.getD j true = false → j ∉ D → oi.apart ops.toArray oj = true) →
   i ∈ Region.ready .any ops.toArray listed → Lk.only (oi.looksAt ops.toArray) e = e0 → (∀ b ∈ ob', b.holds ti H = true) →
   XAny P ti ng n call ops r0 Q f (listed.setIfInBounds i true) (ob' ++ ob) (e.put oi.dst x) H → XAny P ti ng n call ops r0 Q (f + 1) listed ob e H := by
 intro f
 induction f with
 | zero =>
  intro listed ob e H hD hap hr he hob hX
  refine ⟨fun h => (by rw [h] at hr; cases hr), fun j hj => ?_⟩
  by_cases hji : j = i
  ·subst hji
   exact ⟨oi, x, H, hi, hd, by rw [he]; exact hP H hob, fun b _ => .inr (.inr ⟨_, Heq.refl H⟩), hX⟩
  ·have := ready_mono hj hji
   rw [hX.1] at this
   cases this
 | succ f ih =>
  intro listed ob e H hD hap hr he hob hX
  refine ⟨fun h => (by rw [h] at hr; cases hr), fun j hj => ?_⟩
  by_cases hji : j = i
  ·subst hji
   refine ⟨oi, x, H, hi, hd, by rw [he]; exact hP H hob, fun b _ => .inr (.inr ⟨_, Heq.refl H⟩), ?_⟩
   -- the same, less what was to be watched
   have drop : ∀ (f : Nat) (listed : Array Bool) (ob : List Ob) (e : Lk) (H : Heap), XAny P ti ng n call ops r0 Q f listed (ob' ++ ob) e H → XAny P ti ng n call ops r0 Q f listed ob e H := by
    intro f
    induction f with
    | zero => intro listed ob e H h; exact h
    | succ f ih =>
     intro listed ob e H h
     refine ⟨h.1, fun j hj => ?_⟩
     obtain ⟨o, y, H', a1, a2, a3, a4, a5⟩ := h.2 j hj
     exact ⟨o, y, H', a1, a2, a3, fun b hb => a4 b (List.mem_append_right _ hb), ih _ _ _ _ a5⟩
   exact drop _ _ _ _ _ hX
  ·obtain ⟨o, y, H', a1, a2, a3, a4, a5⟩ := hX.2 j (ready_mono hj hji)
   obtain ⟨hjun, _⟩ := mem_ready.1 hj
   have hiun := (mem_ready.1 hr).1
   have hjD : j ∉ D := fun hjD => by
    obtain ⟨_, ok, hok, hw⟩ := hD j hjD
    exact aeE hok hw hiun (fun k hk => (hD k hk).1) hj
   obtain ⟨p1, p2, p3⟩ := Oper.apart_spec (hap j o a1 hji hjun hjD)
   have e1 : Lk.only (o.looksAt ops.toArray) (e.put oi.dst x) = Lk.only (o.looksAt ops.toArray) e := Lk.only_put _ _ _ (fun t ht => p1 t ht)
   rw [e1] at a3
   have hob2 : ∀ b ∈ ob', b.holds ti H' = true := fun b hb => by
    rcases a4 b (List.mem_append_left _ hb) with c | c | ⟨X, c⟩
    ·rw [hobD b hb] at c
     exact absurd (by simpa using c) hjD
    ·exact c
    ·exact c.holds (hob b hb)
   refine ⟨o, y, H', a1, a2, a3, fun b hb => a4 b (List.mem_append_right _ hb), ih _ _ _ _ (fun k hk => ⟨?_, (hD k hk).2⟩) (fun k ok hk hki hun hkD => hap k ok hk hki ?_ hkD) (ready_mono hr (Ne.symm hji)) ?_ hob2 ?_⟩
   ·have hne : j ≠ k := fun e => hjD (e ▸ hk)
    rw [getD_set_ne true hne]; exact (hD k hk).1
   ·by_cases hjk : j = k
    ·subst hjk; exact hjun
    ·rw [getD_set_ne true hjk] at hun; exact hun
   ·rw [Lk.only_put _ _ _ (fun t ht => p3 t ht)]; exact he
   ·rw [Array.setIfInBounds_comm _ _ hji, Lk.put_swap e y x (fun t ht ht2 => p2 t ht2 ht)]
    exact a5

theorem axJ {e : Lk} {H H' H2 : Heap} {i : Nat} {o : Oper} {x : V} (hA : isA o.op = true) (h : evR P ti ng call ops r0 e H i o = some (x, H')) (hf : freeName H2 (r0 + i) = true) :
  ∃ X H2', evR P ti ng call ops r0 e H2 i o = some (x, H2') ∧ Ext X H H' ∧ Ext X H2 H2' ∧ (∀ m, m ≠ r0 + i → X m = none) := by
 unfold evR at h ⊢
 split at h
 ·rename_i hw
  rw [hA] at h ⊢
  simp only [cond_true] at h ⊢
  rw [hf]
  cases hf1 : freeName H (r0 + i) with
  | false => rw [hf1] at h; cases h
  | true =>
  rw [hf1] at h
  simp only [cond_true] at h ⊢
  split at h <;> first | (cases h; done) | skip
  rename_i y b hb
  cases h
  refine ⟨single (r0 + i) b, _, rfl, aiX hf1 b, aiX hf b, fun m hm => by simp [single, hm]⟩
 ·cases h; exact ⟨fun _ => none, H2, rfl, Heq.refl H, Heq.refl H2, fun _ _ => rfl⟩
 ·cases h
theorem ayE (hc : CallExt call) {Q : Lk → Heap → Prop} (hQ : ∀ e H H2, Heq H H2 → Q e H → Q e H2) {j : Nat} {oj : Oper} {x : V} {A : List Nat} {L0 : Array Bool} (hj : ops[j]? = some oj) (hd : fits n oj.dst = true)
  (hA : ∀ i ∈ A, i ≠ j ∧ ∃ oi, ops[i]? = some oi ∧ isA oi.op = true ∧ oi.apart ops.toArray oj = true) :
  ∀ (f : Nat) (listed : Array Bool) (ob : List Ob) (e : Lk) (H H' : Heap), (∀ k, k ∈ Region.ready .any ops.toArray listed → k = j ∨ k ∈ A) →
   (∀ (S : List Nat), (∀ i ∈ S, i ∈ A) → ∀ k, k ∈ Region.ready .any ops.toArray (setAll listed S) → k = j ∨ k ∈ A) →
   j ∈ Region.ready .any ops.toArray listed → (∀ i ∈ A, listed.getD i true = false → freeName H (r0 + i) = true) →
   evR P ti ng call ops r0 (Lk.only (oj.looksAt ops.toArray) e) H j oj = some (x, H') → (∀ b ∈ ob, b.D.contains j = true ∨ b.holds ti H' = true) →
   XAny P ti ng n call ops r0 Q f (listed.setIfInBounds j true) ob (e.put oj.dst x) H' → XAny P ti ng n call ops r0 Q (f + 1) listed ob e H := by
 intro f
 induction f with
 | zero =>
  intro listed ob e H H' hR hS hr hfr hev hob hX
  refine ⟨fun h => (by rw [h] at hr; cases hr), fun i hi => ?_⟩
  by_cases hij : i = j
  ·subst hij
   exact ⟨oj, x, H', hj, hd, hev, fun b hb => (hob b hb).imp id .inl, hX⟩
  ·have := ready_mono hi hij
   rw [hX.1] at this
   cases this
 | succ f ih =>
  intro listed ob e H H' hR hS hr hfr hev hob hX
  refine ⟨fun h => (by rw [h] at hr; cases hr), fun i hi => ?_⟩
  by_cases hij : i = j
  ·subst hij
   exact ⟨oj, x, H', hj, hd, hev, fun b hb => (hob b hb).imp id .inl, hX⟩
  ·have hiA := (hR i hi).resolve_left hij
   obtain ⟨_, oi, hoi, hisA, hap⟩ := hA i hiA
   obtain ⟨p1, p2, p3⟩ := Oper.apart_spec hap
   obtain ⟨o, y, H1', a1, a2, a3, a4, a5⟩ := hX.2 i (ready_mono hi hij)
   have : o = oi := Option.some.inj (a1.symm.trans hoi)
   subst this
   rw [Lk.only_put _ _ _ (fun t ht => p3 t ht)] at a3
   have hfi := hfr i hiA (mem_ready.1 hi).1
   obtain ⟨X, H2', b1, b2, b3, b4⟩ := axJ hisA a3 hfi
   have hXj : X (r0 + j) = none := b4 _ (by omega)
   obtain ⟨H3, c1, c2⟩ := aoY hc b3 hXj hev
   refine ⟨o, y, H2', a1, a2, b1, fun b _ => .inr (.inr ⟨X, b3⟩), ih (listed.setIfInBounds i true) ob (e.put o.dst y) H2' H3 (hS [i] (fun k hk => by rw [List.mem_singleton.1 hk]; exact hiA)) (fun S hSA => hS (i :: S) (fun k hk => by
     rcases List.mem_cons.1 hk with rfl | hk
     ·exact hiA
     ·exact hSA k hk)) (ready_mono hr (Ne.symm hij)) (fun k hk hun => ?_) ?_ (fun b hb => (hob b hb).imp id fun h => c2.holds h) ?_⟩
   ·have hik : i ≠ k := by
     rintro rfl
     have h1 := (mem_ready.1 hi).1
     rcases Nat.lt_or_ge i listed.size with h' | h'
     ·simp [h'] at hun
     ·simp [Array.getElem?_eq_none h'] at h1
    rw [getD_set_ne true hik] at hun
    rw [acQ b3 (b4 _ (by omega))]
    exact hfr k hk hun
   ·rw [Lk.only_put _ _ _ (fun t ht => p1 t ht)]
    exact c1
   ·rw [Array.setIfInBounds_comm _ _ hij, Lk.put_swap e y x (fun t ht => p2 t ht)]
    exact XAny.eqv hc hQ f _ ob _ H1' H3 (b2.uniq c2) a5

/-! ### plans -/
theorem alH : ∀ (S : List Nat) (l : Array Bool) (k : Nat), (setAll l S).getD k true = false → l.getD k true = false ∧ k ∉ S
 | [], l, k, h => ⟨h, by simp⟩
 | i :: S, l, k, h => by
  obtain ⟨h1, h2⟩ := alH S _ k h
  have hik : i ≠ k := by
   rintro rfl
   rcases Nat.lt_or_ge i l.size with h' | h'
   ·simp [h'] at h1
   ·simp [] at h1
  rw [getD_set_ne true hik] at h1
  exact ⟨h1, by simp [h2, Ne.symm hik]⟩
theorem aiA : ∀ (S : List Nat) (l : Array Bool) (k : Nat), l.getD k true = false → k ∉ S → (setAll l S).getD k true = false
 | [], l, k, h, _ => h
 | i :: S, l, k, h, hk => by
  have hik : i ≠ k := by rintro rfl; simp at hk
  exact aiA S _ k (by rw [getD_set_ne true hik]; exact h) (fun hks => hk (by simp [hks]))
theorem alI : ∀ (S : List Nat) (l : Array Bool) (d : Nat), (setAll l S).getD d false = true → l.getD d false = true ∨ (d ∈ S ∧ d < l.size)
 | [], l, d, h => .inl h
 | i :: S, l, d, h => by
  rcases alI S _ d h with h1 | ⟨h1, h2⟩
  ·by_cases hid : i = d
   ·subst hid
    rcases Nat.lt_or_ge i l.size with h' | h'
    ·exact .inr ⟨by simp, h'⟩
    ·simp [] at h1
     omega
   ·rw [getD_set_ne false hid] at h1; exact .inl h1
  ·exact .inr ⟨by simp [h1], by simpa using h2⟩
theorem aiB : ∀ (S : List Nat) (l : Array Bool) (d : Nat), (l.getD d false = true ∨ (d ∈ S ∧ d < l.size)) → (setAll l S).getD d false = true
 | [], l, d, h => by
  rcases h with h | ⟨h, _⟩
  ·exact h
  ·simp at h
 | i :: S, l, d, h => by
  refine aiB S _ d ?_
  by_cases hid : i = d
  ·subst hid
   left
   rcases h with h | ⟨_, h⟩
   ·exact getD_set_true h
   ·simp [h]
  ·rcases h with h | ⟨h, h2⟩
   ·exact .inl (getD_set_true h)
   ·refine .inr ⟨?_, by simpa using h2⟩
    rcases List.mem_cons.1 h with e | e
    ·exact absurd e.symm hid
    ·exact e
theorem atC {listed : Array Bool} {j : Nat} {A : List Nat} (h : lateB ops.toArray listed j A = true) :
  j ∈ Region.ready .any ops.toArray listed ∧ (∀ i ∈ A, i ≠ j ∧ ∃ oi, ops[i]? = some oi ∧ isA oi.op = true ∧ ∀ oj, ops[j]? = some oj → oi.apart ops.toArray oj = true) ∧
  (∀ k, k ∈ Region.ready .any ops.toArray listed → k = j ∨ k ∈ A) ∧
  (∀ (S : List Nat), (∀ i ∈ S, i ∈ A) → ∀ k, k ∈ Region.ready .any ops.toArray (setAll listed S) → k = j ∨ k ∈ A) := by
 unfold lateB at h
 simp only [Bool.and_eq_true] at h
 obtain ⟨h1, h2, h3, h4⟩ := h
 refine ⟨by simpa using h1, fun i hi => ?_, fun k hk => ?_, fun S hSA k hk => ?_⟩
 ·have := List.all_eq_true.1 h3 i hi
  simp only [Bool.and_eq_true, Bool.not_eq_true', beq_eq_false_iff_ne] at this
  obtain ⟨q1, q2⟩ := this
  refine ⟨q1, ?_⟩
  split at q2
  ·rename_i oi oj hoi hoj
   simp only [Bool.and_eq_true] at q2
   exact ⟨oi, by simpa using hoi, q2.1, fun oj' hj' => by
     have : oj = oj' := by simpa [hj'] using hoj.symm
     rw [← this]; exact q2.2⟩
  ·cases q2
 ·have := List.all_eq_true.1 h2 k hk
  simp only [Bool.or_eq_true, beq_iff_eq] at this
  exact this.imp id fun e => by simpa using e
 ·by_cases hkA : k ∈ A
  ·exact .inr hkA
  ·left
   obtain ⟨hun, ok, hok, hall⟩ := mem_ready.1 hk
   have hr : Region.ready .any ops.toArray (setAll listed A) = [j] := by simpa using h4
   have : k ∈ Region.ready .any ops.toArray (setAll listed A) := by
    refine mem_ready.2 ⟨aiA A listed k (alH S listed k hun).1 hkA, ok, hok, fun ed he hb => ?_⟩
    refine aiB A listed _ ?_
    rcases alI S listed _ (hall ed he hb) with q | ⟨q1, q2⟩
    ·exact .inl q
    ·exact .inr ⟨hSA _ q1, q2⟩
   rw [hr] at this
   simpa using this
theorem atG {listed : Array Bool} {i : Nat} {oi : Oper} {D : List Nat} (hi : ops[i]? = some oi) (h : freeB ops.toArray listed i D = true) :
  (∀ k ∈ D, listed.getD k true = false ∧ ∃ ok, ops[k]? = some ok ∧ waits ok i D = true) ∧
  (∀ j oj, ops[j]? = some oj → j ≠ i → listed.getD j true = false → j ∉ D → oi.apart ops.toArray oj = true) := by
 unfold freeB at h
 have hi' : ops.toArray[i]? = some oi := by simpa using hi
 rw [hi'] at h
 simp only [Bool.and_eq_true] at h
 refine ⟨fun k hk => ?_, fun j oj hj hne hun hD => ?_⟩
 ·have := List.all_eq_true.1 h.1 k hk
  simp only [Bool.and_eq_true, Bool.not_eq_true'] at this
  refine ⟨this.1, ?_⟩
  have q := this.2
  split at q
  ·rename_i ok hok; exact ⟨ok, by simpa using hok, q⟩
  ·cases q
 ·have hlt : j < ops.toArray.size := by
   have := (List.getElem?_eq_some_iff.1 hj).1
   simpa using this
  have := List.all_eq_true.1 h.2 j (List.mem_range.2 hlt)
  have hj' : ops.toArray[j]? = some oj := by simpa using hj
  rw [hj'] at this
  simp only [Bool.or_eq_true, beq_iff_eq, hne, false_or, hun, Bool.false_eq_true] at this
  rcases this with q | q
  ·exact absurd (by simpa using q) hD
  ·exact q
theorem aoZ {e : Lk} {H : Heap} {i : Nat} {D : List Nat} {o : Oper} {x : V} {ob' : List Ob} (h : evFree P ti ng ops e H D o = some (x, ob')) :
  (∀ b ∈ ob', b.D = D) ∧ (∀ b ∈ ob', b.holds ti H = true) ∧ ∀ H2, (∀ b ∈ ob', b.holds ti H2 = true) → evR P ti ng call ops r0 e H2 i o = some (x, H2) := by
 unfold evFree at h
 split at h
 ·rename_i hw
  split at h
  ·rename_i y hy
   cases h
   refine ⟨by simp, by simp, fun H2 _ => ?_⟩
   have hA : isA o.op = false := by
    obtain ⟨dst, op, ty, pos, af, gd⟩ := o
    cases op <;> first | rfl | (simp [evP] at hy)
   unfold evR
   rw [hw, hA, hy]
   rfl
  ·rename_i hy
   split at h <;> first | (cases h; done) | skip
   rename_i T p hop
   split at h <;> first | (cases h; done) | skip
   rename_i n' k hp
   split at h <;> first | (cases h; done) | skip
   rename_i y hl
   obtain ⟨hb, h⟩ := yK h
   cases h
   refine ⟨fun b hb2 => by simp at hb2; rw [hb2], fun b hb2 => ?_, fun H2 hh => ?_⟩
   ·simp at hb2
    subst hb2
    unfold Ob.holds
    rw [hl]; exact hb
   ·have h2 := hh ⟨D, n', k, T, x⟩ (by simp)
    unfold Ob.holds at h2
    split at h2
    ·rename_i z hz
     have := V.beq_eq z h2
     simp only at this hz
     subst this
     unfold evR
     rw [hw, hy]
     have hA : isA o.op = false := by rw [hop]; rfl
     rw [hA]
     simp only [cond_false]
     unfold evM
     rw [hop]
     simp only [evM_load, hp]
     unfold loadV at hz
     split at hz
     ·rename_i i' cs q1 q2
      rw [q1]
      simp only [q2, hz]
     ·cases hz
    ·cases h2
 ·rename_i hw
  cases h
  refine ⟨by simp, by simp, fun H2 _ => ?_⟩
  unfold evR
  rw [hw]
 ·cases h
theorem XAny_of_plan (hc : CallExt call) {eF : Lk} {HF : Heap} : ∀ (pl : List PS) (listed : Array Bool) (ob : List Ob) (e : Tr V) (H : Heap) (e' : Tr V) (H' : Heap), planOK ops.toArray pl listed = true →
  evPlan P ti ng n call ops r0 pl ob e H = some (e', H') → e'.get = eF → Heq HF H' → XAny P ti ng n call ops r0 (fun e2 H2 => e2 = eF ∧ Heq HF H2) pl.length listed ob e.get H
 | [], listed, ob, e, H, e', H', hB, h, he, hh => by
  cases h
  exact ⟨by simpa [planOK] using hB, he, hh⟩
 | .free i D :: r, listed, ob, e, H, e', H', hB, h, he, hh => by
  simp only [planOK, Bool.and_eq_true] at hB
  simp only [evPlan] at h
  split at h <;> first | (cases h; done) | skip
  rename_i o hi
  split at h <;> first | (cases h; done) | skip
  rename_i x ob' hf
  split at h <;> first | (cases h; done) | skip
  rename_i e1 hput
  obtain ⟨hd, hg⟩ := acO hput
  obtain ⟨f1, f2, f3⟩ := aoZ (call := call) (r0 := r0) (i := i) hf
  obtain ⟨q1, q2⟩ := atG hi hB.2.1
  refine ayF hc hi hd f1 f3 r.length listed ob e.get H q1 q2 (by simpa using hB.1) rfl f2 ?_
  rw [← hg]
  exact XAny_of_plan hc r _ _ e1 H e' H' hB.2.2 h he hh
 | .late j A :: r, listed, ob, e, H, e', H', hB, h, he, hh => by
  simp only [planOK, Bool.and_eq_true] at hB
  simp only [evPlan] at h
  cases hfr : A.all (fun i => freeName H (r0 + i)) with
  | false => rw [hfr] at h; cases h
  | true =>
   rw [hfr] at h
   simp only [cond_true] at h
   split at h <;> first | (cases h; done) | skip
   rename_i o hj
   split at h <;> first | (cases h; done) | skip
   rename_i x H1 hev
   cases hobs : (ob.all fun b => b.D.contains j || b.holds ti H1) with
   | false => rw [hobs] at h; cases h
   | true =>
    rw [hobs] at h
    simp only [cond_true] at h
    split at h <;> first | (cases h; done) | skip
    rename_i e1 hput
    obtain ⟨hd, hg⟩ := acO hput
    obtain ⟨l1, l2, l3, l4⟩ := atC hB.1
    refine ayE hc (fun e2 H2 H3 hq ⟨a, b⟩ => ⟨a, b.trans hq⟩) (L0 := listed) hj hd (fun i hi => by
        obtain ⟨a1, oi, a2, a3, a4⟩ := l2 i hi
        exact ⟨a1, oi, a2, a3, a4 o hj⟩) r.length listed ob e.get H H1 l3 l4 l1 (fun i hi _ => List.all_eq_true.1 hfr i hi) hev (fun b hb => ?_) ?_
    ·have := List.all_eq_true.1 hobs b hb
     simpa only [Bool.or_eq_true] using this
    ·rw [← hg]
     exact XAny_of_plan hc r _ _ e1 H1 e' H' hB.2 h he hh
end

end Go.Proofs.YtfkeflcdadlmdaaGreatDoor.Cc

namespace Go.Proofs.YtfkeflcdadlmdaaGreatDoor.Cc
open Go Go.RowKit

section
theorem atP {P : Program} {ti : TI} {ng : Con} {call : CallF} {e : Lk} {H : Heap} {o : Oper} {d : DV} (h : evDef ng e o = some d) : evStep P ti ng call e H o = none := by
 obtain ⟨dst, op, ty, pos, af, gd⟩ := o
 cases op <;> first | (simp [evDef] at h; done) | rfl
variable {P : Program} {ti : TI} {ng : Con} {n : Nat} {call : CallF} (hc : CallExt call) {X : Nat → Option O}
include hc
theorem aeI {ops : List Oper} : ∀ {l : List Oper} {D D' : List DV} {e e' : Tr V} {H H' H2 : Heap}, evOps P ti ng n call ops l D e H = some (D', e', H') → Ext X H H2 → ∃ H2', evOps P ti ng n call ops l D e H2 = some (D', e', H2') ∧ Ext X H' H2'
 | [], D, D', e, e', H, H', H2, h, x => by cases h; exact ⟨H2, rfl, x⟩
 | o :: l, D, D', e, e', H, H', H2, h, x => by
  simp only [evOps] at h ⊢
  split at h <;> first | (cases h; done) | skip
  ·split at h
   ·rename_i y H1 hs
    obtain ⟨H3, a1, a2⟩ := atO hc x hs
    rw [a1]
    simp only
    split at h <;> first | (cases h; done) | skip
    exact aeI h a2
   ·rename_i hs
    split at h <;> first | (cases h; done) | skip
    rename_i d hd
    rw [atP hd]
    simp only
    split at h <;> first | (cases h; done) | skip
    exact aeI h x
  ·split at h <;> first | (cases h; done) | skip
   exact aeI h x
omit hc in
theorem atQ {ops : List Oper} {e : Lk} {H H2 : Heap} {D : List Nat} {o : Oper} {r : V × List Ob} (x : Ext X H H2) (h : evFree P ti ng ops e H D o = some r) : evFree P ti ng ops e H2 D o = some r := by
 unfold evFree at h ⊢
 split at h
 ·rename_i hw
  split at h
  ·exact h
  ·split at h <;> first | (cases h; done) | skip
   split at h <;> first | (cases h; done) | skip
   split at h <;> first | (cases h; done) | skip
   rename_i y hl
   rw [x.load hl]
   exact h
 ·exact h
 ·cases h
theorem aeV {ops : List Oper} {r0 : Nat} (hX : ∀ m, r0 ≤ m → X m = none) : ∀ {pl : List PS} {ob : List Ob} {e e' : Tr V} {H H' H2 : Heap}, evPlan P ti ng n call ops r0 pl ob e H = some (e', H') → Ext X H H2 → ∃ H2', evPlan P ti ng n call ops r0 pl ob e H2 = some (e', H2') ∧ Ext X H' H2'
 | [], ob, e, e', H, H', H2, h, x => by cases h; exact ⟨H2, rfl, x⟩
 | .free i D :: l, ob, e, e', H, H', H2, h, x => by
  simp only [evPlan] at h ⊢
  split at h <;> first | (cases h; done) | skip
  split at h <;> first | (cases h; done) | skip
  rename_i y ob' hf
  rw [atQ x hf]
  simp only
  split at h <;> first | (cases h; done) | skip
  exact aeV hX h x
 | .late j A :: l, ob, e, e', H, H', H2, h, x => by
  simp only [evPlan] at h ⊢
  have hfr : (A.all fun i => freeName H2 (r0 + i)) = (A.all fun i => freeName H (r0 + i)) := by
   congr 1
   funext i
   exact acQ x (hX _ (by omega))
  rw [hfr]
  cases hb : (A.all fun i => freeName H (r0 + i)) with
  | false => rw [hb] at h; cases h
  | true =>
   rw [hb] at h
   simp only [cond_true] at h ⊢
   split at h <;> first | (cases h; done) | skip
   split at h <;> first | (cases h; done) | skip
   rename_i y H1 hev
   obtain ⟨H3, a1, a2⟩ := aoY hc x (hX _ (by omega)) hev
   rw [a1]
   simp only
   cases hob : (ob.all fun b => b.D.contains j || b.holds ti H1) with
   | false => rw [hob] at h; cases h
   | true =>
    rw [hob] at h
    have hob2 : (ob.all fun b => b.D.contains j || b.holds ti H3) = true := by
     rw [List.all_eq_true] at hob ⊢
     intro b hb
     have := hob b hb
     simp only [Bool.or_eq_true] at this ⊢
     exact this.imp id fun q => a2.holds q
    rw [hob2]
    simp only [cond_true] at h ⊢
    split at h <;> first | (cases h; done) | skip
    exact aeV hX h a2
theorem axN : ∀ {f : Nat} {c : Code} {D D' : List DV} {e e' : Tr V} {H H' H2 : Heap} {x : Ex}, evC P ti ng call n f c D e H = some (x, D', e', H') → Ext X H H2 → ∃ H2', evC P ti ng call n f c D e H2 = some (x, D', e', H2') ∧ Ext X H' H2'
 | 0, c, D, D', e, e', H, H', H2, x, h, k => by cases h
 | f + 1, c, D, D', e, e', H, H', H2, x, h, k => by
  have ih := @axN f
  cases c with
  | skip => simp only [evC] at h ⊢; cases h; exact ⟨H2, rfl, k⟩
  | label l => simp only [evC] at h ⊢; cases h; exact ⟨H2, rfl, k⟩
  | exit id => simp only [evC] at h ⊢; cases h; exact ⟨H2, rfl, k⟩
  | ret => simp only [evC] at h ⊢; cases h; exact ⟨H2, rfl, k⟩
  | region id ops draw =>
   simp only [evC, evReg] at h ⊢
   cases draw with
   | true =>
    simp only [cond_true] at h ⊢
    cases hb : (Nat.beq (mkPlan ops ops.toList.length (Array.replicate ops.size false)).length ops.toList.length && planOK ops (mkPlan ops ops.toList.length (Array.replicate ops.size false)) (Array.replicate ops.size false)) with
    | false => rw [hb] at h; cases h
    | true =>
     rw [hb] at h
     simp only [cond_true] at h ⊢
     split at h <;> first | (cases h; done) | skip
     rename_i e1 H1 hp
     cases h
     rw [k.nn]
     have k2 := k.bump ops.toList.length
     rw [k.nn] at k2
     obtain ⟨H3, a1, a2⟩ := aeV (r0 := H.nn) hc (fun m hm => k.free_nn hm) hp k2
     rw [a1]
     exact ⟨_, rfl, a2⟩
   | false =>
    simp only [cond_false] at h ⊢
    split at h <;> first | (cases h; done) | skip
    rename_i D1 e1 H1 hp
    cases h
    obtain ⟨H3, a1, a2⟩ := aeI hc hp k
    rw [a1]
    exact ⟨_, rfl, a2⟩
  | seq a b =>
   simp only [evC] at h ⊢
   cases ha : evC P ti ng call n f a D e H with
   | none => rw [ha] at h; cases h
   | some r =>
    obtain ⟨x1, D1, e1, H1⟩ := r
    obtain ⟨H3, a1, a2⟩ := ih ha k
    rw [ha] at h
    rw [a1]
    cases x1 with
    | normal => exact ih h a2
    | exit i => simp only at h ⊢; cases h; exact ⟨_, rfl, a2⟩
    | ret => simp only at h ⊢; cases h; exact ⟨_, rfl, a2⟩
  | cond c a b =>
   simp only [evC] at h ⊢
   split at h <;> first | (cases h; done) | skip
   ·exact ih h k
   ·exact ih h k
  | block id b =>
   simp only [evC] at h ⊢
   cases ha : evC P ti ng call n f b D e H with
   | none => rw [ha] at h; cases h
   | some r =>
    obtain ⟨x1, D1, e1, H1⟩ := r
    obtain ⟨H3, a1, a2⟩ := ih ha k
    rw [ha] at h
    rw [a1]
    cases x1 with
    | normal => simp only at h ⊢; cases h; exact ⟨_, rfl, a2⟩
    | exit i =>
     simp only at h ⊢
     cases hb : Nat.beq i id with
     | true => rw [hb] at h; cases h; exact ⟨_, rfl, a2⟩
     | false => rw [hb] at h; cases h; exact ⟨_, rfl, a2⟩
    | ret => simp only at h ⊢; cases h; exact ⟨_, rfl, a2⟩
  | loop b =>
   simp only [evC] at h ⊢
   cases ha : evC P ti ng call n f b D e H with
   | none => rw [ha] at h; cases h
   | some r =>
    obtain ⟨x1, D1, e1, H1⟩ := r
    obtain ⟨H3, a1, a2⟩ := ih ha k
    rw [ha] at h
    rw [a1]
    cases x1 with
    | normal => exact ih h a2
    | exit i => simp only at h ⊢; cases h; exact ⟨_, rfl, a2⟩
    | ret => simp only at h ⊢; cases h; exact ⟨_, rfl, a2⟩
  | _ => simp [evC] at h
end

theorem ajO {ti : TI} {X : Nat → Option O} {e : Lk} {H H2 : Heap} (x : Ext X H H2) : ∀ {rs : List ResultVar} {xs : List V}, resL ti e H rs = some xs → resL ti e H2 rs = some xs
 | [], xs, h => h
 | r :: rs, xs, h => by
  simp only [resL] at h ⊢
  split at h <;> first | (cases h; done) | skip
  rename_i y hy
  have hy2 : resV ti e H2 r = some y := by
   unfold resV at hy ⊢
   split at hy
   ·exact hy
   ·split at hy <;> first | (cases hy; done) | skip
    split at hy <;> first | (cases hy; done) | skip
    rename_i cs hcs
    rw [x.cells hcs]
    exact hy
  rw [hy2]
  simp only
  split at h <;> first | (cases h; done) | skip
  rename_i ys hys
  rw [ajO x hys]
  exact h
theorem qO {α : Type} {b : Bool} {x : Option α} {y : α} (h : cond b x none = some y) : b = true ∧ x = some y := by
 cases b <;> simp_all
theorem aiZ {P : Program} {ti : TI} {ng : Con} {call : CallF} (hc : CallExt call) {X : Nat → Option O} {g : FuncId} {xs : List V} {H H1 H2 : Heap} {D : List DV} {e : Tr V} {rs : List ResultVar} (h : evBody P ti ng call g xs H = some (D, e, H1, rs)) (k : Ext X H H2) :
  ∃ H3, evBody P ti ng call g xs H2 = some (D, e, H3, rs) ∧ Ext X H1 H3 := by
 simp only [evBody] at h ⊢
 split at h <;> first | (cases h; done) | skip
 rename_i fi hfi
 obtain ⟨hb, h⟩ := qO h
 rw [hb]
 simp only [cond_true]
 cases hev : evC P ti ng call fi.ntmps 100000 fi.body [] (argT 0 xs .leaf) H with
 | none => rw [hev] at h; cases h
 | some q =>
  obtain ⟨x1, D1, e1, H4⟩ := q
  obtain ⟨H3, a1, a2⟩ := axN hc hev k
  rw [hev] at h
  rw [a1]
  cases x1 with
  | exit i => cases h
  | normal => cases h; exact ⟨_, rfl, a2⟩
  | ret => cases h; exact ⟨_, rfl, a2⟩
theorem evD_ext {P : Program} {ti : TI} {ng : Con} {call : CallF} (hc : CallExt call) {X : Nat → Option O} {g : FuncId} {xs : List V} {H H1 H2 : Heap} {r : V} (h : evD P ti ng call g xs H = some (r, H1)) (k : Ext X H H2) :
  ∃ H3, evD P ti ng call g xs H2 = some (r, H3) ∧ Ext X H1 H3 := by
 simp only [evD] at h ⊢
 split at h <;> first | (cases h; done) | skip
 rename_i e H4 rs hb
 obtain ⟨H3, a1, a2⟩ := aiZ hc hb k
 rw [a1]
 simp only
 split at h <;> first | (cases h; done) | skip
 rename_i ys hys
 cases h
 rw [ajO a2 hys]
 exact ⟨_, rfl, a2⟩
theorem arA {P : Program} {ti : TI} {ng : Con} {call : CallF} (hc : CallExt call) {X : Nat → Option O} : ∀ {D : List DV} {H H1 H2 : Heap}, evDs P ti ng call D H = some H1 → Ext X H H2 → ∃ H3, evDs P ti ng call D H2 = some H3 ∧ Ext X H1 H3
 | [], H, H1, H2, h, k => by cases h; exact ⟨_, rfl, k⟩
 | d :: D, H, H1, H2, h, k => by
  simp only [evDs] at h ⊢
  split at h <;> first | (cases h; done) | skip
  rename_i hd
  obtain ⟨H3, a1, a2⟩ := evD_ext hc hd k
  rw [a1]
  exact arA hc h a2
def ModExt (isM : FuncId → List V → Bool) (mod : CallF → CallF) : Prop := ∀ call, CallExt call → ∀ f xs H r H' X H2, isM f xs = true → mod call f xs H = some (r, H') → Ext X H H2 → ∃ H2', mod call f xs H2 = some (r, H2') ∧ Ext X H' H2'
theorem axL {P : Program} {ti : TI} {ng : Con} {isM : FuncId → List V → Bool} {mod : CallF → CallF} (hm : ModExt isM mod) : ∀ f, CallExt (evF P ti ng isM mod f)
 | 0 => fun _ _ _ _ _ _ _ h _ => by cases h
 | f + 1 => fun g xs H r H' X H2 h k => by
  have ih := axL (P := P) (ti := ti) (ng := ng) hm f
  simp only [evF] at h ⊢
  cases hg : isM g xs with
  | true =>
   rw [hg] at h
   exact hm _ ih _ _ _ _ _ _ _ hg h k
  | false =>
   rw [hg] at h
   simp only [cond_false] at h ⊢
   split at h <;> first | (cases h; done) | skip
   rename_i D e H1 rs hb
   obtain ⟨H3, a1, a2⟩ := aiZ ih hb k
   rw [a1]
   simp only
   split at h <;> first | (cases h; done) | skip
   rename_i H4 hd
   obtain ⟨H5, b1, b2⟩ := arA ih hd a2
   rw [b1]
   simp only
   split at h <;> first | (cases h; done) | skip
   rename_i ys hys
   cases h
   rw [ajO b2 hys]
   exact ⟨_, rfl, b2⟩

end Go.Proofs.YtfkeflcdadlmdaaGreatDoor.Cc
