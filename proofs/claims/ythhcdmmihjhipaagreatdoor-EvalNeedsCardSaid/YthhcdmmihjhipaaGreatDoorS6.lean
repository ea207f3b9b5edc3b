/-
  The frame, part 19: bytes of texts, texts of bytes, new rows of numbers, copies, ranging over a text.
-/
import Derived.Test.YthhcdmmihjhipaaGreatDoorS5
import Derived.Test.YthhcdmmihjhipaaGreatDoorS4
import Derived.Laws.IdiomStrings
import Derived.Lib.Bytealg
import Derived.Laws.Externs
namespace Go.Proofs.YthhcdmmihjhipaaGreatDoor
open Go Go.RowKit

section
variable {P : Program} {env : Env} {H : Heap} {dst : Option Tmp} {ty : TypeId} {pos : String} {af : Array Edge} {gd : Option (Nat × Bool)}

/-! ### new rows of numbers -/
/-! ### ranging over a text -/
theorem run_getIter {w : World} {r p : Nat} {s : ByteArray} (h : w.heap[r]? = some (.stringIter s p)) : (getObj r).run P w = .ok (.stringIter s p) w := by simp [getObj, Sem.run, h]
theorem run_setIter {w : World} {r p : Nat} {s : ByteArray} (o : Obj) (h : w.heap[r]? = some (.stringIter s p)) : (setObj r o).run P w = .ok () { w with heap := w.heap.setIfInBounds r o } := by simp [setObj, Sem.run, h]
end
end Go.Proofs.YthhcdmmihjhipaaGreatDoor

namespace Go.Proofs.YthhcdmmihjhipaaGreatDoor
open Go Go.RowKit
def IsExt (P : Program) (f : FuncId) (e : Array Value → Sem Value) : Prop :=
  ∃ fn, P.funcs[f]? = some fn ∧ (fn.name == "runtime.NumGoroutine") = false ∧ fn.body.isNone = true ∧ Extern.findNext fn = none ∧ Extern.find fn = some e
theorem IsExt.run {P : Program} {f : FuncId} {e : Array Value → Sem Value} (h : IsExt P f e) (args : Array Value) (w : World) : (callFunc f args).run P w = ((e args).run P w).andThen fun v w' => .ok (.value v) w' := by
  obtain ⟨fn, h1, h2, h3, h4, h5⟩ := h
  exact run_callFunc_extern h1 h2 h3 h4 h5 args w
theorem RelVs.nil {g : G} {vs : List Value} (h : RelVs g [] vs) : vs = [] := by
  have := h.1
  cases vs with
  | nil => rfl
  | cons => simp at this
theorem RelVs.cons {g : G} {x : AV} {xs : List AV} {vs : List Value} (h : RelVs g (x :: xs) vs) : ∃ v us, vs = v :: us ∧ RelV g x v ∧ RelVs g xs us := by
  obtain ⟨h1, h2⟩ := h
  cases vs with
  | nil => simp at h1
  | cons v us => exact ⟨v, us, rfl, h2 0 x v rfl rfl, by simpa using h1, fun i y u hy hu => h2 (i + 1) y u (by simpa using hy) (by simpa using hu)⟩
theorem RelV.two {g : G} {x y : AV} {v u : Value} (h : RelV g x v) (k : RelV g y u) : RelV g (.tuple [x, y]) (.tuple #[v, u]) := by
  refine .tuple _ _ rfl fun i c z hc hz => ?_
  match i with
  | 0 => simp at hc hz; subst hc; subst hz; exact h
  | 1 => simp at hc hz; subst hc; subst hz; exact k
  | _ + 2 => simp at hc
section
variable {P : Program} {env : Env} {H : Heap} {dst : Option Tmp} {ty : TypeId} {pos : String} {af : Array Edge} {gd : Option (Nat × Bool)}
end
end Go.Proofs.YthhcdmmihjhipaaGreatDoor

namespace Go.Proofs.YthhcdmmihjhipaaGreatDoor
open Go Go.RowKit

section
variable {P : Program} {env : Env} {H : Heap} {dst : Option Tmp} {ty : TypeId} {pos : String} {af : Array Edge} {gd : Option (Nat × Bool)}
end
end Go.Proofs.YthhcdmmihjhipaaGreatDoor

namespace Go.Proofs.YthhcdmmihjhipaaGreatDoor
open Go Go.RowKit

section
variable {P : Program} {n : Fr} {ops : Array Oper}
def planPre (ops : Array Oper) : List (Nat × Bool) → Array Bool → Bool
  | [], _ => true
  | (i, p) :: r, listed => (if p then (Region.ready .any ops listed).contains i && Region.free .any ops listed i else Region.ready .any ops listed == [i]) && planPre ops r (listed.setIfInBounds i true)
def planEnd : List (Nat × Bool) → Array Bool → Array Bool
  | [], listed => listed
  | (i, _) :: r, listed => planEnd r (listed.setIfInBounds i true)
theorem XAny_of_pre {Q : Env → Heap → Prop} {fuel : Nat} : ∀ (r : List (Nat × Bool)) (listed : Array Bool) (env : Env) (H : Heap), planPre ops r listed = true → APlan P n ops (fun _ e H' => XAny P n ops Q fuel (planEnd r listed) e H') r env H → XAny P n ops Q (r.length + fuel) listed env H
  | [], listed, env, H, _, h => by
    rw [show ([] : List (Nat × Bool)).length + fuel = fuel by simp]
    exact h
  | (i, p) :: r, listed, env, H, hB, h => by
    obtain ⟨o, hi, hd, hcase⟩ := h
    simp only [planPre, Bool.and_eq_true] at hB
    obtain ⟨hB1, hB2⟩ := hB
    rw [show ((i, p) :: r).length + fuel = (r.length + fuel) + 1 by simp; omega]
    rcases hcase with ⟨rfl, x, hx, hk⟩ | ⟨rfl, hw, R, hx, hk⟩
    · simp only [if_true, Bool.and_eq_true] at hB1
      exact XAny_first hi hd (r.length + fuel) listed env H (Region.free_spec hi hB1.2) (by simpa using hB1.1) hx (XAny_of_pre r _ _ H hB2 hk)
    · simp only [Bool.false_eq_true, if_false, beq_iff_eq] at hB1
      refine ⟨fun h0 => (by rw [hB1] at h0; cases h0), fun j hj => ?_⟩
      rw [hB1] at hj
      have hji : j = i := by simpa using hj
      subst hji
      exact ⟨o, hi, hd, .inr ⟨hw, R, hx, fun y H' hR => XAny_of_pre r _ _ H' hB2 (hk y H' hR)⟩⟩
theorem APlan_mono {Q Q' : Exit → Env → Heap → Prop} (hq : ∀ e H, Q .normal e H → Q' .normal e H) : ∀ (r : List (Nat × Bool)) (env : Env) (H : Heap), APlan P n ops Q r env H → APlan P n ops Q' r env H
  | [], _, _, h => hq _ _ h
  | (_, _) :: r, _, _, ⟨o, h1, h2, h3⟩ => ⟨o, h1, h2, h3.imp (fun ⟨a, x, b, c⟩ => ⟨a, x, b, APlan_mono hq r _ _ c⟩) (fun ⟨a, b, R, c, d⟩ => ⟨a, b, R, c, fun x H' hr => APlan_mono hq r _ _ (d x H' hr)⟩)⟩
def XTwo (P : Program) (n : Fr) (ops : Array Oper) (Q : Exit → Env → Heap → Prop) (i : Nat) (r : List (Nat × Bool)) (env : Env) (H : Heap) : Prop :=
  XOp P n ops i (APlan P n ops Q r) env H
theorem XTwo.s {Q : Exit → Env → Heap → Prop} {i : Nat} {r : List (Nat × Bool)} {env : Env} {H : Heap} {op : Op} {ty : TypeId} {pos : String} {af : Array Edge} {d : Tmp} {R : AV → Heap → Prop} (hi : ops[i]? = some ⟨some d, op, ty, pos, af, none⟩) (hd : Nat.blt d n.size = true) (h : AStep P ⟨some d, op, ty, pos, af, none⟩ (Env.only (Oper.looksAt ops ⟨some d, op, ty, pos, af, none⟩) env) H R)
    (k : ∀ x H', R x H' → APlan P n ops Q r ((d, x) :: env) H') : XTwo P n ops Q i r env H :=
  ⟨_, hi, hd, .inr ⟨.free rfl, R, h, k⟩⟩
theorem AWP.draw2 {Q : Exit → Env → Heap → Prop} {env : Env} {H : Heap} {id : Nat} {l : List Oper} (pre : List (Nat × Bool)) (i j : Nat) (r1 r2 : List (Nat × Bool)) (hm : P.follows .mixedOrders = true)
    (hB : ((pre.length + (r1.length + 1) == l.length) && (r1.length == r2.length) && planPre l.toArray pre (Array.replicate l.length false) && (Region.ready .any l.toArray (planEnd pre (Array.replicate l.length false)) == [i, j]) &&
      planB l.toArray r1 ((planEnd pre (Array.replicate l.length false)).setIfInBounds i true) && planB l.toArray r2 ((planEnd pre (Array.replicate l.length false)).setIfInBounds j true)) = true)
    (h : APlan P n l.toArray (fun _ e H' => XTwo P n l.toArray Q i r1 e H' ∧ XTwo P n l.toArray Q j r2 e H') pre env H) : AWP P n (.region id l.toArray true) Q env H := by
  intro g a w hr hs
  simp only [Bool.and_eq_true, beq_iff_eq] at hB
  obtain ⟨⟨⟨⟨⟨hlen, hl2⟩, hp⟩, hrd⟩, hb1⟩, hb2⟩ := hB
  refine wp_region_any hm ?_
  have hC : XAny P n l.toArray (Q .normal) (pre.length + (r1.length + 1)) (Array.replicate l.length false) env H := by
    refine XAny_of_pre pre _ env H hp ?_
    refine APlan_mono (fun e H' hh => ?_) pre env H h
    obtain ⟨h1, h2⟩ := hh
    refine ⟨fun h0 => (by rw [hrd] at h0; cases h0), fun k hk => ?_⟩
    rw [hrd] at hk
    rcases List.mem_cons.1 hk with rfl | hk
    · exact h1.mono fun e2 H2 hq => XAny_of_plan r1 _ e2 H2 hb1 hq
    · have : k = j := by simpa using hk
      subst this
      rw [hl2]
      exact h2.mono fun e2 H2 hq => XAny_of_plan r2 _ e2 H2 hb2 hq
  rw [hlen] at hC
  rw [show l.toArray.size = l.length by simp]
  exact wpAny_of_XAny (g0 := g) (fun g' a' w' e H' hle hr' hs' hq => ⟨g', e, H', hle, hr', hs', hq⟩) _ _ g a _ env H (G.le.refl g) hr hs.drew hC
theorem Heap.set_comm {H : Heap} {b c : Nat} (h : b ≠ c) (x y : AObj) : (H.set b x).set c y = (H.set c y).set b x := by
  cases H with
  | mk objs toks =>
    simp only [Heap.set]
    congr 1
    funext k
    by_cases h1 : k = c
    · subst h1; simp [Ne.symm h]
    · by_cases h2 : k = b
      · subst h2; simp [h]
      · simp [h1, h2]
end
end Go.Proofs.YthhcdmmihjhipaaGreatDoor

namespace Go.Proofs.YthhcdmmihjhipaaGreatDoor
open Go Go.RowKit

section
variable {P : Program} {env : Env} {H : Heap} {dst : Option Tmp} {ty : TypeId} {pos : String} {af : Array Edge} {gd : Option (Nat × Bool)}
end
end Go.Proofs.YthhcdmmihjhipaaGreatDoor
