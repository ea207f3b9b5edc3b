/-
  The frame: a region that draws its order, where operations read memory that may turn: what they read stands as long as memory keeps to something ('I').
-/
import Derived.Test.YtifoddpbmlajfaaGreatDoorS4
import Derived.Test.YtifoddpbmlajfaaGreatDoorS6
import Derived.Test.YtifoddpbmlajfaaGreatDoorS5
import Derived.Defers
namespace Go.Proofs.YtifoddpbmlajfaaGreatDoor
open Go Go.RowKit

def SteadyI (I : Heap → Prop) (P : Program) (ops : Array Oper) (o : Oper) (env : Env) (x : AV) : Prop :=
  (Wanted ops (Env.only (o.looksAt ops) env) o true ∧ ∀ H, I H → AStep P o (Env.only (o.looksAt ops) env) H (fun y H' => y = x ∧ H' = H)) ∨ (Wanted ops (Env.only (o.looksAt ops) env) o false ∧ x = .raw undef)
section
variable {P : Program} {n : Fr} {ops : Array Oper} {I : Heap → Prop}
def XOpI (I : Heap → Prop) (P : Program) (n : Fr) (ops : Array Oper) (i : Nat) (K : Env → Heap → Prop) (env : Env) (H : Heap) : Prop :=
  ∃ o, ops[i]? = some o ∧ fits n o.dst = true ∧ ((Wanted ops (Env.only (o.looksAt ops) env) o false ∧ K (env.put o.dst (.raw undef)) H) ∨
    (Wanted ops (Env.only (o.looksAt ops) env) o true ∧ ∃ R, AStep P o (Env.only (o.looksAt ops) env) H R ∧ ∀ x H', R x H' → I H' ∧ K (env.put o.dst x) H'))
theorem XOpI.mono {i : Nat} {K K' : Env → Heap → Prop} {env : Env} {H : Heap} (hI : I H) (h : ∀ e H, I H → K e H → K' e H) (k : XOpI I P n ops i K env H) : XOpI I P n ops i K' env H := by
  obtain ⟨o, h1, h2, h3⟩ := k
  exact ⟨o, h1, h2, h3.imp (fun ⟨a, b⟩ => ⟨a, h _ _ hI b⟩) (fun ⟨a, R, b, c⟩ => ⟨a, R, b, fun x H' hr => ⟨(c x H' hr).1, h _ _ (c x H' hr).1 (c x H' hr).2⟩⟩)⟩
def XAnyI (I : Heap → Prop) (P : Program) (n : Fr) (ops : Array Oper) (Q : Env → Heap → Prop) : Nat → Array Bool → Env → Heap → Prop
  | 0, listed, env, H => Region.ready .any ops listed = [] ∧ ∃ e, e.eqv env ∧ Q e H
  | fuel + 1, listed, env, H => (Region.ready .any ops listed = [] → ∃ e, e.eqv env ∧ Q e H) ∧ ∀ i ∈ Region.ready .any ops listed, XOpI I P n ops i (XAnyI I P n ops Q fuel (listed.setIfInBounds i true)) env H
theorem XAnyI.any {Q : Env → Heap → Prop} : ∀ (fuel : Nat) (listed : Array Bool) (env : Env) (H : Heap), XAnyI I P n ops Q fuel listed env H → XAny P n ops Q fuel listed env H
  | 0, _, _, _, h => h
  | fuel + 1, _, _, _, ⟨h0, h1⟩ => ⟨h0, fun i hi => by
    obtain ⟨o, a, b, c⟩ := h1 i hi
    exact ⟨o, a, b, c.imp (fun ⟨p, q⟩ => ⟨p, XAnyI.any fuel _ _ _ q⟩) (fun ⟨p, R, q, r⟩ => ⟨p, R, q, fun x H' hr => XAnyI.any fuel _ _ _ (r x H' hr).2⟩)⟩⟩
theorem XOpI.eqv {i : Nat} {K : Env → Heap → Prop} {e e' : Env} {H : Heap} (h : e.eqv e') (hK : ∀ e e' H, e.eqv e' → K e H → K e' H) (k : XOpI I P n ops i K e H) : XOpI I P n ops i K e' H := by
  obtain ⟨o, h1, h2, h3⟩ := k
  have ho : Env.only (o.looksAt ops) e = Env.only (o.looksAt ops) e' := only_congr fun t _ => h t
  rw [ho] at h3
  exact ⟨o, h1, h2, h3.imp (fun ⟨a, b⟩ => ⟨a, hK _ _ _ (h.put _ _) b⟩) (fun ⟨a, R, b, c⟩ => ⟨a, R, b, fun x H' hr => ⟨(c x H' hr).1, hK _ _ _ (h.put _ _) (c x H' hr).2⟩⟩)⟩
theorem XAnyI.eqv {Q : Env → Heap → Prop} : ∀ (fuel : Nat) (listed : Array Bool) (e e' : Env) (H : Heap), e.eqv e' → XAnyI I P n ops Q fuel listed e H → XAnyI I P n ops Q fuel listed e' H
  | 0, _, _, _, _, h, ⟨h0, e0, h1, h2⟩ => ⟨h0, e0, fun t => (h1 t).trans (h t), h2⟩
  | fuel + 1, _, _, _, _, h, ⟨h0, h1⟩ => ⟨fun hr => let ⟨e0, q1, q2⟩ := h0 hr; ⟨e0, fun t => (q1 t).trans (h t), q2⟩, fun i hi => (h1 i hi).eqv h fun e e' H he hk => XAnyI.eqv fuel _ e e' H he hk⟩
theorem SteadyI.xop {i : Nat} {o : Oper} {x : AV} {env : Env} {H : Heap} (hI : I H) (hi : ops[i]? = some o) (hd : fits n o.dst = true) (h : SteadyI I P ops o env x) {K : Env → Heap → Prop} (k : K (env.put o.dst x) H) : XOpI I P n ops i K env H := by
  rcases h with ⟨hw, hf⟩ | ⟨hw, rfl⟩
  · exact ⟨o, hi, hd, .inr ⟨hw, _, hf H hI, fun y H' ⟨e1, e2⟩ => by subst e1; subst e2; exact ⟨hI, k⟩⟩⟩
  · exact ⟨o, hi, hd, .inl ⟨hw, k⟩⟩
theorem SteadyI.same {o : Oper} {x : AV} {e e' : Env} (h : ∀ t, t ∈ o.looksAt ops → e.get? t = e'.get? t) (k : SteadyI I P ops o e x) : SteadyI I P ops o e' x := by
  unfold SteadyI at *
  rw [only_congr h] at k
  exact k
theorem XOpI.put {j : Nat} {oi oj : Oper} {x : AV} (hj : ops[j]? = some oj) (hap : oi.apart ops oj = true) {K : Env → Heap → Prop} (hK : ∀ e e' H, e.eqv e' → K e H → K e' H) {env : Env} {H : Heap} (hy : SteadyI I P ops oi env x) (h : XOpI I P n ops j K (env.put oi.dst x) H) :
    XOpI I P n ops j (fun e H' => SteadyI I P ops oi e x ∧ K (e.put oi.dst x) H') env H := by
  obtain ⟨h1, h2, h3⟩ := Oper.apart_spec hap
  obtain ⟨o, ho, hd, hc⟩ := h
  have : o = oj := Option.some.inj (ho.symm.trans hj)
  subst this
  have e1 : Env.only (o.looksAt ops) (env.put oi.dst x) = Env.only (o.looksAt ops) env := only_congr fun t ht => get_put_ne _ _ (fun e => h1 t e ht)
  rw [e1] at hc
  have keep : ∀ u, SteadyI I P ops oi (env.put o.dst u) x := fun u => hy.same fun t ht => (get_put_ne _ _ (fun e => h3 t e ht)).symm
  have sw : ∀ u, ((env.put oi.dst x).put o.dst u).eqv ((env.put o.dst u).put oi.dst x) := fun u => Env.put_swap env x u h2
  exact ⟨o, ho, hd, hc.imp (fun ⟨a, b⟩ => ⟨a, keep _, hK _ _ _ (sw _) b⟩) (fun ⟨a, R, b, c⟩ => ⟨a, R, b, fun y H' hr => ⟨(c y H' hr).1, keep _, hK _ _ _ (sw _) (c y H' hr).2⟩⟩)⟩
theorem XAnyI_first {Q : Env → Heap → Prop} {i : Nat} {oi : Oper} {x : AV} (hi : ops[i]? = some oi) (hd : fits n oi.dst = true) :
    ∀ (fuel : Nat) (listed : Array Bool) (env : Env) (H : Heap), I H →
      (∀ j oj, ops[j]? = some oj → j ≠ i → listed.getD j true = false → (∀ e ∈ oj.after, Region.binds .any e = true → e.on ≠ i) → oi.apart ops oj = true) →
      i ∈ Region.ready .any ops listed → SteadyI I P ops oi env x →
      XAnyI I P n ops Q fuel (listed.setIfInBounds i true) (env.put oi.dst x) H → XAnyI I P n ops Q (fuel + 1) listed env H := by
  intro fuel
  induction fuel with
  | zero =>
    intro listed env H hI _ hr hy hC
    refine ⟨fun h => (by rw [h] at hr; cases hr), fun j hj => ?_⟩
    by_cases hji : j = i
    · subst hji; exact hy.xop hI hi hd hC
    · have := ready_mono hj hji
      rw [hC.1] at this
      cases this
  | succ fuel ih =>
    intro listed env H hI hfree hr hy hC
    refine ⟨fun h => (by rw [h] at hr; cases hr), fun j hj => ?_⟩
    by_cases hji : j = i
    · subst hji; exact hy.xop hI hi hd hC
    · have h1 := hC.2 j (ready_mono hj hji)
      obtain ⟨hjun, oj, hoj, hall⟩ := mem_ready.1 hj
      have hnot : ∀ e ∈ oj.after, Region.binds .any e = true → e.on ≠ i := fun e he hb heq => by
        have h1 := hall e he hb
        have h0 := (mem_ready.1 hr).1
        rw [heq] at h1
        rcases Nat.lt_or_ge i listed.size with h' | h'
        · simp [h'] at h0 h1; rw [h0] at h1; cases h1
        · simp [Array.getElem?_eq_none h'] at h1
      have h2 := XOpI.put hoj (hfree j oj hoj hji hjun hnot) (fun e e' H he hk => XAnyI.eqv fuel _ e e' H he hk) hy h1
      have hfree' : ∀ k ok, ops[k]? = some ok → k ≠ i → (listed.setIfInBounds j true).getD k true = false →
          (∀ e ∈ ok.after, Region.binds .any e = true → e.on ≠ i) → oi.apart ops ok = true := fun k ok hk hki hun hno => by
        refine hfree k ok hk hki ?_ hno
        by_cases hjk : j = k
        · subst hjk; exact hjun
        · rw [getD_set_ne true hjk] at hun; exact hun
      refine XOpI.mono hI (fun e H' hI' h3 => ih (listed.setIfInBounds j true) e H' hI' hfree' (ready_mono hr (Ne.symm hji)) h3.1 ?_) h2
      rw [Array.setIfInBounds_comm _ _ hji]
      exact h3.2
def APlanI (I : Heap → Prop) (P : Program) (n : Fr) (ops : Array Oper) (Q : Exit → Env → Heap → Prop) : List (Nat × Bool) → Env → Heap → Prop
  | [], env, H => Q .normal env H
  | (i, p) :: r, env, H => ∃ o, ops[i]? = some o ∧ fits n o.dst = true ∧
      ((p = true ∧ ∃ x, SteadyI I P ops o env x ∧ APlanI I P n ops Q r (env.put o.dst x) H) ∨
       (p = false ∧ Wanted ops (Env.only (o.looksAt ops) env) o true ∧ ∃ R, AStep P o (Env.only (o.looksAt ops) env) H R ∧ ∀ x H', R x H' → I H' ∧ APlanI I P n ops Q r (env.put o.dst x) H'))
theorem XAnyI_of_plan {Q : Exit → Env → Heap → Prop} : ∀ (r : List (Nat × Bool)) (listed : Array Bool) (env : Env) (H : Heap), I H → planB ops r listed = true → APlanI I P n ops Q r env H → XAnyI I P n ops (Q .normal) r.length listed env H
  | [], listed, env, H, _, hB, h => ⟨by simpa [planB] using hB, env, fun _ => rfl, h⟩
  | (i, p) :: r, listed, env, H, hI, hB, h => by
    obtain ⟨o, hi, hd, hcase⟩ := h
    simp only [planB, Bool.and_eq_true] at hB
    obtain ⟨hB1, hB2⟩ := hB
    rcases hcase with ⟨rfl, x, hx, hk⟩ | ⟨rfl, hw, R, hx, hk⟩
    · simp only [if_true, Bool.and_eq_true] at hB1
      exact XAnyI_first hi hd r.length listed env H hI (Region.free_spec hi hB1.2) (by simpa using hB1.1) hx (XAnyI_of_plan r _ _ H hI hB2 hk)
    · simp only [Bool.false_eq_true, if_false, beq_iff_eq] at hB1
      refine ⟨fun h0 => (by rw [hB1] at h0; cases h0), fun j hj => ?_⟩
      rw [hB1] at hj
      have hji : j = i := by simpa using hj
      subst hji
      exact ⟨o, hi, hd, .inr ⟨hw, R, hx, fun y H' hR => ⟨(hk y H' hR).1, XAnyI_of_plan r _ _ H' (hk y H' hR).1 hB2 (hk y H' hR).2⟩⟩⟩
theorem AWP.drawI (I : Heap → Prop) {Q : Exit → Env → Heap → Prop} {env : Env} {H : Heap} {id : Nat} {l : List Oper} (plan : List (Nat × Bool)) (hI : I H) (hm : P.follows .mixedOrders = true)
    (hB : ((plan.length == l.length) && planB l.toArray plan (Array.replicate l.length false)) = true)
    (h : APlanI I P n l.toArray Q plan env H) : AWP P n (.region id l.toArray true) Q env H := by
  intro g a w hr hs
  simp only [Bool.and_eq_true, beq_iff_eq] at hB
  obtain ⟨hlen, hB⟩ := hB
  refine wp_region_any hm ?_
  have hC := (XAnyI_of_plan plan _ env H hI hB h).any
  rw [hlen] at hC
  rw [show l.toArray.size = l.length by simp]
  exact wpAny_of_XAny (g0 := g) (fun g' a' w' e H' hle hr' hs' hq => ⟨g', e, H', hle, hr', hs', hq⟩) _ _ g a _ env H (G.le.refl g) hr hs.drew hC
variable {Q : Exit → Env → Heap → Prop} {env : Env} {H : Heap} {i : Nat} {r : List (Nat × Bool)} {op : Op} {ty : TypeId} {pos : String} {af : Array Edge} {x : AV}
theorem APlanI.nil (h : Q .normal env H) : APlanI I P n ops Q [] env H := h
theorem APlanI.p {d : Tmp} (hi : ops[i]? = some ⟨some d, op, ty, pos, af, none⟩) (hd : Nat.blt d n.size = true) (h : APure P ⟨some d, op, ty, pos, af, none⟩ (Env.only (Oper.looksAt ops ⟨some d, op, ty, pos, af, none⟩) env) x) (k : APlanI I P n ops Q r ((d, x) :: env) H) : APlanI I P n ops Q ((i, true) :: r) env H :=
  ⟨_, hi, hd, .inl ⟨rfl, x, .inl ⟨.free rfl, fun H' _ => h.step H'⟩, k⟩⟩
theorem APlanI.f {d : Tmp} (hi : ops[i]? = some ⟨some d, op, ty, pos, af, none⟩) (hd : Nat.blt d n.size = true) (h : ∀ H, I H → AStep P ⟨some d, op, ty, pos, af, none⟩ (Env.only (Oper.looksAt ops ⟨some d, op, ty, pos, af, none⟩) env) H (fun y H' => y = x ∧ H' = H)) (k : APlanI I P n ops Q r ((d, x) :: env) H) : APlanI I P n ops Q ((i, true) :: r) env H :=
  ⟨_, hi, hd, .inl ⟨rfl, x, .inl ⟨.free rfl, h⟩, k⟩⟩
theorem APlanI.s {d : Tmp} {R : AV → Heap → Prop} (hi : ops[i]? = some ⟨some d, op, ty, pos, af, none⟩) (hd : Nat.blt d n.size = true) (h : AStep P ⟨some d, op, ty, pos, af, none⟩ (Env.only (Oper.looksAt ops ⟨some d, op, ty, pos, af, none⟩) env) H R) (k : ∀ x H', R x H' → I H' ∧ APlanI I P n ops Q r ((d, x) :: env) H') :
    APlanI I P n ops Q ((i, false) :: r) env H := ⟨_, hi, hd, .inr ⟨rfl, .free rfl, R, h, k⟩⟩
theorem APlanI.s0 {R : AV → Heap → Prop} (hi : ops[i]? = some ⟨none, op, ty, pos, af, none⟩) (h : AStep P ⟨none, op, ty, pos, af, none⟩ (Env.only (Oper.looksAt ops ⟨none, op, ty, pos, af, none⟩) env) H R) (k : ∀ x H', R x H' → I H' ∧ APlanI I P n ops Q r env H') :
    APlanI I P n ops Q ((i, false) :: r) env H := ⟨_, hi, rfl, .inr ⟨rfl, .free rfl, R, h, k⟩⟩
theorem APlanI.gp {d : Tmp} {e : Tmp} {j : Nat} {want b : Bool} (hi : ops[i]? = some ⟨some d, op, ty, pos, af, some (j, want)⟩) (hd : Nat.blt d n.size = true) (hg : (ops[j]?).bind (·.dst) = some e) (hb : (Env.only (Oper.looksAt ops ⟨some d, op, ty, pos, af, some (j, want)⟩) env).get? e = some (.bool b)) (hbw : b = want)
    (h : APure P ⟨some d, op, ty, pos, af, some (j, want)⟩ (Env.only (Oper.looksAt ops ⟨some d, op, ty, pos, af, some (j, want)⟩) env) x) (k : APlanI I P n ops Q r ((d, x) :: env) H) : APlanI I P n ops Q ((i, true) :: r) env H :=
  ⟨_, hi, hd, .inl ⟨rfl, x, .inl ⟨.yes rfl hg hb hbw, fun H' _ => h.step H'⟩, k⟩⟩
theorem APlanI.gf {d : Tmp} {e : Tmp} {j : Nat} {want b : Bool} (hi : ops[i]? = some ⟨some d, op, ty, pos, af, some (j, want)⟩) (hd : Nat.blt d n.size = true) (hg : (ops[j]?).bind (·.dst) = some e) (hb : (Env.only (Oper.looksAt ops ⟨some d, op, ty, pos, af, some (j, want)⟩) env).get? e = some (.bool b)) (hbw : b = want)
    (h : ∀ H, I H → AStep P ⟨some d, op, ty, pos, af, some (j, want)⟩ (Env.only (Oper.looksAt ops ⟨some d, op, ty, pos, af, some (j, want)⟩) env) H (fun y H' => y = x ∧ H' = H)) (k : APlanI I P n ops Q r ((d, x) :: env) H) : APlanI I P n ops Q ((i, true) :: r) env H :=
  ⟨_, hi, hd, .inl ⟨rfl, x, .inl ⟨.yes rfl hg hb hbw, h⟩, k⟩⟩
theorem APlanI.gn {d : Tmp} {e : Tmp} {j : Nat} {want b : Bool} (hi : ops[i]? = some ⟨some d, op, ty, pos, af, some (j, want)⟩) (hd : Nat.blt d n.size = true) (hg : (ops[j]?).bind (·.dst) = some e) (hb : (Env.only (Oper.looksAt ops ⟨some d, op, ty, pos, af, some (j, want)⟩) env).get? e = some (.bool b)) (hbw : b = !want)
    (k : APlanI I P n ops Q r ((d, .raw undef) :: env) H) : APlanI I P n ops Q ((i, true) :: r) env H :=
  ⟨_, hi, hd, .inl ⟨rfl, _, .inr ⟨.no rfl hg hb hbw, rfl⟩, k⟩⟩
theorem APlanI.gdead {d : Tmp} {e : Tmp} {j : Nat} {want : Bool} (hi : ops[i]? = some ⟨some d, op, ty, pos, af, some (j, want)⟩) (hd : Nat.blt d n.size = true) (hg : (ops[j]?).bind (·.dst) = some e) (hb : (Env.only (Oper.looksAt ops ⟨some d, op, ty, pos, af, some (j, want)⟩) env).get? e = some (.raw undef))
    (k : APlanI I P n ops Q r ((d, .raw undef) :: env) H) : APlanI I P n ops Q ((i, true) :: r) env H :=
  ⟨_, hi, hd, .inl ⟨rfl, _, .inr ⟨.dead j want e rfl hg hb, rfl⟩, k⟩⟩
end
end Go.Proofs.YtifoddpbmlajfaaGreatDoor

namespace Go.Proofs.YtifoddpbmlajfaaGreatDoor
open Go Go.RowKit

inductive PT where
  | done : PT
  | op (i : Nat) (p : Bool) (k : PT) : PT
  | two (i : Nat) (a : PT) (j : Nat) (b : PT) : PT
def PT.size : PT → Nat
  | .done => 0
  | .op _ _ k => k.size + 1
  | .two _ a _ _ => a.size + 1
section
def ATree (P : Program) (n : Fr) (ops : Array Oper) (Q : Exit → Env → Heap → Prop) : PT → Env → Heap → Prop
  | .done, env, H => Q .normal env H
  | .op i p k, env, H => ∃ o, ops[i]? = some o ∧ fits n o.dst = true ∧
      ((p = true ∧ ∃ x, Steady P ops o env x ∧ ATree P n ops Q k (env.put o.dst x) H) ∨
       (p = false ∧ Wanted ops (Env.only (o.looksAt ops) env) o true ∧ ∃ R, AStep P o (Env.only (o.looksAt ops) env) H R ∧ ∀ x H', R x H' → ATree P n ops Q k (env.put o.dst x) H'))
  | .two i a j b, env, H => XOp P n ops i (ATree P n ops Q a) env H ∧ XOp P n ops j (ATree P n ops Q b) env H
variable {P : Program} {n : Fr} {ops : Array Oper}
variable {Q : Exit → Env → Heap → Prop} {env : Env} {H : Heap}
theorem ATree.nil (h : Q .normal env H) : ATree P n ops Q .done env H := h
theorem ATree.free {i : Nat} {o : Oper} {r : PT} {x : AV} (hi : ops[i]? = some o) (hw : Wanted ops (Env.only (o.looksAt ops) env) o true) (hd : fits n o.dst = true) (h : AFree P o (Env.only (o.looksAt ops) env) x) (hk : ATree P n ops Q r (env.put o.dst x) H) :
    ATree P n ops Q (.op i true r) env H := ⟨o, hi, hd, .inl ⟨rfl, x, .inl ⟨hw, h⟩, hk⟩⟩
theorem ATree.unwanted {i : Nat} {o : Oper} {r : PT} (hi : ops[i]? = some o) (hw : Wanted ops (Env.only (o.looksAt ops) env) o false) (hd : fits n o.dst = true) (hk : ATree P n ops Q r (env.put o.dst (.raw undef)) H) :
    ATree P n ops Q (.op i true r) env H := ⟨o, hi, hd, .inl ⟨rfl, _, .inr ⟨hw, rfl⟩, hk⟩⟩
theorem ATree.step {i : Nat} {o : Oper} {r : PT} {R : AV → Heap → Prop} (hi : ops[i]? = some o) (hw : Wanted ops (Env.only (o.looksAt ops) env) o true) (hd : fits n o.dst = true) (h : AStep P o (Env.only (o.looksAt ops) env) H R)
    (hk : ∀ x H', R x H' → ATree P n ops Q r (env.put o.dst x) H') : ATree P n ops Q (.op i false r) env H := ⟨o, hi, hd, .inr ⟨rfl, hw, R, h, hk⟩⟩
theorem XTree.s {i : Nat} {r : PT} {op : Op} {ty : TypeId} {pos : String} {af : Array Edge} {d : Tmp} {R : AV → Heap → Prop} (hi : ops[i]? = some ⟨some d, op, ty, pos, af, none⟩) (hd : Nat.blt d n.size = true) (h : AStep P ⟨some d, op, ty, pos, af, none⟩ (Env.only (Oper.looksAt ops ⟨some d, op, ty, pos, af, none⟩) env) H R)
    (k : ∀ x H', R x H' → ATree P n ops Q r ((d, x) :: env) H') : XOp P n ops i (ATree P n ops Q r) env H :=
  ⟨_, hi, hd, .inr ⟨.free rfl, R, h, k⟩⟩
variable {op : Op} {ty : TypeId} {pos : String} {af : Array Edge} {x : AV} {i : Nat} {r : PT}
theorem ATree.p {d : Tmp} (hi : ops[i]? = some ⟨some d, op, ty, pos, af, none⟩) (hd : Nat.blt d n.size = true) (h : APure P ⟨some d, op, ty, pos, af, none⟩ (Env.only (Oper.looksAt ops ⟨some d, op, ty, pos, af, none⟩) env) x) (k : ATree P n ops Q r ((d, x) :: env) H) : ATree P n ops Q (.op i true r) env H :=
  ATree.free hi (.free rfl) hd h.free k
theorem ATree.f {d : Tmp} (hi : ops[i]? = some ⟨some d, op, ty, pos, af, none⟩) (hd : Nat.blt d n.size = true) (h : AFree P ⟨some d, op, ty, pos, af, none⟩ (Env.only (Oper.looksAt ops ⟨some d, op, ty, pos, af, none⟩) env) x) (k : ATree P n ops Q r ((d, x) :: env) H) : ATree P n ops Q (.op i true r) env H :=
  ATree.free hi (.free rfl) hd h k
theorem ATree.s {d : Tmp} {R : AV → Heap → Prop} (hi : ops[i]? = some ⟨some d, op, ty, pos, af, none⟩) (hd : Nat.blt d n.size = true) (h : AStep P ⟨some d, op, ty, pos, af, none⟩ (Env.only (Oper.looksAt ops ⟨some d, op, ty, pos, af, none⟩) env) H R) (k : ∀ x H', R x H' → ATree P n ops Q r ((d, x) :: env) H') :
    ATree P n ops Q (.op i false r) env H := ATree.step hi (.free rfl) hd h k
theorem ATree.s0 {R : AV → Heap → Prop} (hi : ops[i]? = some ⟨none, op, ty, pos, af, none⟩) (h : AStep P ⟨none, op, ty, pos, af, none⟩ (Env.only (Oper.looksAt ops ⟨none, op, ty, pos, af, none⟩) env) H R) (k : ∀ x H', R x H' → ATree P n ops Q r env H') :
    ATree P n ops Q (.op i false r) env H := ATree.step hi (.free rfl) rfl h k
theorem ATree.gp {d : Tmp} {e : Tmp} {j : Nat} {want b : Bool} (hi : ops[i]? = some ⟨some d, op, ty, pos, af, some (j, want)⟩) (hd : Nat.blt d n.size = true) (hg : (ops[j]?).bind (·.dst) = some e) (hb : (Env.only (Oper.looksAt ops ⟨some d, op, ty, pos, af, some (j, want)⟩) env).get? e = some (.bool b)) (hbw : b = want)
    (h : APure P ⟨some d, op, ty, pos, af, some (j, want)⟩ (Env.only (Oper.looksAt ops ⟨some d, op, ty, pos, af, some (j, want)⟩) env) x) (k : ATree P n ops Q r ((d, x) :: env) H) : ATree P n ops Q (.op i true r) env H :=
  ATree.free hi (.yes rfl hg hb hbw) hd h.free k
theorem ATree.gf {d : Tmp} {e : Tmp} {j : Nat} {want b : Bool} (hi : ops[i]? = some ⟨some d, op, ty, pos, af, some (j, want)⟩) (hd : Nat.blt d n.size = true) (hg : (ops[j]?).bind (·.dst) = some e) (hb : (Env.only (Oper.looksAt ops ⟨some d, op, ty, pos, af, some (j, want)⟩) env).get? e = some (.bool b)) (hbw : b = want)
    (h : AFree P ⟨some d, op, ty, pos, af, some (j, want)⟩ (Env.only (Oper.looksAt ops ⟨some d, op, ty, pos, af, some (j, want)⟩) env) x) (k : ATree P n ops Q r ((d, x) :: env) H) : ATree P n ops Q (.op i true r) env H :=
  ATree.free hi (.yes rfl hg hb hbw) hd h k
theorem ATree.gs {d : Tmp} {e : Tmp} {j : Nat} {want b : Bool} {R : AV → Heap → Prop} (hi : ops[i]? = some ⟨some d, op, ty, pos, af, some (j, want)⟩) (hd : Nat.blt d n.size = true) (hg : (ops[j]?).bind (·.dst) = some e) (hb : (Env.only (Oper.looksAt ops ⟨some d, op, ty, pos, af, some (j, want)⟩) env).get? e = some (.bool b)) (hbw : b = want)
    (h : AStep P ⟨some d, op, ty, pos, af, some (j, want)⟩ (Env.only (Oper.looksAt ops ⟨some d, op, ty, pos, af, some (j, want)⟩) env) H R) (k : ∀ x H', R x H' → ATree P n ops Q r ((d, x) :: env) H') : ATree P n ops Q (.op i false r) env H :=
  ATree.step hi (.yes rfl hg hb hbw) hd h k
theorem ATree.gn {d : Tmp} {e : Tmp} {j : Nat} {want b : Bool} (hi : ops[i]? = some ⟨some d, op, ty, pos, af, some (j, want)⟩) (hd : Nat.blt d n.size = true) (hg : (ops[j]?).bind (·.dst) = some e) (hb : (Env.only (Oper.looksAt ops ⟨some d, op, ty, pos, af, some (j, want)⟩) env).get? e = some (.bool b)) (hbw : b = !want)
    (k : ATree P n ops Q r ((d, .raw undef) :: env) H) : ATree P n ops Q (.op i true r) env H :=
  ATree.unwanted hi (.no rfl hg hb hbw) hd k

theorem ATree.gdead {d : Tmp} {e : Tmp} {j : Nat} {want : Bool} (hi : ops[i]? = some ⟨some d, op, ty, pos, af, some (j, want)⟩) (hd : Nat.blt d n.size = true) (hg : (ops[j]?).bind (·.dst) = some e) (hb : (Env.only (Oper.looksAt ops ⟨some d, op, ty, pos, af, some (j, want)⟩) env).get? e = some (.raw undef))
    (k : ATree P n ops Q r ((d, .raw undef) :: env) H) : ATree P n ops Q (.op i true r) env H :=
  ATree.unwanted hi (.dead j want e rfl hg hb) hd k

end
end Go.Proofs.YtifoddpbmlajfaaGreatDoor

namespace Go.Proofs.YtifoddpbmlajfaaGreatDoor
open Go Go.RowKit
section
variable {P : Program} {dst : Option Tmp} {ty : TypeId} {pos : String} {af : Array Go.Edge} {gd : Option (Nat × Bool)} {env : Env} {H : Heap}
end
end Go.Proofs.YtifoddpbmlajfaaGreatDoor

namespace Go.Proofs.YtifoddpbmlajfaaGreatDoor
open Go Go.RowKit
section
variable {P : Program} {env : Env} {H : Heap} {dst : Option Tmp} {ty : TypeId} {pos : String} {af : Array Edge} {gd : Option (Nat × Bool)}
end
section
variable {P : Program} {n : Fr} {Q : Exit → Env → Heap → Prop} {env : Env} {H : Heap}
theorem Sat.rebox {g : G} {H : Heap} {w : World} (h : Sat g H w) {b : Nat} {T : TypeId} {cs cs' : List AV} (hb : H.objs b = some (.box T cs)) (hw : ∀ vs, RelCells g cs vs → RelCells g cs' vs) : Sat g (H.set b (.box T cs')) w := {
  below := h.below
  imm := h.imm
  box b' T' cs2 hb' := by
    by_cases e : b' = b
    · subst e
      simp only [Heap.objs_set_same, Option.some.injEq, AObj.box.injEq] at hb'
      obtain ⟨rfl, rfl⟩ := hb'
      obtain ⟨vs, hv, hr⟩ := h.box _ _ _ hb
      exact ⟨vs, hv, hw vs hr⟩
    · rw [Heap.objs_set_ne _ _ e] at hb'; exact h.box _ _ _ hb'
  map b' es hb' := by
    by_cases e : b' = b
    · subst e; simp at hb'
    · rw [Heap.objs_set_ne _ _ e] at hb'; exact h.map _ _ hb'
  raw b' o hb' := by
    by_cases e : b' = b
    · subst e; simp at hb'
    · rw [Heap.objs_set_ne _ _ e] at hb'; exact h.raw _ _ hb'
  own b' x hb' := by
    by_cases e : b' = b
    · subst e; exact h.own _ _ hb
    · rw [Heap.objs_set_ne _ _ e] at hb'; exact h.own _ _ hb'
  tok t b' lo n ht hk hn := by
    obtain ⟨h1, h2, h3, h4⟩ := h.tok t b' lo n ht hk hn
    refine ⟨h1, ?_, h3, h4⟩
    have e : b' ≠ b := by rintro rfl; rw [h2] at hb; cases hb
    rw [Heap.objs_set_ne _ _ e]; exact h2
  tokLt := h.tokLt
  sep := h.sep }
theorem AWP.rebox {c : Code} {b : Nat} {T : TypeId} {cs cs' : List AV} (hb : H.objs b = some (.box T cs)) (hw : ∀ g vs, RelCells g cs vs → RelCells g cs' vs) (h : AWP P n c Q env (H.set b (.box T cs'))) : AWP P n c Q env H :=
  fun g a w k s => h g a w k (s.rebox hb (hw g))
theorem RelCells.weak {g : G} {cs cs' : List AV} {vs : Array Value} (h : RelCells g cs vs) (hl : cs'.length = cs.length) (hw : ∀ (i : Nat) c c', cs[i]? = some c → cs'[i]? = some c' → Weak c c') : RelCells g cs' vs := by
  refine ⟨hl.trans h.1, fun i c v hc hv => ?_⟩
  have hi : i < cs.length := by rw [← hl]; exact (List.getElem?_eq_some_iff.1 hc).1
  exact (hw i _ c (List.getElem?_eq_getElem hi) hc).rel (h.2 i _ v (List.getElem?_eq_getElem hi) hv)
end
/-! ### calls that are put off -/
section
variable {P : Program}
def LiftD (g : G) (sz : Nat) (Q : List Deferred → Exit → Env → Heap → Prop) : Exit → Act → World → Prop :=
  fun e a w => ∃ g' env H ds, g.le g' ∧ RelAct g' ⟨sz, ds⟩ env a ∧ Sat g' H w ∧ Q ds e env H
theorem LiftD.up {g g' : G} (h : g.le g') {sz : Nat} {Q : List Deferred → Exit → Env → Heap → Prop} {e : Exit} {a : Act} {w : World} (k : LiftD g' sz Q e a w) : LiftD g sz Q e a w :=
  let ⟨g'', env, H, ds, h1, h2⟩ := k; ⟨g'', env, H, ds, h.trans h1, h2⟩
def AWPD (P : Program) (n : Fr) (c : Code) (Q : List Deferred → Exit → Env → Heap → Prop) (env : Env) (H : Heap) : Prop :=
  ∀ g a w, RelAct g n env a → Sat g H w → c.wp P (LiftD g n.size Q) a w
variable {n : Fr} {Q : List Deferred → Exit → Env → Heap → Prop} {env : Env} {H : Heap}
theorem AWPD.of {c : Code} (h : AWP P n c (Q n.defs) env H) : AWPD P n c Q env H :=
  fun g a w k s => wp_mono (h g a w k s) fun _ _ _ ⟨g', e, H', h1, h2, h3, h4⟩ => ⟨g', e, H', n.defs, h1, h2, h3, h4⟩
theorem AWPD.seq {x y : Code} (h : AWP P n x (Next.q (AWPD P n y Q) (Q n.defs)) env H) : AWPD P n (.seq x y) Q env H := by
  intro g a w k s
  refine wp_seq (wp_mono (h g a w k s) ?_)
  rintro e a' w' ⟨g', env', H', hle, hr, hs, hq⟩
  cases e with
  | normal => exact wp_mono (hq g' a' w' hr hs) fun _ _ _ h => h.up hle
  | _ => exact ⟨g', env', H', n.defs, hle, hr, hs, hq⟩
end
end Go.Proofs.YtifoddpbmlajfaaGreatDoor
