/-
  The evaluator of closed calls, part 13: what it says of code and of calls is so.
-/
import Derived.Test.YtfkeflcdadlmdaaGreatDoorEw
import Derived.Defers
import Derived.Lib.Bytealg
import Derived.Laws.Externs
import Derived.Laws.LoneSync
namespace Go.Proofs.YtfkeflcdadlmdaaGreatDoor.Cc
open Go Go.RowKit

def Ex.out : Ex → Exit
 | .normal => .normal
 | .exit i => .exit i
 | .ret => .ret
def RelD (g : G) (d : DV) (t : Deferred) : Prop := ∃ fv cap vs, t.target = .fn fv cap ∧ RelVs g d.2 vs ∧ invoke t.target t.args = callFunc d.1 vs.toArray
def RelDs (g : G) : List DV → List Deferred → Prop
 | [], [] => True
 | d :: D, t :: ds => RelD g d t ∧ RelDs g D ds
 | _, _ => False
theorem RelVs.mono {g g' : G} (h : g.le g') {xs : List V} {vs : List Value} (k : RelVs g xs vs) : RelVs g' xs vs := ⟨k.1, fun i x v hx hv => (k.2 i x v hx hv).mono h⟩
theorem RelDs.mono {g g' : G} (h : g.le g') : ∀ {D : List DV} {ds : List Deferred}, RelDs g D ds → RelDs g' D ds
 | [], [], _ => trivial
 | _ :: _, _ :: _, ⟨⟨fv, cap, vs, k1, k2, k3⟩, k⟩ => ⟨⟨fv, cap, vs, k1, k2.mono h, k3⟩, RelDs.mono h k⟩
 | [], _ :: _, k => k.elim
 | _ :: _, [], k => k.elim
def Post (g : G) (n : Nat) (D : List DV) (x : Ex) (e : Lk) (H : Heap) : Exit → Act → World → Prop :=
 fun ex a w => ex = x.out ∧ ∃ g' ds, g.le g' ∧ RelDs g' D ds ∧ RelAct g' n ds e a ∧ Sat g' H w
theorem Post.up {g g' : G} (h : g.le g') {n : Nat} {D : List DV} {x : Ex} {e : Lk} {H : Heap} {ex : Exit} {a : Act} {w : World} (k : Post g' n D x e H ex a w) : Post g n D x e H ex a w :=
 let ⟨h1, g'', ds, h2, h3⟩ := k; ⟨h1, g'', ds, h.trans h2, h3⟩

section
variable {P : Program} {ti : TI} (ok : TIok P ti) (hm : P.follows .mixedOrders = true) {ng : Con} {n : Nat} {call : CallF} (hc : CallOK P ng call) (hx : CallExt call)
include ok hc

omit ok hc in
theorem wpList_up {ops : Array Oper} {g g' : G} (hle : g.le g') {D : List DV} {x : Ex} {e : Lk} {H : Heap} : ∀ {l : List Oper} {a : Act} {w : World}, wpList P ops (Post g' n D x e H) l a w → wpList P ops (Post g n D x e H) l a w := by
 intro l
 induction l with
 | nil => intro a w h; exact Post.up hle h
 | cons o l ih =>
  intro a w h
  unfold wpList at h ⊢
  split
  ·rename_i hw
   rw [if_pos hw] at h
   rcases h with h | ⟨h1, a0, w0, h2⟩
   ·refine .inl ?_
    unfold Oper.wp at h ⊢
    generalize (execOp a.eval o).run P w = r at *
    cases r with
    | ok x w' =>
     cases x <;> simp only [Oper.upon] at h ⊢ <;> first
      | exact ih h
      | exact Calls.mono h (fun e w'' he => by
          cases e with
          | returned v => exact ih he
          | panicked c => exact Post.up hle he
          | outgrown => obtain ⟨a1, w1, h1⟩ := he; exact ⟨a1, w1, Post.up hle h1⟩)
      | exact Rows.mono h (fun v w'' he => ih he)
      | exact h
    | halt x w' => cases x <;> simp only [Oper.upon] at h ⊢ <;> first | exact Post.up hle h | exact h
   ·exact .inr ⟨h1, a0, w0, Post.up hle h2⟩
  ·rename_i hw
   rw [if_neg hw] at h
   exact ih h
omit ok hc in
theorem atR {e : Lk} {o : Oper} {d : DV} (h : evDef ng e o = some d) {g : G} {a : Act} {w : World} (hg : g.ng = ng) (hr : RelE g e a) : ∃ t, RelD g d t ∧ (execOp a.eval o).run P w = .ok (.defer t) w := by
 obtain ⟨dst, op, ty, pos, af, gd⟩ := o
 cases op <;> first | (simp [evDef] at h; done) | skip
 rename_i c
 obtain ⟨cal, as, ts⟩ := c
 cases cal <;> first | (simp [evDef] at h; done) | skip
 rename_i f
 simp only [evDef] at h
 split at h <;> first | (cases h; done) | skip
 rename_i fid cap xs hf hx
 cases h
 subst hg
 obtain ⟨v, hev, hv⟩ := yQ hf hr
 cases hv with
 | func f cap us hn hrr =>
  obtain ⟨h1, h2⟩ := akJ hr hx
  have hargs : RelVs g (xs ++ cap) (as.toList.map a.eval ++ us.toList) := RelVs.append ⟨by rw [h1]; simp, h2⟩ ⟨by simpa using hn, fun i c v hc hv => hrr i c v hc (by simpa using hv)⟩
  have e : (as.toList.map a.eval ++ us.toList).toArray = as.map a.eval ++ us := by
   apply Array.ext'; simp
  refine ⟨⟨.fn (.func fid) us, as.map a.eval⟩, ⟨_, _, _, rfl, hargs, ?_⟩, ?_⟩
  ·rw [e]; rfl
  ·simp [execOp, resolve, hev, Deferred.ofValue]
theorem acH {ops : List Oper} : ∀ {l : List Oper} {D D' : List DV} {e e' : Tr V} {H H' : Heap}, evOps P ti ng n call ops l D e H = some (D', e', H') → ∀ (g : G) (ds : List Deferred) (a : Act) (w : World), g.ng = ng → RelDs g D ds → RelAct g n ds e.get a → Sat g H w → wpList P ops.toArray (Post g n D' .normal e'.get H') l a w
 | [], D, D', e, e', H, H', h, g, ds, a, w, _, hD, hr, hs => by cases h; exact ⟨rfl, g, ds, G.le.refl g, hD, hr, hs⟩
 | o :: l, D, D', e, e', H, H', h, g, ds, a, w, hg, hD, hr, hs => by
  simp only [evOps] at h
  refine wpList_step fun K hK => ?_
  split at h <;> first | (cases h; done) | skip
  ·rename_i hw
   rw [if_pos (abI hw hr.rel)]
   split at h
   ·rename_i x H1 hst
    split at h <;> first | (cases h; done) | skip
    rename_i e1 hput
    obtain ⟨hd, hget⟩ := acO hput
    refine (amQ ok hc hst g a w hg hr.rel hs).wp fun v w' ⟨g', hle, hrv, hs'⟩ => hK _ _ ?_
    have hr' := (hr.mono hle).put hd hrv
    rw [← hget] at hr'
    exact wpList_up hle (acH h g' ds _ w' (hle.ng.trans hg) (hD.mono hle) hr' hs')
   ·split at h <;> first | (cases h; done) | skip
    rename_i d hdef
    split at h <;> first | (cases h; done) | skip
    rename_i e1 hput
    obtain ⟨hd, hget⟩ := acO hput
    obtain ⟨t, ht, hrun⟩ := atR (P := P) (w := w) hdef hg hr.rel
    unfold Oper.wp
    rw [hrun]
    refine hK _ _ ?_
    have hr1 : RelAct g n (t :: ds) e.get { a with defers := t :: a.defers } := ⟨hr.size, by show t :: a.defers = t :: ds; rw [hr.defers], ⟨hr.rel.at_⟩⟩
    have hr' := hr1.put hd (RelV.undef (g := g))
    rw [← hget] at hr'
    exact acH h g (t :: ds) _ w hg ⟨ht, hD⟩ hr' hs
  ·rename_i hw
   rw [if_neg (by rw [abI hw hr.rel]; decide)]
   split at h <;> first | (cases h; done) | skip
   rename_i e1 hput
   obtain ⟨hd, hget⟩ := acO hput
   have hr' := hr.put hd (RelV.undef (g := g))
   rw [← hget] at hr'
   exact hK _ _ (acH h g ds _ w hg hD hr' hs)

def LoopWP (P : Program) (c : Code) (Q : Exit → Act → World → Prop) (a : Act) (w : World) : Prop :=
 ∀ (b : Frame) (k : List Item) (cs : List Frame), ∃ e a' w', Q e a' w' ∧ Arrives P (lone (b.at a (.code c :: .inLoop c :: k)) cs w) b k cs e a' w'
include hm hx
theorem amU : ∀ (f : Nat), (∀ (c : Code) (D D' : List DV) (e e' : Tr V) (H H' : Heap) (x : Ex), evC P ti ng call n f c D e H = some (x, D', e', H') → ∀ (g : G) (ds : List Deferred) (a : Act) (w : World), g.ng = ng → RelDs g D ds → RelAct g n ds e.get a → Sat g H w → c.wp P (Post g n D' x e'.get H') a w) ∧
  (∀ (c : Code) (D D' : List DV) (e e' : Tr V) (H H' : Heap) (x : Ex), evC P ti ng call n f (.loop c) D e H = some (x, D', e', H') → ∀ (g : G) (ds : List Deferred) (a : Act) (w : World), g.ng = ng → RelDs g D ds → RelAct g n ds e.get a → Sat g H w → LoopWP P c (Post g n D' x e'.get H') a w)
 | 0 => ⟨fun c D D' e e' H H' x h => (by cases h), fun c D D' e e' H H' x h => (by cases h)⟩
 | f + 1 => by
  obtain ⟨ihA, ihB⟩ := amU f
  have loop : ∀ (c : Code) (D D' : List DV) (e e' : Tr V) (H H' : Heap) (x : Ex), evC P ti ng call n (f + 1) (.loop c) D e H = some (x, D', e', H') → ∀ (g : G) (ds : List Deferred) (a : Act) (w : World), g.ng = ng → RelDs g D ds → RelAct g n ds e.get a → Sat g H w → LoopWP P c (Post g n D' x e'.get H') a w := by
   intro c D D' e e' H H' x h g ds a w hg hD hr hs b k cs
   simp only [evC] at h
   cases hb : evC P ti ng call n f c D e H with
   | none => rw [hb] at h; cases h
   | some r =>
    obtain ⟨x1, D1, e1, H1⟩ := r
    rw [hb] at h
    obtain ⟨ex, a1, w1, ⟨hex, g1, ds1, hle, hD1, hr1, hs1⟩, harr⟩ := ihA c D D1 e e1 H H1 x1 hb g ds a w hg hD hr hs b (.inLoop c :: k) cs
    subst hex
    cases x1 with
    | normal =>
     simp only at h
     obtain ⟨ex2, a2, w2, hq2, harr2⟩ := ihB c D1 D' e1 e' H1 H' x h g1 ds1 a1 w1 (hle.ng.trans hg) hD1 hr1 hs1 b k cs
     exact ⟨ex2, a2, w2, hq2.up hle, .of_steps (Steps.trans harr (.one step_inLoop)) harr2⟩
    | exit id =>
     simp only at h
     cases h
     exact ⟨_, a1, w1, ⟨rfl, g1, ds1, hle, hD1, hr1, hs1⟩, .pass (x := .inLoop c) rfl (fun _ _ => .inl (by simp [Ex.out])) harr⟩
    | ret =>
     simp only at h
     cases h
     exact ⟨_, a1, w1, ⟨rfl, g1, ds1, hle, hD1, hr1, hs1⟩, .pass (x := .inLoop c) rfl (fun _ _ => .inl (by simp [Ex.out])) harr⟩
  refine ⟨?_, loop⟩
  intro c D D' e e' H H' x h g ds a w hg hD hr hs
  cases c with
  | skip => simp only [evC] at h; cases h; exact wp_skip ⟨rfl, g, ds, G.le.refl g, hD, hr, hs⟩
  | label l => simp only [evC] at h; cases h; exact wp_label ⟨rfl, g, ds, G.le.refl g, hD, hr, hs⟩
  | exit id => simp only [evC] at h; cases h; exact wp_exit ⟨rfl, g, ds, G.le.refl g, hD, hr, hs⟩
  | ret => simp only [evC] at h; cases h; exact wp_ret ⟨rfl, g, ds, G.le.refl g, hD, hr, hs⟩
  | region id ops draw =>
   simp only [evC, evReg] at h
   have eops : ops.toList.toArray = ops := by simp
   cases draw with
   | true =>
    simp only [cond_true] at h
    cases hb : (Nat.beq (mkPlan ops ops.toList.length (Array.replicate ops.size false)).length ops.toList.length && planOK ops (mkPlan ops ops.toList.length (Array.replicate ops.size false)) (Array.replicate ops.size false)) with
    | false => rw [hb] at h; cases h
    | true =>
     rw [hb] at h
     simp only [cond_true] at h
     split at h <;> first | (cases h; done) | skip
     rename_i e1 H1 hp
     cases h
     simp only [Bool.and_eq_true] at hb
     have hlen := Nat.eq_of_beq_eq_true hb.1
     refine wp_region_any hm ?_
     have hX := XAny_of_plan (P := P) (ti := ti) (ng := ng) (n := n) (ops := ops.toList) (r0 := H.nn) hx (eF := e'.get) (HF := H') _ (Array.replicate ops.size false) [] e ⟨H.t, H.nn + ops.toList.length⟩ e' H' (by rw [eops]; exact hb.2) hp rfl (Heq.refl H')
     rw [hlen] at hX
     have hs2 : Sat g ⟨H.t, H.nn + ops.toList.length⟩ w.drew := hs.drew.same (fun _ => rfl) (Nat.le_add_right _ _)
     have := wpAny_of_XAny ok hc (ds := ds) (g0 := g) (Q' := Post g n D .normal e'.get H') (fun g' a' w' e2 H2 hle hr2 hs2 ⟨q1, q2⟩ => ⟨rfl, g', ds, hle, hD.mono hle, by rw [q1] at hr2; exact hr2, hs2.same (fun m => (q2.get' m).symm) (by rw [q2.nn]; exact Nat.le_refl _)⟩)
      ops.toList.length (Array.replicate ops.size false) [] g a w.drew e.get ⟨H.t, H.nn + ops.toList.length⟩ hg (G.le.refl g) hr hs2 hX
     rw [eops] at this
     simpa using this
   | false =>
    simp only [cond_false] at h
    split at h <;> first | (cases h; done) | skip
    rename_i D1 e1 H1 hp
    cases h
    have := wp_region_lit (id := id) (acH ok hc hp g ds a w hg hD hr hs)
    rwa [eops] at this
  | seq p q =>
   simp only [evC] at h
   cases ha : evC P ti ng call n f p D e H with
   | none => rw [ha] at h; cases h
   | some r =>
    obtain ⟨x1, D1, e1, H1⟩ := r
    rw [ha] at h
    refine wp_seq (wp_mono (ihA p D D1 e e1 H H1 x1 ha g ds a w hg hD hr hs) ?_)
    rintro ex a1 w1 ⟨hex, g1, ds1, hle, hD1, hr1, hs1⟩
    subst hex
    cases x1 with
    | normal => exact wp_mono (ihA q D1 D' e1 e' H1 H' x h g1 ds1 a1 w1 (hle.ng.trans hg) hD1 hr1 hs1) fun _ _ _ hq => hq.up hle
    | exit id => simp only at h; cases h; exact ⟨rfl, g1, ds1, hle, hD1, hr1, hs1⟩
    | ret => simp only at h; cases h; exact ⟨rfl, g1, ds1, hle, hD1, hr1, hs1⟩
  | cond cnd p q =>
   simp only [evC] at h
   split at h <;> first | (cases h; done) | skip
   ·rename_i hcnd
    subst hg
    obtain ⟨v, he, hv⟩ := yQ hcnd hr.rel
    cases hv
    exact wp_cond_true he (ihA p D D' e e' H H' x h g ds a w rfl hD hr hs)
   ·rename_i hcnd
    subst hg
    obtain ⟨v, he, hv⟩ := yQ hcnd hr.rel
    cases hv
    exact wp_cond_false he (ihA q D D' e e' H H' x h g ds a w rfl hD hr hs)
  | block id p =>
   simp only [evC] at h
   cases ha : evC P ti ng call n f p D e H with
   | none => rw [ha] at h; cases h
   | some r =>
    obtain ⟨x1, D1, e1, H1⟩ := r
    rw [ha] at h
    refine wp_block (wp_mono (ihA p D D1 e e1 H H1 x1 ha g ds a w hg hD hr hs) ?_)
    rintro ex a1 w1 ⟨hex, g1, ds1, hle, hD1, hr1, hs1⟩
    subst hex
    cases x1 with
    | normal => simp only at h; cases h; exact ⟨rfl, g1, ds1, hle, hD1, hr1, hs1⟩
    | ret => simp only at h; cases h; exact ⟨rfl, g1, ds1, hle, hD1, hr1, hs1⟩
    | exit i =>
     simp only at h
     simp only [Ex.out, Exit.inBlock]
     cases hb : Nat.beq i id with
     | true =>
      rw [hb] at h
      cases h
      rw [if_pos (Nat.eq_of_beq_eq_true hb)]
      exact ⟨rfl, g1, ds1, hle, hD1, hr1, hs1⟩
     | false =>
      rw [hb] at h
      cases h
      rw [if_neg (Nat.ne_of_beq_eq_false hb)]
      exact ⟨rfl, g1, ds1, hle, hD1, hr1, hs1⟩
  | loop p =>
   intro b k cs
   obtain ⟨ex, a', w', hq, harr⟩ := loop p D D' e e' H H' x h g ds a w hg hD hr hs b k cs
   exact ⟨ex, a', w', hq, .of_steps (.one step_loop) harr⟩
  | _ => simp [evC] at h
end

/-! ### calls -/
def resOf (tmps : Array Value) : ResultVar → Sem Value
 | .tmp t => pure (tmps.getD t undef)
 | .cell d t => do loadVar t (← asAddr (tmps.getD d undef))
theorem results_eq (fn : Func) (tmps : Array Value) : results fn tmps = (fn.results.mapM (resOf tmps) >>= fun vs => pure (if h : vs.size = 1 then vs[0] else .tuple vs)) := rfl
section
variable {P : Program} {ti : TI} (ok : TIok P ti)
include ok
theorem aqB {g : G} {e : Lk} {a : Act} {H : Heap} {w : World} (k : RelE g e a) (s : Sat g H w) : ∀ {rs : List ResultVar} {xs : List V}, resL ti e H rs = some xs →
  ∃ vs : List Value, xs.length = vs.length ∧ (∀ (i : Nat) x v, xs[i]? = some x → vs[i]? = some v → RelV g x v) ∧ (rs.mapM (resOf a.tmps)).run P w = .ok vs w
 | [], xs, h => by cases h; exact ⟨[], rfl, fun i x v hx _ => by simp at hx, by simp⟩
 | r :: rs, xs, h => by
  simp only [resL] at h
  split at h <;> first | (cases h; done) | skip
  rename_i x hx
  split at h <;> first | (cases h; done) | skip
  rename_i ys hys
  cases h
  obtain ⟨vs, h1, h2, h3⟩ := aqB k s hys
  have hv : ∃ v, RelV g x v ∧ (resOf a.tmps r).run P w = .ok v w := by
   cases r with
   | tmp t =>
    obtain ⟨v, hv, hr⟩ := k.at_ t x hx
    exact ⟨v, hr, by simp [resOf, hv]⟩
   | cell d T =>
    simp only [resV] at hx
    split at hx <;> first | (cases hx; done) | skip
    rename_i n o i hd hT
    split at hx <;> first | (cases hx; done) | skip
    rename_i cs hcs
    obtain ⟨u, hu, hr⟩ := k.at_ d _ hd
    cases hr with
    | ptr n o hb =>
     obtain ⟨v, hv, hrun⟩ := awL ok s hT hcs hx
     exact ⟨v, hv, by simp [resOf, hu, asAddr, hrun]⟩
  obtain ⟨v, hv, hrun⟩ := hv
  refine ⟨v :: vs, by simp [h1], fun i y u hy hu => ?_, ?_⟩
  ·cases i with
   | zero => simp at hy hu; subst hy; subst hu; exact hv
   | succ i => simp at hy hu; exact h2 i y u hy hu
  ·rw [List.mapM_cons, Sem.run_bind, hrun, Result.andThen_ok, Sem.run_bind, h3, Result.andThen_ok, Sem.run_pure]
theorem agJ {g : G} {e : Lk} {a : Act} {H : Heap} {w : World} (k : RelE g e a) (s : Sat g H w) {fn : Func} {xs : List V} (h : resL ti e H fn.results.toList = some xs) : ∃ v, RelV g (packV xs) v ∧ (results fn a.tmps).run P w = .ok v w := by
 obtain ⟨vs, h1, h2, h3⟩ := aqB ok k s h
 have hm : (fn.results.mapM (resOf a.tmps)).run P w = .ok vs.toArray w := by
  rw [Array.mapM_eq_mapM_toList, Sem.run_map, h3]; rfl
 rw [results_eq, Sem.run_bind]
 refine ⟨if h : vs.toArray.size = 1 then vs.toArray[0] else .tuple vs.toArray, ?_, ?_⟩
 ·by_cases hsz : vs.toArray.size = 1
  ·rw [dif_pos hsz]
   match vs, xs, h1, h2, hsz with
   | [v], [x], _, h2, _ => exact h2 0 x v rfl rfl
  ·rw [dif_neg hsz]
   have hp : packV xs = .tuple xs := by
    match xs, h1 with
    | [], _ => rfl
    | [x], h1 => simp at hsz; simp at h1; omega
    | x :: y :: r, _ => rfl
   rw [hp]
   exact .tuple xs vs.toArray (by simp [h1]) (fun i x v hx hv => h2 i x v hx (by simpa using hv))
 ·rw [hm]; rfl
end

theorem arG : ∀ (xs : List V) (i : Nat) (t : Tr V) (k : Nat) (x : V), (argT i xs t).get k = some x → (i ≤ k ∧ xs[k - i]? = some x) ∨ t.get k = some x
 | [], i, t, k, x, h => .inr h
 | y :: xs, i, t, k, x, h => by
  rcases arG xs (i + 1) _ k x h with ⟨h1, h2⟩ | h1
  ·refine .inl ⟨by omega, ?_⟩
   rw [show k - i = (k - (i + 1)) + 1 by omega, List.getElem?_cons_succ]
   exact h2
  ·rw [Tr.get_set] at h1
   by_cases e : k = i
   ·rw [if_pos e] at h1
    exact .inl ⟨by omega, by rw [show k - i = 0 by omega]; simpa using h1⟩
   ·rw [if_neg e] at h1; exact .inr h1

def NoNG (P : Program) : Prop := ∀ (f : Nat) (fn : Func), P.funcs[f]? = some fn → (fn.name == "runtime.NumGoroutine") = false
def ModOK (P : Program) (ng : Con) (isM : FuncId → List V → Bool) (mod : CallF → CallF) : Prop := ∀ call, CallOK P ng call → CallExt call → ∀ f xs H r H', isM f xs = true → mod call f xs H = some (r, H') → OCall P ng f xs H r H'
theorem enters {P : Program} (hn : NoNG P) {f : FuncId} {fn : Func} {c : Code} (hf : P.funcs[f]? = some fn) (hb : fn.body = some c) : Enters P f := by
 intro args w
 have h1 := hn f fn hf
 have h2 : fn.name ≠ "runtime.NumGoroutine" := by simpa using h1
 simp [callFunc, hf, h2, hb]
section
variable {P : Program} (hm : P.follows .mixedOrders = true) {ng : Con} {call : CallF} (hc : CallOK P ng call) (hx : CallExt call)
include hm hc hx
theorem afK {f : FuncId} {xs : List V} {H H1 : Heap} {D : List DV} {e : Tr V} {rs : List ResultVar} (h : evBody P (mkTy P) ng call f xs H = some (D, e, H1, rs)) :
  ∃ fn c, P.funcs[f]? = some fn ∧ fn.body = some c ∧ rs = fn.results.toList ∧ ∀ g vs w, g.ng = ng → RelVs g xs vs → Sat g H w →
   c.wp P (fun ex a w' => (ex = .normal ∨ ex = .ret) ∧ ∃ g' ds, g.le g' ∧ RelDs g' D ds ∧ RelAct g' fn.ntmps ds e.get a ∧ Sat g' H1 w') { tmps := vs.toArray ++ Array.replicate (fn.ntmps - vs.toArray.size) undef, defers := [] } w := by
 simp only [evBody] at h
 split at h <;> first | (cases h; done) | skip
 rename_i fi hfi
 obtain ⟨fn, c, hf, hb, rfl⟩ : ∃ fn c, P.funcs[f]? = some fn ∧ fn.body = some c ∧ fi = ⟨c, fn.ntmps, fn.results.toList⟩ := by
  unfold fnOf at hfi
  split at hfi <;> first | (cases hfi; done) | skip
  rename_i fn hf
  split at hfi <;> first | (cases hfi; done) | skip
  rename_i c hb
  cases hfi
  exact ⟨fn, c, hf, hb, rfl⟩
 obtain ⟨hle, h⟩ := qO h
 have hle := Nat.le_of_ble_eq_true hle
 cases hev : evC P (mkTy P) ng call fn.ntmps 100000 c [] (argT 0 xs .leaf) H with
 | none => rw [hev] at h; cases h
 | some q =>
  obtain ⟨x1, D1, e1, H4⟩ := q
  rw [hev] at h
  have hres : D = D1 ∧ e = e1 ∧ H1 = H4 ∧ rs = fn.results.toList ∧ (x1 = .normal ∨ x1 = .ret) := by
   cases x1 with
   | exit i => cases h
   | normal => cases h; exact ⟨rfl, rfl, rfl, rfl, .inl rfl⟩
   | ret => cases h; exact ⟨rfl, rfl, rfl, rfl, .inr rfl⟩
  obtain ⟨rfl, rfl, rfl, rfl, hx1⟩ := hres
  refine ⟨fn, c, hf, hb, rfl, ?_⟩
  intro g vs w hng ⟨hlen, hrel⟩ hs
  have hsz : (vs.toArray ++ Array.replicate (fn.ntmps - vs.toArray.size) undef).size = fn.ntmps := by simp; simp at hle; omega
  refine wp_mono ((amU (aoS P) hm hc hx 100000).1 c [] _ _ _ H _ x1 hev g [] _ w hng trivial ⟨hsz, rfl, ⟨fun t x hx => ?_⟩⟩ hs) ?_
  ·rcases arG xs 0 .leaf t x hx with ⟨_, hx⟩ | hx
   ·have ht : t < xs.length := (List.getElem?_eq_some_iff.1 (by simpa using hx)).1
    have htv : t < vs.length := by omega
    exact ⟨vs[t], by simp [Array.getElem?_append, htv], hrel t x _ (by simpa using hx) (List.getElem?_eq_getElem htv)⟩
   ·cases hx
  ·rintro ex a' w' ⟨hex, g', ds, hle', hD', hr', hs'⟩
   refine ⟨?_, g', ds, hle', hD', hr', hs'⟩
   rcases hx1 with rfl | rfl
   ·exact .inl hex
   ·exact .inr hex
theorem axM (hn : NoNG P) {f : FuncId} {xs : List V} {H H' : Heap} {r : V} (h : evD P (mkTy P) ng call f xs H = some (r, H')) : Enters P f ∧ ∀ g vs w, g.ng = ng → RelVs g xs vs → Sat g H w →
  CallsD P f vs.toArray .returning w fun e u' w' => u' = .returning ∧ ∃ v, e = .returned v ∧ ∃ g', g.le g' ∧ RelV g' r v ∧ Sat g' H' w' := by
 simp only [evD] at h
 split at h <;> first | (cases h; done) | skip
 rename_i e H1 rs hbody
 split at h <;> first | (cases h; done) | skip
 rename_i ys hys
 cases h
 obtain ⟨fn, c, hf, hb, rfl, hwp⟩ := afK hm hc hx hbody
 refine ⟨enters hn hf hb, fun g vs w hng hrel hs => callsD_of_wp hf hb (wp_mono (hwp g vs w hng hrel hs) ?_)⟩
 rintro ex a' w' ⟨hex, g', ds, hle', hD', hr', hs'⟩
 have hds : ds = [] := by
  cases ds with
  | nil => rfl
  | cons => exact hD'.elim
 subst hds
 obtain ⟨v, hv, hrun⟩ := agJ (aoS P) (fn := fn) hr'.rel hs' hys
 rcases hex with rfl | rfl
 ·exact ⟨hr'.defers, v, hrun, v, rfl, g', hle', hv, hs'⟩
 ·exact ⟨hr'.defers, v, hrun, v, rfl, g', hle', hv, hs'⟩
theorem aiY (hn : NoNG P) {fn : Func} {rs : List V} {e : Lk} : ∀ {D : List DV} {H H' : Heap}, evDs P (mkTy P) ng call D H = some H' → resL (mkTy P) e H' fn.results.toList = some rs → ∀ (g0 g : G) (ds : List Deferred) (a : Act) (w : World), g.ng = ng → g0.le g → RelDs g D ds → RelE g e a → Sat g H w →
  Leaves P fn a.tmps (fun en w' => ∃ v, en = .returned v ∧ ∃ g', g0.le g' ∧ RelV g' (packV rs) v ∧ Sat g' H' w') ds .returning w
 | [], H, H', h, hrs, g0, g, ds, a, w, hng, h0, hD, hr, hs => by
  cases h
  cases ds with
  | cons => exact hD.elim
  | nil =>
   obtain ⟨v, hv, hrun⟩ := agJ (aoS P) (fn := fn) hr hs hrs
   exact ⟨v, hrun, v, rfl, g, h0, hv, hs⟩
 | d :: D, H, H', h, hrs, g0, g, ds, a, w, hng, h0, hD, hr, hs => by
  simp only [evDs] at h
  split at h <;> first | (cases h; done) | skip
  rename_i r H1 hd
  cases ds with
  | nil => exact hD.elim
  | cons t ds =>
   obtain ⟨⟨fv, cap, vs, k1, k2, k3⟩, hD⟩ := hD
   obtain ⟨hent, hcall⟩ := axM hm hc hx hn hd
   refine ⟨by simp, fv, cap, d.1, vs.toArray, k1, by rw [k3]; exact hent _ _, CallsD.mono (hcall g vs w hng k2 hs) ?_⟩
   rintro en u' w' ⟨rfl, v, rfl, g', hle, _, hs'⟩
   show Leaves P fn a.tmps _ ds (settle .returning) w'
   exact aiY hn h hrs g0 g' ds a w' (hle.ng.trans hng) (h0.trans hle) (hD.mono hle) (hr.mono hle) hs'
end
theorem amT {P : Program} (hm : P.follows .mixedOrders = true) (hn : NoNG P) {ng : Con} {isM : FuncId → List V → Bool} {mod : CallF → CallF} (hM : ModOK P ng isM mod) (hME : ModExt isM mod) : ∀ f, CallOK P ng (evF P (mkTy P) ng isM mod f)
 | 0 => fun _ _ _ _ _ h => by cases h
 | f + 1 => fun fid xs H r H' h => by
  have ih := amT hm hn hM hME f
  have ihx := axL (P := P) (ti := mkTy P) (ng := ng) hME f
  simp only [evF] at h
  cases hg : isM fid xs with
  | true => rw [hg] at h; exact hM _ ih ihx _ _ _ _ _ hg h
  | false =>
   rw [hg] at h
   simp only [cond_false] at h
   split at h <;> first | (cases h; done) | skip
   rename_i D e H1 rs hbody
   split at h <;> first | (cases h; done) | skip
   rename_i H2 hds
   split at h <;> first | (cases h; done) | skip
   rename_i ys hys
   cases h
   obtain ⟨fn, c, hf, hb, rfl, hwp⟩ := afK hm ih ihx hbody
   refine .inl ⟨?_, enters hn hf hb⟩
   intro g vs w hng hrel hs
   refine calls_of_wp_defers hf hb (wp_mono (hwp g vs w hng hrel hs) ?_)
   rintro ex a' w' ⟨hex, g', ds, hle', hD', hr', hs'⟩
   have := aiY hm ih ihx hn (fn := fn) hds hys g g' ds a' w' (hle'.ng.trans hng) hle' hD' hr'.rel hs'
   rw [← hr'.defers] at this
   rcases hex with rfl | rfl
   ·exact this
   ·exact this

end Go.Proofs.YtfkeflcdadlmdaaGreatDoor.Cc

namespace Go.Proofs.YtfkeflcdadlmdaaGreatDoor.Cc
open Go Go.RowKit

structure Handler (P : Program) (ng : Con) where
 f : FuncId
 is : List V → Bool
 run : CallF → List V → Heap → Option (V × Heap)
 ok : ∀ call, CallOK P ng call → CallExt call → ∀ xs H r H', is xs = true → run call xs H = some (r, H') → OCall P ng f xs H r H'
 ext : ∀ call, CallExt call → ∀ xs H r H' X H2, is xs = true → run call xs H = some (r, H') → Ext X H H2 → ∃ H2', run call xs H2 = some (r, H2') ∧ Ext X H' H2'
def findH {P : Program} {ng : Con} (f : FuncId) (xs : List V) : List (Handler P ng) → Option (Handler P ng)
 | [] => none
 | h :: l => cond (Nat.beq h.f f && h.is xs) (some h) (findH f xs l)
def isH {P : Program} {ng : Con} (l : List (Handler P ng)) (f : FuncId) (xs : List V) : Bool := match findH f xs l with | some _ => true | none => false
def modH {P : Program} {ng : Con} (l : List (Handler P ng)) : CallF → CallF := fun call f xs H => match findH f xs l with | some h => h.run call xs H | none => none
theorem aeT {P : Program} {ng : Con} {f : FuncId} {xs : List V} : ∀ {l : List (Handler P ng)} {h : Handler P ng}, findH f xs l = some h → h.f = f ∧ h.is xs = true
 | [], h, e => by cases e
 | k :: l, h, e => by
  simp only [findH] at e
  cases hb : (Nat.beq k.f f && k.is xs) with
  | true =>
   rw [hb] at e
   cases e
   simp only [Bool.and_eq_true] at hb
   exact ⟨Nat.eq_of_beq_eq_true hb.1, hb.2⟩
  | false => rw [hb] at e; exact aeT e
theorem modH_ok {P : Program} {ng : Con} (l : List (Handler P ng)) : ModOK P ng (isH l) (modH l) := by
 intro call hc hx f xs H r H' _ h
 simp only [modH] at h
 split at h <;> first | (cases h; done) | skip
 rename_i k hk
 obtain ⟨rfl, h2⟩ := aeT hk
 exact k.ok call hc hx xs H r H' h2 h
theorem modH_ext {P : Program} {ng : Con} (l : List (Handler P ng)) : ModExt (isH l) (modH l) := by
 intro call hx f xs H r H' X H2 _ h e
 simp only [modH] at h ⊢
 split at h <;> first | (cases h; done) | skip
 rename_i k hk
 obtain ⟨rfl, h2⟩ := aeT hk
 exact k.ext call hx xs H r H' X H2 h2 h e

def IsExt (P : Program) (f : FuncId) (e : Array Value → Sem Value) : Prop :=
 ∃ fn, P.funcs[f]? = some fn ∧ (fn.name == "runtime.NumGoroutine") = false ∧ fn.body.isNone = true ∧ Extern.findNext fn = none ∧ Extern.find fn = some e
theorem IsExt.run {P : Program} {f : FuncId} {e : Array Value → Sem Value} (h : IsExt P f e) (args : Array Value) (w : World) : (callFunc f args).run P w = ((e args).run P w).andThen fun v w' => .ok (.value v) w' := by
 obtain ⟨fn, h1, h2, h3, h4, h5⟩ := h
 exact run_callFunc_extern h1 h2 h3 h4 h5 args w
theorem RelVs.nil {g : G} {vs : List Value} (h : RelVs g [] vs) : vs = [] := by
 have := h.1
 cases vs with
 | nil => rfl
 | cons => simp at this
theorem RelVs.cons {g : G} {x : V} {xs : List V} {vs : List Value} (h : RelVs g (x :: xs) vs) : ∃ v us, vs = v :: us ∧ RelV g x v ∧ RelVs g xs us := by
 have h1 := h.1
 cases vs with
 | nil => simp at h1
 | cons v us => exact ⟨v, us, rfl, h.2 0 x v rfl rfl, by simpa using h1, fun i y u hy hu => h.2 (i + 1) y u (by simpa using hy) (by simpa using hu)⟩

section
variable {P : Program} {ng : Con}
def Handler.value (f : FuncId) (run : List V → Option V) (e : Array Value → Sem Value) (he : IsExt P f e)
  (spec : ∀ xs r g vs w, run xs = some r → RelVs g xs vs → ∃ v, (e vs.toArray).run P w = .ok v w ∧ RelV g r v) : Handler P ng where
 f := f
 is _ := true
 run _ xs H := match run xs with | some r => some (r, H) | none => none
 ok call _ _ xs H r H' _ h := by
  split at h <;> first | (cases h; done) | skip
  rename_i y hy
  cases h
  refine .inr fun g vs w hg hr hs => ?_
  obtain ⟨v, hv, hrv⟩ := spec xs _ g vs w hy hr
  exact ⟨v, w, by rw [he.run, hv]; rfl, g, G.le.refl g, hrv, hs⟩
 ext call _ xs H r H' X H2 _ h k := by
  split at h <;> first | (cases h; done) | skip
  rename_i y hy
  cases h
  exact ⟨H2, rfl, k⟩

def runIndexByte : List V → Option V
 | [.str s, .int .u8 c] => some (.int .i64 (Lib.indexByte s c.toNat.toUInt8))
 | _ => none
def hIndexByte (f : FuncId) (he : IsExt P f Extern.BytealgIndexByte.indexByte) : Handler P ng := Handler.value f runIndexByte _ he <| by
 intro xs r g vs w h hr
 unfold runIndexByte at h
 split at h <;> first | (cases h; done) | skip
 cases h
 obtain ⟨v, us, rfl, h1, hr⟩ := hr.cons
 obtain ⟨u, us, rfl, h2, hr⟩ := hr.cons
 cases hr.nil
 cases h1 with
 | str s hs =>
 cases h2
 exact ⟨_, Lib.run_indexByteString _ _ _, .int _ _⟩
def runCount : List V → Option V
 | [.str s, .int .u8 c] => some (.int .i64 (Lib.countByte s c.toNat.toUInt8))
 | _ => none
def hCount (f : FuncId) (he : IsExt P f Extern.BytealgCount.count) : Handler P ng := Handler.value f runCount _ he <| by
 intro xs r g vs w h hr
 unfold runCount at h
 split at h <;> first | (cases h; done) | skip
 cases h
 obtain ⟨v, us, rfl, h1, hr⟩ := hr.cons
 obtain ⟨u, us, rfl, h2, hr⟩ := hr.cons
 cases hr.nil
 cases h1 with
 | str s hs =>
 cases h2
 exact ⟨_, Lib.run_countString _ _ _, .int _ _⟩
def runCmp : List V → Option V
 | [.str s, .str t] => some (.int .i64 (Lib.compareBytes s t))
 | _ => none
def hCmp (f : FuncId) (he : IsExt P f Extern.BytealgCompare.compare) : Handler P ng := Handler.value f runCmp _ he <| by
 intro xs r g vs w h hr
 unfold runCmp at h
 split at h <;> first | (cases h; done) | skip
 cases h
 obtain ⟨v, us, rfl, h1, hr⟩ := hr.cons
 obtain ⟨u, us, rfl, h2, hr⟩ := hr.cons
 cases hr.nil
 cases h1 with
 | str s hs =>
 cases h2 with
 | str t ht =>
 exact ⟨_, Lib.run_compareString _ _ _, .int _ _⟩
def runAdd64 : List V → Option V
 | [.int .u64 (.ofNat x), .int .u64 (.ofNat y), .int .u64 (.ofNat c)] => cond (Nat.ble c 1) (some (.tuple [.int .u64 (.ofNat (Nat.mod (x + y + c) 18446744073709551616)), .int .u64 (.ofNat (Nat.div (x + y + c) 18446744073709551616))])) none
 | _ => none
theorem RelV.two {g : G} {x y : V} {v u : Value} (h : RelV g x v) (k : RelV g y u) : RelV g (.tuple [x, y]) (.tuple #[v, u]) := by
 refine .tuple _ _ rfl fun i c z hc hz => ?_
 match i with
 | 0 => simp at hc hz; subst hc; subst hz; exact h
 | 1 => simp at hc hz; subst hc; subst hz; exact k
 | _ + 2 => simp at hc
def hAdd64 (f : FuncId) (he : IsExt P f add64Entry) : Handler P ng := Handler.value f runAdd64 _ he <| by
 intro xs r g vs w h hr
 unfold runAdd64 at h
 split at h <;> first | (cases h; done) | skip
 rename_i x y c
 obtain ⟨hb, h⟩ := qO h
 cases h
 obtain ⟨v, us, rfl, h1, hr⟩ := hr.cons
 obtain ⟨u, us, rfl, h2, hr⟩ := hr.cons
 obtain ⟨z, us, rfl, h3, hr⟩ := hr.cons
 cases hr.nil
 cases h1
 cases h2
 cases h3
 have hc := Nat.le_of_ble_eq_true hb
 have hrun := run_add64 (P := P) (Int.ofNat x) (Int.ofNat y) (Int.ofNat c) (Int.natCast_nonneg _) (Int.natCast_nonneg _) (Int.natCast_nonneg _) (by simp; omega) w
 refine ⟨_, hrun, RelV.two ?_ ?_⟩
 ·exact RelV.int .u64 _
 ·exact RelV.int .u64 _
def sub64E : Array Value → Sem Value := fun args => do
 let (x, y, b) ← Extern.MathBitsCarry.three "Sub64" args
 pure (Extern.MathBitsCarry.pair ((x + Extern.MathBitsCarry.m64 - y - b) % Extern.MathBitsCarry.m64) (if x < y + b then 1 else 0))
theorem asA (x y b : Nat) (hb : b ≤ 1) (w : World) :
  (sub64E #[.int .u64 x, .int .u64 y, .int .u64 b]).run P w = .ok (.tuple #[.int .u64 (((x + 18446744073709551616 - y - b) % 18446744073709551616 : Nat) : Int), .int .u64 ((if x < y + b then 1 else 0 : Nat) : Int)]) w := by
 have : b = 0 ∨ b = 1 := by omega
 rcases this with rfl | rfl <;> rfl
def runSub64 : List V → Option V
 | [.int .u64 (.ofNat x), .int .u64 (.ofNat y), .int .u64 (.ofNat c)] => cond (Nat.ble c 1) (some (.tuple [.int .u64 (.ofNat (Nat.mod (x + 18446744073709551616 - y - c) 18446744073709551616)), .int .u64 (.ofNat (if x < y + c then 1 else 0))])) none
 | _ => none
def hSub64 (f : FuncId) (he : IsExt P f sub64E) : Handler P ng := Handler.value f runSub64 _ he <| by
 intro xs r g vs w h hr
 unfold runSub64 at h
 split at h <;> first | (cases h; done) | skip
 rename_i x y c
 obtain ⟨hb, h⟩ := qO h
 cases h
 obtain ⟨v, us, rfl, h1, hr⟩ := hr.cons
 obtain ⟨u, us, rfl, h2, hr⟩ := hr.cons
 obtain ⟨z, us, rfl, h3, hr⟩ := hr.cons
 cases hr.nil
 cases h1
 cases h2
 cases h3
 have hc := Nat.le_of_ble_eq_true hb
 refine ⟨_, asA x y c hc w, RelV.two (RelV.int .u64 _) (RelV.int .u64 _)⟩
theorem RelV.none_ {g : G} : RelV g (.tuple []) (.tuple #[]) := .tuple [] #[] rfl fun i c v hc _ => by simp at hc
def runMark0 : List V → Option V
 | [] => some (.tuple [])
 | _ => none
def hMark0 (f : FuncId) (m : Mark) (he : IsExt P f (fun _ => do mark m; pure Extern.Race.none_)) : Handler P ng := Handler.value f runMark0 _ he <| by
 intro xs r g vs w h hr
 unfold runMark0 at h
 split at h <;> first | (cases h; done) | skip
 cases h
 cases hr.nil
 exact ⟨.tuple #[], rfl, RelV.none_⟩
def runMark1 : List V → Option V
 | [.ptr _ _] => some (.tuple [])
 | _ => none
def hMark1 (f : FuncId) (m : Addr → Mark) (he : IsExt P f (Extern.Race.marked m)) : Handler P ng := Handler.value f runMark1 _ he <| by
 intro xs r g vs w h hr
 unfold runMark1 at h
 split at h <;> first | (cases h; done) | skip
 cases h
 obtain ⟨v, us, rfl, h1, hr⟩ := hr.cons
 cases hr.nil
 cases h1
 exact ⟨.tuple #[], rfl, RelV.none_⟩
end

/-! ### atomic cells -/
section
variable {P : Program} {ng : Con}
theorem auV {w : World} {b o : Nat} {vs : Array Value} {T : TypeId} {fz : Nat × Nat} (h : w.heap[b]? = some (.cells vs T fz)) (ht : Thaw vs.size fz) (ho : o < vs.size) : w.frozen? ⟨b, o, none⟩ = false := by
 rcases ht with rfl | ht
 ·simp [World.frozen?, h]
 ·obtain ⟨lo, hi'⟩ := fz
  simp only [World.frozen?, h, Bool.and_eq_false_iff, decide_eq_false_iff_not]
  left
  simp only at ht
  omega
theorem store1 {g : G} {H : Heap} {w : World} (s : Sat g H w) {n o : Nat} {T : TypeId} {cs : List V} {x : V} {v : Value} {ex : Bool} (hn : H.get n = some (.cells T cs ex false)) (hr : RelV g x v) (h1 : x.one = true) (ho : o < cs.length) :
  (∃ u, w.cell? ⟨g.nm n, o, none⟩ = some u ∧ ∀ y, cs[o]? = some y → RelV g y u) ∧ w.frozen? ⟨g.nm n, o, none⟩ = false ∧ Sat g (H.set n (.cells T (putRow cs o [x]) ex false)) (w.setCell ⟨g.nm n, o, none⟩ v) := by
 obtain ⟨vs, fz, ⟨T', a1, aT⟩, a2, a3, a4, a5, a6⟩ := s.at_ _ _ hn
 have hov : o < vs.size := by omega
 have hc : w.cell? ⟨g.nm n, o, none⟩ = some vs[o] := ahI a1 (by simp [hov])
 have hf := auV a1 (a2 rfl) hov
 obtain ⟨w', hrun, s'⟩ := afM (P := default) (o := o) s hn (RelCells.one hr) (by simp [h1]) (by simp; omega)
 have e : w' = w.setCell ⟨g.nm n, o, none⟩ v := by
  have hadd : (⟨g.nm n, o, none⟩ : Addr).add 0 = ⟨g.nm n, o, none⟩ := by unfold Addr.add; split <;> simp_all
  have hst : (storeCells ⟨g.nm n, o, none⟩ #[v].toList).run (default : Program) w = .ok () (w.setCell ⟨g.nm n, o, none⟩ v) := by
   simp [storeCells, hadd, run_store (default : Program) w _ v _ (hr.oneCell h1), hc, hf]
  rw [hst] at hrun
  cases hrun
  rfl
 subst e
 refine ⟨⟨vs[o], hc, fun y hy => ?_⟩, hf, s'⟩
 exact a6.2 o y _ hy (by simp only [Array.getElem?_extract]; rw [if_pos (by omega)]; simp [hov])

noncomputable def runLoad (k : IntKind) (xs : List V) (H : Heap) : Option (V × Heap) := match xs with
 | [.ptr n o] => (match objCells H n with
   | some cs => (match cs[o]? with
     | some (.int k' x) => cond (decide (k' = k)) (some (.int k x, H)) none
     | _ => none)
   | none => none)
 | _ => none
noncomputable def hLoad (f : FuncId) (k : IntKind) (he : IsExt P f (Extern.Atomic.loadT (.int k))) : Handler P ng where
 f := f
 is _ := true
 run _ xs H := runLoad k xs H
 ok call _ _ xs H r H' _ h := by
  unfold runLoad at h
  split at h <;> first | (cases h; done) | skip
  rename_i n o
  split at h <;> first | (cases h; done) | skip
  rename_i cs hn
  split at h <;> first | (cases h; done) | skip
  rename_i k' x hx
  obtain ⟨hb, h⟩ := qO h
  have hk : k' = k := of_decide_eq_true hb
  subst hk
  cases h
  refine .inr fun g vs w hg hr hs => ?_
  obtain ⟨v, us, rfl, h1, hr⟩ := hr.cons
  cases hr.nil
  cases h1 with
  | ptr n o hb =>
   obtain ⟨S', ex, ro, hgt, _, vs, fz, ⟨T', q1, _⟩, q2, q3, q4, q5, q6⟩ := aaL hs hn
   have ho : o < cs.length := (List.getElem?_eq_some_iff.1 hx).1
   have hrv := q6.2 o _ (vs[o]'(by omega)) hx (by simp only [Array.getElem?_extract]; rw [if_pos (by omega)]; simp)
   have hc := ahI (w := w) (o := o) (v := vs[o]'(by omega)) q1 (by simp)
   generalize vs[o]'(by omega) = u at hrv hc
   cases hrv
   obtain ⟨fn, e1, e2, e3, e4, e5⟩ := he
   exact ⟨_, w, run_call_load e1 e2 e3 e4 k' e5 hc, g, G.le.refl g, .int _ _, hs⟩
 ext call _ xs H r H' X H2 _ h k := by
  unfold runLoad at h ⊢
  split at h <;> first | (cases h; done) | skip
  split at h <;> first | (cases h; done) | skip
  rename_i cs hn
  rw [k.cells hn]
  simp only
  split at h <;> first | (cases h; done) | skip
  rename_i hx
  obtain ⟨hb, h⟩ := qO h
  cases h
  simp only [hb, cond_true]
  exact ⟨_, rfl, k⟩
noncomputable def runStore (xs : List V) (H : Heap) : Option (V × Heap) := match xs with
 | [.ptr n o, .int k y] => (match H.get n with
   | some (.cells S cs ex false) => cond (Nat.blt o cs.length) (some (.tuple [], H.set n (.cells S (putRow cs o [.int k y]) ex false))) none
   | _ => none)
 | _ => none
noncomputable def hStore (f : FuncId) (he : IsExt P f Extern.Atomic.storeT) : Handler P ng where
 f := f
 is _ := true
 run _ xs H := runStore xs H
 ok call _ _ xs H r H' _ h := by
  unfold runStore at h
  split at h <;> first | (cases h; done) | skip
  rename_i n o k y
  split at h <;> first | (cases h; done) | skip
  rename_i S cs ex hn
  obtain ⟨hb, h⟩ := qO h
  cases h
  refine .inr fun g vs w hg hr hs => ?_
  obtain ⟨v, us, rfl, h1, hr⟩ := hr.cons
  obtain ⟨u, us, rfl, h2, hr⟩ := hr.cons
  cases hr.nil
  cases h1 with
  | ptr n o hbn =>
  cases h2
  obtain ⟨⟨z, hz, _⟩, hf, s'⟩ := store1 (o := o) hs hn (RelV.int k y) rfl (by simpa [Nat.blt_eq] using hb)
  obtain ⟨fn, e1, e2, e3, e4, e5⟩ := he
  exact ⟨_, _, run_call_store e1 e2 e3 e4 e5 hz hf, g, G.le.refl g, RelV.none_, s'⟩
 ext call _ xs H r H' X H2 _ h k := by
  unfold runStore at h ⊢
  split at h <;> first | (cases h; done) | skip
  rename_i n o kk y
  split at h <;> first | (cases h; done) | skip
  rename_i S cs ex hn
  obtain ⟨hb, h⟩ := qO h
  cases h
  simp only [k.get hn, hb, cond_true]
  exact ⟨_, rfl, k.set (k.free hn) _⟩
noncomputable def runCas (k : IntKind) (xs : List V) (H : Heap) : Option (V × Heap) := match xs with
 | [.ptr n o, .int k1 x, .int k2 y] => (match H.get n with
   | some (.cells S cs ex false) => (match cs[o]? with
     | some (.int k' x') => cond (decide (k' = k) && (decide (k1 = k) && (decide (k2 = k) && decide (x' = x)))) (some (.bool true, H.set n (.cells S (putRow cs o [.int k y]) ex false))) none
     | _ => none)
   | _ => none)
 | _ => none
noncomputable def hCas (f : FuncId) (k : IntKind) (he : IsExt P f (Extern.Atomic.casT (.int k))) : Handler P ng where
 f := f
 is _ := true
 run _ xs H := runCas k xs H
 ok call _ _ xs H r H' _ h := by
  unfold runCas at h
  split at h <;> first | (cases h; done) | skip
  rename_i n o k1 x k2 y
  split at h <;> first | (cases h; done) | skip
  rename_i S cs ex hn
  split at h <;> first | (cases h; done) | skip
  rename_i k' x' hx
  obtain ⟨hb, h⟩ := qO h
  cases h
  simp only [Bool.and_eq_true, decide_eq_true_eq] at hb
  obtain ⟨rfl, rfl, rfl, rfl⟩ := hb
  refine .inr fun g vs w hg hr hs => ?_
  obtain ⟨v, us, rfl, h1, hr⟩ := hr.cons
  obtain ⟨u, us, rfl, h2, hr⟩ := hr.cons
  obtain ⟨z, us, rfl, h3, hr⟩ := hr.cons
  cases hr.nil
  cases h1 with
  | ptr n o hbn =>
  cases h2
  cases h3
  have ho : o < cs.length := (List.getElem?_eq_some_iff.1 hx).1
  obtain ⟨⟨z, hz, hzr⟩, hf, s'⟩ := store1 (o := o) hs hn (RelV.int _ y) rfl ho
  have := hzr _ hx
  cases this
  obtain ⟨fn, e1, e2, e3, e4, e5⟩ := he
  exact ⟨_, _, run_call_cas_hit e1 e2 e3 e4 _ e5 hz hf, g, G.le.refl g, .bool _, s'⟩
 ext call _ xs H r H' X H2 _ h k := by
  unfold runCas at h ⊢
  split at h <;> first | (cases h; done) | skip
  split at h <;> first | (cases h; done) | skip
  rename_i S cs ex hn
  split at h <;> first | (cases h; done) | skip
  rename_i hx
  obtain ⟨hb, h⟩ := qO h
  cases h
  simp only [k.get hn, hx, hb, cond_true]
  exact ⟨_, rfl, k.set (k.free hn) _⟩
noncomputable def runDec (xs : List V) (H : Heap) : Option (V × Heap) := match xs with
 | [.ptr n o, .int .i32 d] => (match H.get n with
   | some (.cells S cs ex false) => (match cs[o]? with
     | some (.int .i32 x) => cond (decide (x = 1) && decide (d = -1)) (some (.int .i32 0, H.set n (.cells S (putRow cs o [.int .i32 0]) ex false))) none
     | _ => none)
   | _ => none)
 | _ => none
noncomputable def hDec (f : FuncId) (he : IsExt P f (Extern.Atomic.update (Op.intArith .add) .i32 true)) : Handler P ng where
 f := f
 is _ := true
 run _ xs H := runDec xs H
 ok call _ _ xs H r H' _ h := by
  unfold runDec at h
  split at h <;> first | (cases h; done) | skip
  rename_i n o d
  split at h <;> first | (cases h; done) | skip
  rename_i S cs ex hn
  split at h <;> first | (cases h; done) | skip
  rename_i x hx
  obtain ⟨hb, h⟩ := qO h
  simp only [Bool.and_eq_true, decide_eq_true_eq] at hb
  obtain ⟨rfl, rfl⟩ := hb
  cases h
  refine .inr fun g vs w hg hr hs => ?_
  obtain ⟨v, us, rfl, h1, hr⟩ := hr.cons
  obtain ⟨u, us, rfl, h2, hr⟩ := hr.cons
  cases hr.nil
  cases h1 with
  | ptr n o hbn =>
  cases h2
  have ho : o < cs.length := (List.getElem?_eq_some_iff.1 hx).1
  obtain ⟨⟨z, hz, hzr⟩, hf, s'⟩ := store1 (o := o) hs hn (RelV.int .i32 0) rfl ho
  have := hzr _ hx
  cases this
  obtain ⟨fn, e1, e2, e3, e4, e5⟩ := he
  exact ⟨_, _, run_call_add e1 e2 e3 e4 _ e5 hz hf rfl, g, G.le.refl g, .int _ _, s'⟩
 ext call _ xs H r H' X H2 _ h k := by
  unfold runDec at h ⊢
  split at h <;> first | (cases h; done) | skip
  split at h <;> first | (cases h; done) | skip
  rename_i S cs ex hn
  split at h <;> first | (cases h; done) | skip
  rename_i hx
  obtain ⟨hb, h⟩ := qO h
  cases h
  simp only [k.get hn, hx, hb, cond_true]
  exact ⟨_, rfl, k.set (k.free hn) _⟩
end

end Go.Proofs.YtfkeflcdadlmdaaGreatDoor.Cc

namespace Go.Proofs.YtfkeflcdadlmdaaGreatDoor.Cc
open Go Go.RowKit

mutual
def V.within (p : Nat → Bool) : V → Bool
 | .ptr n _ => p n
 | .sl _ n _ _ => p n
 | .map n => p n
 | .func _ cs => V.withinL p cs
 | .iface _ v => V.within p v
 | .agg cs => V.withinL p cs
 | .tuple cs => V.withinL p cs
 | _ => true
def V.withinL (p : Nat → Bool) : List V → Bool
 | [] => true
 | x :: xs => V.within p x && V.withinL p xs
end
theorem aaN {p : Nat → Bool} : ∀ {cs : List V} {i : Nat} {c : V}, V.withinL p cs = true → cs[i]? = some c → V.within p c = true
 | [], i, c, _, h => by simp at h
 | x :: xs, 0, c, h, e => by
  simp only [V.withinL, Bool.and_eq_true] at h
  simp at e; subst e; exact h.1
 | x :: xs, i + 1, c, h, e => by
  simp only [V.withinL, Bool.and_eq_true] at h
  exact aaN h.2 (by simpa using e)
theorem RelV.within {g g' : G} {p : Nat → Bool} (hp : ∀ n, p n = true → g'.bn n = true ∧ g'.nm n = g.nm n ∧ g'.vs n = g.vs n) {x : V} {v : Value} (h : RelV g x v) : x.within p = true → RelV g' x v := by
 induction h with
 | bool b => intro _; exact .bool b
 | int k n => intro _; exact .int k n
 | str s hs => intro _; exact .str s hs
 | nilp => intro _; exact .nilp
 | ptr n o hn => intro hw; obtain ⟨h1, h2, _⟩ := hp n hw; rw [← h2]; exact .ptr n o h1
 | nilS => intro _; exact .nilS
 | voidS a => intro _; exact .voidS a
 | viewS a c hc => intro _; exact .viewS a c hc
 | sl sz n o len cap hn hv hl hc => intro hw; obtain ⟨h1, h2, h3⟩ := hp n hw; rw [← h2]; exact .sl sz n o len cap h1 (by rw [h3]; exact hv) hl hc
 | nilM => intro _; exact .nilM
 | map n hn => intro hw; obtain ⟨h1, h2, _⟩ := hp n hw; rw [← h2]; exact .map n h1
 | func f cs vs hn _ ih => intro hw; exact .func f cs vs hn fun i c v hc hv => ih i c v hc hv (aaN hw hc)
 | nilF => intro _; exact .nilF
 | iface t a v _ ih => intro hw; exact .iface t a v (ih hw)
 | nilI => intro _; exact .nilI
 | agg cs vs hn _ ih => intro hw; exact .agg cs vs hn fun i c v hc hv => ih i c v hc hv (aaN hw hc)
 | tuple cs vs hn _ ih => intro hw; exact .tuple cs vs hn fun i c v hc hv => ih i c v hc hv (aaN hw hc)
 | undef => intro _; exact .undef
def O.within (p : Nat → Bool) : O → Bool
 | .cells _ cs _ _ => V.withinL p cs
 | .map _ => false
 | _ => true
theorem ObjAt.within {g g' : G} {w : World} {n : Nat} {p : Nat → Bool} (hp : ∀ n, p n = true → g'.bn n = true ∧ g'.nm n = g.nm n ∧ g'.vs n = g.vs n) (hn : p n = true) {x : O} (h : ObjAt g w n x) (hw : x.within p = true) : ObjAt g' w n x := by
 obtain ⟨h1, h2, h3⟩ := hp n hn
 cases x with
 | gone => trivial
 | cells T cs ex ro =>
  obtain ⟨vs, fz, a1, a2, a3, a4, a5, a6⟩ := h
  exact ⟨vs, fz, by rw [h2]; exact a1, a2, by rw [h3]; exact a3, a4, a5, a6.1, fun i c v hc hv => (a6.2 i c v hc hv).within hp (aaN hw hc)⟩
 | map es => cases hw
 | iter s pos => show w.heap[g'.nm n]? = _; rw [h2]; exact h

structure Consts (ng : Con) (h0 : Heap) : Prop where
 con : ∀ m, h0.get m = ng.con m
 top : ∀ m, h0.nn ≤ m → h0.get m = none
 has : ∀ b, b < ng.n → ∃ x, ng.con b = some x
 inn : ∀ m x, ng.con m = some x → x.within (fun k => (ng.con k).isSome) = true
section
variable {P : Program} {ng : Con} {h0 : Heap} (hC : Consts ng h0)
include hC
def G.alone (g : G) (w : World) (hg : g.ng = ng) (hinv : ng.inv w) : G where
 base := w
 ng := ng
 bn m := (ng.con m).isSome
 nm := g.nm
 vs := g.vs
 gl b hb := ⟨by obtain ⟨x, hx⟩ := hC.has b hb; rw [hx]; rfl, (g.gl b (by rw [hg]; exact hb)).2⟩
 hinv := hinv
theorem alone_sat {g : G} {H : Heap} {w : World} (hg : g.ng = ng) (s : Sat g H w) : Sat (g.alone hC w hg (hg ▸ s.inv)) h0 w := by
 have hcon : ∀ m x, ng.con m = some x → H.get m = some x := fun m x hx => s.con m x (by rw [hg]; exact hx)
 have hp : ∀ n, (ng.con n).isSome = true → (g.alone hC w hg (hg ▸ s.inv)).bn n = true ∧ (g.alone hC w hg (hg ▸ s.inv)).nm n = g.nm n ∧ (g.alone hC w hg (hg ▸ s.inv)).vs n = g.vs n := fun n hn => ⟨hn, rfl, rfl⟩
 refine { keep := Grow.refl w, fresh := hC.top, dom := fun n x hn => ?_, bn := fun n hn => ?_, at_ := fun n x hn => ?_, own := fun n x hn ho => ?_, lt := fun n x hn => ?_, inj := fun n n' x x' hn hn' ho => ?_, con := fun m x hm => ?_ }
 ·rw [hC.con] at hn; show (ng.con n).isSome = true; rw [hn]; rfl
 ·obtain ⟨x, hx⟩ := Option.isSome_iff_exists.1 hn; exact ⟨x, by rw [hC.con]; exact hx⟩
 ·rw [hC.con] at hn
  exact (s.at_ n x (hcon n x hn)).within hp (by rw [hn]; rfl) (hC.inn n x hn)
 ·rw [hC.con] at hn; rw [ng.ro n x hn] at ho; cases ho
 ·rw [hC.con] at hn; exact s.lt n x (hcon n x hn)
 ·rw [hC.con] at hn; rw [ng.ro n x hn] at ho; cases ho
 ·rw [hC.con]; exact hm
theorem avR {f : FuncId} {xs : List V} {r : V} {H' : Heap} (h : OCall P ng f xs h0 r H') (hx : V.withinL (fun k => (ng.con k).isSome) xs = true) (hr : r.within (fun k => (ng.con k).isSome) = true) (H : Heap) : OCall P ng f xs H r H := by
 have arg : ∀ (g : G) (w : World) (hg : g.ng = ng) (s : Sat g H w) (vs : List Value), RelVs g xs vs → RelVs (g.alone hC w hg (hg ▸ s.inv)) xs vs := fun g w hg s vs hv =>
  ⟨hv.1, fun i x v h1 h2 => RelV.within (g := g) (g' := g.alone hC w hg (hg ▸ s.inv)) (p := fun k => (ng.con k).isSome) (fun n hn => ⟨hn, rfl, rfl⟩) (hv.2 i x v h1 h2) (aaN hx h1)⟩
 have back : ∀ (g : G) (w w' : World) (hg : g.ng = ng) (s : Sat g H w) (g' : G) (v : Value), (g.alone hC w hg (hg ▸ s.inv)).le g' → RelV g' r v → Sat g' H' w' → ∃ g', g.le g' ∧ RelV g' r v ∧ Sat g' H w' := fun g w w' hg s g' v hle hv s' => by
  refine ⟨g, G.le.refl g, RelV.within (g' := g) (p := fun k => (ng.con k).isSome) (fun n hn => ?_) hv hr, s.grows (by have := s'.keep; rw [hle.base] at this; exact this)⟩
  obtain ⟨x, hx⟩ := Option.isSome_iff_exists.1 hn
  have hbn : (g.alone hC w hg (hg ▸ s.inv)).bn n = true := hn
  exact ⟨s.dom n x (s.con n x (by rw [hg]; exact hx)), (hle.nm n hbn).symm, (hle.vs n hbn).symm⟩
 rcases h with ⟨hcall, hent⟩ | hval
 ·refine .inl ⟨fun g vs w hg hv s => Calls.mono (hcall _ vs w rfl (arg g w hg s vs hv) (alone_sat hC hg s)) ?_, hent⟩
  rintro e w' ⟨v, rfl, g', h1, h2, h3⟩
  exact ⟨v, rfl, back g w w' hg s g' v h1 h2 h3⟩
 ·refine .inr fun g vs w hg hv s => ?_
  obtain ⟨v, w', hrun, g', h1, h2, h3⟩ := hval _ vs w rfl (arg g w hg s vs hv) (alone_sat hC hg s)
  exact ⟨v, w', hrun, back g w w' hg s g' v h1 h2 h3⟩
end

def Handler.pure {P : Program} {ng : Con} (f : FuncId) (xs : List V) (r : V) (h : ∀ H, OCall P ng f xs H r H) : Handler P ng where
 f := f
 is ys := V.beqL ys xs
 run _ _ H := some (r, H)
 ok call _ _ ys H q H' hi e := by
  cases e
  rw [V.beqL_eq _ hi]
  exact h _
 ext call _ ys H q H' X H2 _ e k := by
  cases e
  exact ⟨H2, rfl, k⟩

end Go.Proofs.YtfkeflcdadlmdaaGreatDoor.Cc
