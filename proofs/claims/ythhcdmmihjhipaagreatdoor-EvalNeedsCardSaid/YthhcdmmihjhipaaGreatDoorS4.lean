/-
  The frame, part 8: the rules as a walk uses them, one operation written out.
-/
import Derived.Test.YthhcdmmihjhipaaGreatDoorS3
import Derived.MapKept
import Derived.Sort.Grow
namespace Go.Proofs.YthhcdmmihjhipaaGreatDoor
open Go Go.RowKit

section
variable {P : Program} {n : Fr} {Q : Exit → Env → Heap → Prop} {env : Env} {H : Heap} {ops : Array Oper} {l : List Oper} {op : Op} {ty : TypeId} {pos : String} {af : Array Edge} {gd : Option (Nat × Bool)} {x : AV}

theorem AList.p {d : Tmp} (hd : Nat.blt d n.size = true) (h : APure P ⟨some d, op, ty, pos, af, none⟩ env x) (k : AList P n ops Q l ((d, x) :: env) H) : AList P n ops Q (⟨some d, op, ty, pos, af, none⟩ :: l) env H :=
  AList.pure (.free rfl) hd h k
theorem AList.s {d : Tmp} {R : AV → Heap → Prop} (hd : Nat.blt d n.size = true) (h : AStep P ⟨some d, op, ty, pos, af, none⟩ env H R) (k : ∀ x H', R x H' → AList P n ops Q l ((d, x) :: env) H') : AList P n ops Q (⟨some d, op, ty, pos, af, none⟩ :: l) env H :=
  AList.step (.free rfl) hd h k
theorem AList.s0 {R : AV → Heap → Prop} (h : AStep P ⟨none, op, ty, pos, af, none⟩ env H R) (k : ∀ x H', R x H' → AList P n ops Q l env H') : AList P n ops Q (⟨none, op, ty, pos, af, none⟩ :: l) env H :=
  AList.step (.free rfl) rfl h k
theorem Wanted.yes {o : Oper} {j : Nat} {want b : Bool} {d : Tmp} (h : o.guard = some (j, want)) (hd : (ops[j]?).bind (·.dst) = some d) (hb : env.get? d = some (.bool b)) (hbw : b = want) : Wanted ops env o true := by
  have := Wanted.guard (ops := ops) (env := env) (o := o) j want b d h hd hb
  rw [hbw] at this; simpa using this
theorem Wanted.no {o : Oper} {j : Nat} {want b : Bool} {d : Tmp} (h : o.guard = some (j, want)) (hd : (ops[j]?).bind (·.dst) = some d) (hb : env.get? d = some (.bool b)) (hbw : b = !want) : Wanted ops env o false := by
  have := Wanted.guard (ops := ops) (env := env) (o := o) j want b d h hd hb
  rw [hbw] at this; cases want <;> simpa using this
theorem AList.gp {d : Tmp} {e : Tmp} {j : Nat} {want b : Bool} (hd : Nat.blt d n.size = true) (hg : (ops[j]?).bind (·.dst) = some e) (hb : env.get? e = some (.bool b)) (hbw : b = want) (h : APure P ⟨some d, op, ty, pos, af, some (j, want)⟩ env x)
    (k : AList P n ops Q l ((d, x) :: env) H) : AList P n ops Q (⟨some d, op, ty, pos, af, some (j, want)⟩ :: l) env H :=
  AList.pure (.yes rfl hg hb hbw) hd h k
theorem AList.gs {d : Tmp} {e : Tmp} {j : Nat} {want b : Bool} {R : AV → Heap → Prop} (hd : Nat.blt d n.size = true) (hg : (ops[j]?).bind (·.dst) = some e) (hb : env.get? e = some (.bool b)) (hbw : b = want) (h : AStep P ⟨some d, op, ty, pos, af, some (j, want)⟩ env H R)
    (k : ∀ x H', R x H' → AList P n ops Q l ((d, x) :: env) H') : AList P n ops Q (⟨some d, op, ty, pos, af, some (j, want)⟩ :: l) env H :=
  AList.step (.yes rfl hg hb hbw) hd h k
theorem AList.gn {d : Tmp} {e : Tmp} {j : Nat} {want b : Bool} (hd : Nat.blt d n.size = true) (hg : (ops[j]?).bind (·.dst) = some e) (hb : env.get? e = some (.bool b)) (hbw : b = !want)
    (k : AList P n ops Q l ((d, .raw undef) :: env) H) : AList P n ops Q (⟨some d, op, ty, pos, af, some (j, want)⟩ :: l) env H :=
  AList.unwanted (.no rfl hg hb hbw) hd k

theorem AList.gdead {d : Tmp} {e : Tmp} {j : Nat} {want : Bool} (hd : Nat.blt d n.size = true) (hg : (ops[j]?).bind (·.dst) = some e) (hb : env.get? e = some (.raw undef))
    (k : AList P n ops Q l ((d, .raw undef) :: env) H) : AList P n ops Q (⟨some d, op, ty, pos, af, some (j, want)⟩ :: l) env H :=
  AList.unwanted (.dead j want e rfl hg hb) hd k

variable {i : Nat} {r : List (Nat × Bool)}
theorem APlan.p {d : Tmp} (hi : ops[i]? = some ⟨some d, op, ty, pos, af, none⟩) (hd : Nat.blt d n.size = true) (h : APure P ⟨some d, op, ty, pos, af, none⟩ (Env.only (Oper.looksAt ops ⟨some d, op, ty, pos, af, none⟩) env) x) (k : APlan P n ops Q r ((d, x) :: env) H) : APlan P n ops Q ((i, true) :: r) env H :=
  APlan.free hi (.free rfl) hd h.free k
theorem APlan.f {d : Tmp} (hi : ops[i]? = some ⟨some d, op, ty, pos, af, none⟩) (hd : Nat.blt d n.size = true) (h : AFree P ⟨some d, op, ty, pos, af, none⟩ (Env.only (Oper.looksAt ops ⟨some d, op, ty, pos, af, none⟩) env) x) (k : APlan P n ops Q r ((d, x) :: env) H) : APlan P n ops Q ((i, true) :: r) env H :=
  APlan.free hi (.free rfl) hd h k
theorem APlan.s {d : Tmp} {R : AV → Heap → Prop} (hi : ops[i]? = some ⟨some d, op, ty, pos, af, none⟩) (hd : Nat.blt d n.size = true) (h : AStep P ⟨some d, op, ty, pos, af, none⟩ (Env.only (Oper.looksAt ops ⟨some d, op, ty, pos, af, none⟩) env) H R) (k : ∀ x H', R x H' → APlan P n ops Q r ((d, x) :: env) H') :
    APlan P n ops Q ((i, false) :: r) env H := APlan.step hi (.free rfl) hd h k
theorem APlan.s0 {R : AV → Heap → Prop} (hi : ops[i]? = some ⟨none, op, ty, pos, af, none⟩) (h : AStep P ⟨none, op, ty, pos, af, none⟩ (Env.only (Oper.looksAt ops ⟨none, op, ty, pos, af, none⟩) env) H R) (k : ∀ x H', R x H' → APlan P n ops Q r env H') :
    APlan P n ops Q ((i, false) :: r) env H := APlan.step hi (.free rfl) rfl h k
theorem APlan.gp {d : Tmp} {e : Tmp} {j : Nat} {want b : Bool} (hi : ops[i]? = some ⟨some d, op, ty, pos, af, some (j, want)⟩) (hd : Nat.blt d n.size = true) (hg : (ops[j]?).bind (·.dst) = some e) (hb : (Env.only (Oper.looksAt ops ⟨some d, op, ty, pos, af, some (j, want)⟩) env).get? e = some (.bool b)) (hbw : b = want)
    (h : APure P ⟨some d, op, ty, pos, af, some (j, want)⟩ (Env.only (Oper.looksAt ops ⟨some d, op, ty, pos, af, some (j, want)⟩) env) x) (k : APlan P n ops Q r ((d, x) :: env) H) : APlan P n ops Q ((i, true) :: r) env H :=
  APlan.free hi (.yes rfl hg hb hbw) hd h.free k
theorem APlan.gf {d : Tmp} {e : Tmp} {j : Nat} {want b : Bool} (hi : ops[i]? = some ⟨some d, op, ty, pos, af, some (j, want)⟩) (hd : Nat.blt d n.size = true) (hg : (ops[j]?).bind (·.dst) = some e) (hb : (Env.only (Oper.looksAt ops ⟨some d, op, ty, pos, af, some (j, want)⟩) env).get? e = some (.bool b)) (hbw : b = want)
    (h : AFree P ⟨some d, op, ty, pos, af, some (j, want)⟩ (Env.only (Oper.looksAt ops ⟨some d, op, ty, pos, af, some (j, want)⟩) env) x) (k : APlan P n ops Q r ((d, x) :: env) H) : APlan P n ops Q ((i, true) :: r) env H :=
  APlan.free hi (.yes rfl hg hb hbw) hd h k
theorem APlan.gs {d : Tmp} {e : Tmp} {j : Nat} {want b : Bool} {R : AV → Heap → Prop} (hi : ops[i]? = some ⟨some d, op, ty, pos, af, some (j, want)⟩) (hd : Nat.blt d n.size = true) (hg : (ops[j]?).bind (·.dst) = some e) (hb : (Env.only (Oper.looksAt ops ⟨some d, op, ty, pos, af, some (j, want)⟩) env).get? e = some (.bool b)) (hbw : b = want)
    (h : AStep P ⟨some d, op, ty, pos, af, some (j, want)⟩ (Env.only (Oper.looksAt ops ⟨some d, op, ty, pos, af, some (j, want)⟩) env) H R) (k : ∀ x H', R x H' → APlan P n ops Q r ((d, x) :: env) H') : APlan P n ops Q ((i, false) :: r) env H :=
  APlan.step hi (.yes rfl hg hb hbw) hd h k
theorem APlan.gn {d : Tmp} {e : Tmp} {j : Nat} {want b : Bool} (hi : ops[i]? = some ⟨some d, op, ty, pos, af, some (j, want)⟩) (hd : Nat.blt d n.size = true) (hg : (ops[j]?).bind (·.dst) = some e) (hb : (Env.only (Oper.looksAt ops ⟨some d, op, ty, pos, af, some (j, want)⟩) env).get? e = some (.bool b)) (hbw : b = !want)
    (k : APlan P n ops Q r ((d, .raw undef) :: env) H) : APlan P n ops Q ((i, true) :: r) env H :=
  APlan.unwanted hi (.no rfl hg hb hbw) hd k

theorem APlan.gdead {d : Tmp} {e : Tmp} {j : Nat} {want : Bool} (hi : ops[i]? = some ⟨some d, op, ty, pos, af, some (j, want)⟩) (hd : Nat.blt d n.size = true) (hg : (ops[j]?).bind (·.dst) = some e) (hb : (Env.only (Oper.looksAt ops ⟨some d, op, ty, pos, af, some (j, want)⟩) env).get? e = some (.raw undef))
    (k : APlan P n ops Q r ((d, .raw undef) :: env) H) : APlan P n ops Q ((i, true) :: r) env H :=
  APlan.unwanted hi (.dead j want e rfl hg hb) hd k

/-! ### where a way leaves -/
variable {N : Env → Heap → Prop}
theorem Next.ex {id : Nat} (h : Q (.exit id) env H) : Next.q N Q (.exit id) env H := h
theorem Next.rt (h : Q .ret env H) : Next.q N Q .ret env H := h
theorem Block.go {id : Nat} (h : Q .normal env H) : Block.q id Q .normal env H := h
theorem Block.rt {id : Nat} (h : Q .ret env H) : Block.q id Q .ret env H := h
theorem Block.hit {id : Nat} (h : Q .normal env H) : Block.q id Q (.exit id) env H := by simpa [Block.q] using h
theorem Block.miss {id id' : Nat} (hne : Nat.beq id' id = false) (h : Q (.exit id') env H) : Block.q id Q (.exit id') env H := by
  have : id' ≠ id := Nat.ne_of_beq_eq_false hne
  simpa [Block.q, this] using h

def Meets (M : Env → Heap → Prop) : Env → Heap → Prop := fun env H => ∃ env' H', Env.sub env' env ∧ H'.le H ∧ M env' H'
theorem Meets.mk {M : Env → Heap → Prop} {env' : Env} {H' : Heap} (h : M env' H') (hs : Env.sub env' env) (hl : H'.le H) : Meets M env H := ⟨env', H', hs, hl, h⟩
theorem sub_n {e : Env} : Env.sub [] e := trivial
theorem sub_c {e e' : Env} {k : Nat} {v : AV} (h : Env.get? e' k = some v) (r : Env.sub e e') : Env.sub ((k, v) :: e) e' := ⟨h, r⟩
theorem sub_e {e e' : Env} {k : Nat} {v v' : AV} (h : Env.get? e' k = some v') (hv : v' = v) (r : Env.sub e e') : Env.sub ((k, v) :: e) e' := ⟨by rw [h, hv], r⟩
theorem slice_eq {sz : Nat} {xs ys : List AV} {tl : Tail} (h : xs = ys) : AV.slice sz xs tl = AV.slice sz ys tl := by rw [h]
theorem Round.mk {J : Nat → Env → Heap → Prop} {k k' : Nat} {env' : Env} {H' : Heap} (h : J k' env' H') (hs : Env.sub env' env) (hl : H'.le H) (hk : k' < k) :
    ∃ k' env'' H'', k' < k ∧ Env.sub env'' env ∧ H''.le H ∧ J k' env'' H'' := ⟨k', env', H', hk, hs, hl, h⟩
theorem AWP.loopW {c : Code} (J : Nat → Env → Heap → Prop) (k0 : Nat) {env' : Env} {H' : Heap} (h0 : J k0 env' H') (hs : Env.sub env' env) (hl : H'.le H)
    (hround : ∀ k env H, J k env H → AWP P n c (Next.q (fun env' H' => ∃ k' env'' H'', k' < k ∧ Env.sub env'' env' ∧ H''.le H' ∧ J k' env'' H'') Q) env H) : AWP P n (.loop c) Q env H :=
  (AWP.loop J k0 h0 hround).weaken hs hl

theorem AWP.frz {c : Code} {t b : Nat} {T : TypeId} {cs : List AV} (ht : env.get? t = some (.ptr (some ⟨b, 0, none⟩))) (hb : H.objs b = none) (h : AWP P n c Q ((t, .iptr cs) :: env) H) : AWP P n c Q env (H.set b (.box T cs)) := by
  intro g a w ka s
  obtain ⟨vs, hr, hi, hle, s'⟩ := s.freeze (Heap.objs_set_same H b (.box T cs))
  have e : (H.set b (.box T cs)).drop b = H := by
    simp only [Heap.drop, Heap.set]
    cases H with
    | mk objs toks =>
      simp only [Heap.mk.injEq, and_true]
      funext k
      split
      · rename_i h; subst h; exact hb.symm
      · rfl
  rw [e] at s'
  refine wp_mono (h _ a w ⟨ka.size, ka.defers, fun t' x hx => ?_⟩ s') fun _ _ _ q => q.up hle
  simp only [Env.get?] at hx
  cases hk : Nat.beq t t' with
  | true =>
    rw [hk] at hx
    have : t = t' := Nat.eq_of_beq_eq_true hk
    subst this
    cases hx
    obtain ⟨v, hv, hrv⟩ := ka.at_ t _ ht
    cases hrv
    refine ⟨_, hv, .iptr cs b 0 (fun i => vs.getD i undef) (fun i hi' => ?_) (fun i c hc => ?_)⟩
    · rw [Nat.zero_add]
      exact hi i _ (by have := hr.1; simp [show i < vs.size by omega])
    · obtain ⟨u, hu, hru⟩ := hr.at hc
      have : vs.getD i undef = u := by simp [hu]
      rw [this]; exact hru.mono hle
  | false =>
    rw [hk] at hx
    obtain ⟨v, hv, hr'⟩ := ka.at_ t' x hx
    exact ⟨v, hv, hr'.mono hle⟩

theorem AWP.dropb {c : Code} {b : Nat} {o : AObj} (hb : H.objs b = none) (h : AWP P n c Q env H) : AWP P n c Q env (H.set b o) :=
  fun g a w k s => h g a w k (s.weaken (Heap.le_set hb o))
theorem AWP.tag {c : Code} {t sz : Nat} {xs : List AV} (ht : env.get? t = some (.slice sz xs .full)) (h : ∀ u, H.toks u = false → AWP P n c Q ((t, .slice sz xs (.own u)) :: env) (H.live u)) : AWP P n c Q env H := by
  intro g a w ka s
  have hf : H.toks g.ntok = false := by
    cases e : H.toks g.ntok with
    | false => rfl
    | true => have := s.tokLt _ e; omega
  have hle := G.le_addTok g none
  refine wp_mono (h g.ntok hf _ a w ⟨ka.size, ka.defers, fun t' x hx => ?_⟩ s.retag) fun _ _ _ q => q.up hle
  simp only [Env.get?] at hx
  cases hk : Nat.beq t t' with
  | true =>
    rw [hk] at hx
    have : t = t' := Nat.eq_of_beq_eq_true hk
    subst this
    cases hx
    obtain ⟨v, hv, hrv⟩ := ka.at_ t _ ht
    refine ⟨v, hv, ?_⟩
    cases hrv with
    | nilSlice => exact .nilSlice _ _
    | slice sz xs tl b off cap vs h1 h2 h3 h4 h5 h6 => exact .slice sz xs _ b off cap vs h1 h2 (fun i j x c hx hc => (h3 i j x c hx hc).mono hle) h4 h5 ⟨Nat.lt_succ_self _, .inl h6⟩
  | false =>
    rw [hk] at hx
    obtain ⟨v, hv, hr'⟩ := ka.at_ t' x hx
    exact ⟨v, hv, hr'.mono hle⟩

/-! ### heaps -/
theorem Heap.ne_of {H : Heap} {b c : Nat} {y : AObj} (h : H.objs b = some y) (k : H.objs c = none) : b ≠ c := by rintro rfl; rw [h] at k; cases k
theorem Heap.set_under {H : Heap} {b c : Nat} (h : b ≠ c) (x x' y : AObj) : ((H.set b x).set c y).set b x' = (H.set b x').set c y := by
  simp only [Heap.set, Heap.mk.injEq, and_true]
  funext k
  by_cases h1 : k = b
  · subst h1; simp [h]
  · by_cases h2 : k = c
    · subst h2; simp [h1]
    · simp [h1, h2]
theorem Heap.fresh_set {H : Heap} {b c : Nat} {x : AObj} (h : (H.set b x).objs c = none) (x' : AObj) : (H.set b x').objs c = none := by
  by_cases e : c = b
  · subst e; simp at h
  · rw [Heap.objs_set_ne _ _ e] at h ⊢; exact h
theorem Heap.le_out {H H1 : Heap} {t : Nat} (h : H.le H1) (ht : H.toks t = false) : H.le (H1.kill t) := by
  refine ⟨h.objs, fun k hk => ?_⟩
  have := h.toks k hk
  have hne : k ≠ t := by rintro rfl; rw [ht] at hk; cases hk
  simp [Heap.kill, hne, this]
theorem Heap.le_in {H H1 : Heap} (h : H.le H1) (t : Nat) : H.le (H1.live t) := h.trans (Heap.le_live _ _)
theorem Heap.fresh_of {H H1 : Heap} {t : Nat} (h : H.le H1) (ht : H1.toks t = false) : H.toks t = false := by
  cases e : H.toks t with
  | false => rfl
  | true => rw [h.toks t e] at ht; cases ht
/-! ### lists of data -/
inductive RelL (g : G) : List AV → List Value → Prop
  | nil : RelL g [] []
  | cons {x v xs vs} (h : RelV g x v) (k : RelL g xs vs) : RelL g (x :: xs) (v :: vs)
theorem RelL.cells {g : G} {cs : List AV} {vs : List Value} (h : RelL g cs vs) : RelCells g cs vs.toArray := by
  induction h with
  | nil => exact RelCells.nil g
  | cons h _ ih => have := RelCells.cons h ih; simpa using this
theorem row_int {k : IntKind} (l : List Int) : ∀ x, x ∈ l.map (AV.int k) → x.row 1 := fun x hx => by
  obtain ⟨i, _, rfl⟩ := List.mem_map.1 hx; exact ⟨rfl, rfl⟩
theorem pure_lenL {α : Type} {dst : Option Tmp} {T E : TypeId} {y : Operand} {sz : Nat} {f : α → AV} {xs : List α} {tl : Tail} (hu : P.underlying T = some (.slice E)) (hx : Ev env y (.slice sz (xs.map f) tl)) :
    APure P ⟨dst, .call { callee := .builtin .len, args := #[y], argTypes := #[T] }, ty, pos, af, gd⟩ env (.int .i64 xs.length) := by
  have := pure_lenS (dst := dst) (ty := ty) (pos := pos) (af := af) (gd := gd) hu hx
  rwa [List.length_map] at this
theorem pure_indexL {α : Type} {dst : Option Tmp} {T E : TypeId} {y i : Operand} {sz : Nat} {f : α → AV} {xs : List α} {tl : Tail} {k : IntKind} {m : Int} (hu : P.underlying T = some (.slice E)) (hs : ∀ w, (sizeOf E).run P w = .ok sz w)
    (hx : Ev env y (.slice sz (xs.map f) tl)) (hi : Ev env i (.int k m)) (h0 : 0 ≤ m) (h : m.toNat < xs.length) : APure P ⟨dst, .indexAddr T y i, ty, pos, af, gd⟩ env (.iptr (f xs[m.toNat]).cells) :=
  pure_indexS hu hs hx hi h0 (by simp [h])
end

end Go.Proofs.YthhcdmmihjhipaaGreatDoor

namespace Go.Proofs.YthhcdmmihjhipaaGreatDoor
open Go Go.RowKit

section
variable {P : Program} {env : Env} {H : Heap} {dst : Option Tmp} {ty : TypeId} {pos : String} {af : Array Edge} {gd : Option (Nat × Bool)}

theorem pure_pickT {c x y : Operand} {t : Bool} {z : AV} (hc : Ev env c (.bool t)) (ht : t = true) (hx : Ev env x z) : APure P ⟨dst, .pick c x y, ty, pos, af, gd⟩ env z :=
  pure_pick hc (fun _ => hx) (fun e => by rw [ht] at e; cases e)
theorem pure_pickF {c x y : Operand} {t : Bool} {z : AV} (hc : Ev env c (.bool t)) (ht : t = false) (hy : Ev env y z) : APure P ⟨dst, .pick c x y, ty, pos, af, gd⟩ env z :=
  pure_pick hc (fun e => by rw [ht] at e; cases e) (fun _ => hy)

theorem run_eql_of {T : TypeId} {v u : Value} {b : Bool} {w : World} (hd : binOp .eql T v u = (do pure (.bool (← Op.equal T v u)) : Sem Value)) (h : (Op.equal T v u).run P w = .ok b w) : (binOp .eql T v u).run P w = .ok (.bool b) w := by
  rw [hd, Sem.run_bind, h]; rfl
theorem exec_bin {op : BinOp} {T T' : TypeId} {x y : Operand} {a : Act} {v u r : Value} {w : World} (he : a.eval x = v) (hf : a.eval y = u) (hg : (eqGuard op T x y v u).run P w = .ok () w) (h : (binOp op T v u).run P w = .ok r w) :
    (execOp a.eval ⟨dst, .binOp op T x y T', ty, pos, af, gd⟩).run P w = .ok (.value r) w := by
  simp only [execOp, he, hf]
  simp [hg, h]
theorem pure_eqlB {T T' : TypeId} {x y : Operand} {m q : Bool} (hu : P.underlying T = some .bool) (hx : Ev env x (.bool m)) (hy : Ev env y (.bool q)) : APure P ⟨dst, .binOp .eql T x y T', ty, pos, af, gd⟩ env (.bool (m == q)) := by
  intro g n a ka
  obtain ⟨v, he, hv⟩ := ev1 hx ka
  obtain ⟨u, hf, hu'⟩ := ev1 hy ka
  cases hv; cases hu'
  exact ⟨_, .bool _, fun w _ => exec_bin he hf rfl (run_eql_of rfl (run_equal_bool w T m q hu))⟩
/-! slices of few elements -/
theorem raw_cells (g : G) (vs : Array Value) : RelCells g (vs.toList.map AV.raw) vs := by
  refine ⟨by simp, fun i c v hc hv => ?_⟩
  simp only [List.getElem?_map, Array.getElem?_toList] at hc
  rw [hv] at hc
  cases hc
  exact .raw v
theorem range_raw (g : G) (n : Nat) (f : Nat → Value) : RelCells g ((List.range n).map fun i => AV.raw (f i)) ((Array.range n).map f) := by
  have := raw_cells g ((Array.range n).map f)
  simpa [Function.comp_def] using this
theorem row_n {sz : Nat} : ∀ x, x ∈ ([] : List AV) → x.row sz := fun x hx => by simp at hx
theorem row_c {sz : Nat} {a : AV} {xs : List AV} (h : a.row sz) (k : ∀ x, x ∈ xs → x.row sz) : ∀ x, x ∈ a :: xs → x.row sz := fun x hx => by
  rcases List.mem_cons.1 hx with rfl | h'
  · exact h
  · exact k x h'
theorem row_app {sz : Nat} {xs ys : List AV} (h : ∀ x, x ∈ xs → x.row sz) (k : ∀ x, x ∈ ys → x.row sz) : ∀ x, x ∈ xs ++ ys → x.row sz := fun x hx => by
  rcases List.mem_append.1 hx with h' | h'
  · exact h x h'
  · exact k x h'
theorem row_drop {sz : Nat} {xs : List AV} {k : Nat} (h : ∀ x, x ∈ xs → x.row sz) : ∀ x, x ∈ xs.drop k → x.row sz := fun x hx => h x (List.mem_of_mem_drop hx)
theorem row_take {sz : Nat} {xs : List AV} {k : Nat} (h : ∀ x, x ∈ xs → x.row sz) : ∀ x, x ∈ xs.take k → x.row sz := fun x hx => h x (List.mem_of_mem_take hx)
theorem step_bs1 {T E : TypeId} {sz : Nat} {z : Value} {o : Operand} {x : AV} (hu : P.underlying T = some (.slice E)) (hs : ∀ w, (sizeOf E).run P w = .ok sz w) (hz : ∀ w, (zeroValue E).run P w = .ok z w) (hsz : Nat.ble (1 * sz) 16777216 = true) (h : Ev env o x)
    (h1 : x.one = true ∨ ∃ cs, x = .agg cs) (hr : x.row sz) : AStep P ⟨dst, .buildSlice T 1 #[(0, o)], ty, pos, af, gd⟩ env H (fun y H' => y = .slice sz [x] .full ∧ H' = H) := by
  refine step_buildSlice (ops := [(0, o)]) hu hs hz (fun g => range_raw g _ _) hsz rfl (.cons h h1 .nil) (row_c hr row_n) rfl ?_
  simp only [fillA, hr.1, Nat.zero_mul, Nat.one_mul, putRow]
  simp
theorem step_bs2 {T E : TypeId} {sz : Nat} {z : Value} {o o' : Operand} {x x' : AV} (hu : P.underlying T = some (.slice E)) (hs : ∀ w, (sizeOf E).run P w = .ok sz w) (hz : ∀ w, (zeroValue E).run P w = .ok z w) (hsz : Nat.ble (2 * sz) 16777216 = true) (h : Ev env o x)
    (h1 : x.one = true ∨ ∃ cs, x = .agg cs) (hr : x.row sz) (h' : Ev env o' x') (h1' : x'.one = true ∨ ∃ cs, x' = .agg cs) (hr' : x'.row sz) :
    AStep P ⟨dst, .buildSlice T 2 #[(0, o), (1, o')], ty, pos, af, gd⟩ env H (fun y H' => y = .slice sz [x, x'] .full ∧ H' = H) := by
  refine step_buildSlice (ops := [(0, o), (1, o')]) hu hs hz (fun g => range_raw g _ _) hsz rfl (.cons h h1 (.cons h' h1' .nil)) (row_c hr (row_c hr' row_n)) rfl ?_
  have e1 := hr.1
  have e2 := hr'.1
  have hl : ((List.range (2 * sz)).map fun i => AV.raw (z.cells[i % z.cells.size]!)).length = 2 * sz := by simp
  generalize ((List.range (2 * sz)).map fun i => AV.raw (z.cells[i % z.cells.size]!)) = zs at hl
  simp only [fillA, Nat.zero_mul, Nat.one_mul]
  rw [if_pos ⟨e1, by omega⟩, if_pos ⟨e2, by simp [putRow]; omega⟩]
  simp only [putRow, List.take_zero, List.nil_append, Nat.zero_add, List.flatMap_cons, List.flatMap_nil, List.append_nil, Option.some.injEq]
  rw [List.take_left' e1, List.drop_eq_nil_of_le (by simp; omega)]
  simp

/-! guards -/
end
section
variable {P : Program} {n : Fr} {Q : Exit → Env → Heap → Prop} {env : Env} {H : Heap} {ops : Array Oper} {l : List Oper}
theorem bool_casesL {b : Bool} {t : Nat} (_h : env.get? t = some (.bool b)) (ht : b = true → AList P n ops Q l env H) (hf : b = false → AList P n ops Q l env H) : AList P n ops Q l env H := by
  cases b
  · exact hf rfl
  · exact ht rfl
end

end Go.Proofs.YthhcdmmihjhipaaGreatDoor

namespace Go.Proofs.YthhcdmmihjhipaaGreatDoor
open Go Go.RowKit

def AV.plain : AV → Option Value
  | .bool b => some (.bool b)
  | .int k n => some (.int k n)
  | .str s => some (.string ⟨s.toArray⟩)
  | _ => none
theorem RelV.plain {g : G} {a : AV} {v u : Value} (h : RelV g a v) (hp : a.plain = some u) : v = u := by
  cases h <;> simp_all [AV.plain]
theorem RelCells.plain {g : G} {cs : List AV} {vs : Array Value} (us : List Value) (h : RelCells g cs vs) (hp : cs.map AV.plain = us.map some) : vs = us.toArray := by
  have hl : cs.length = us.length := by simpa using congrArg List.length hp
  apply Array.ext
  · rw [← h.1, hl]; simp
  · intro i h1 h2
    have hi : i < cs.length := by rw [h.1]; exact h1
    have e : (cs[i]).plain = some (us[i]'(by omega)) := by
      have := congrArg (fun l => l[i]?) hp
      simpa [hi, show i < us.length by omega] using this
    have := (h.2 i cs[i] vs[i] (List.getElem?_eq_getElem hi) (Array.getElem?_eq_getElem h1)).plain e
    simpa using this
def EqCells (P : Program) (T : TypeId) (cs ds : List AV) (b : Bool) : Prop :=
  ∀ g xs ys w, RelCells g cs xs → RelCells g ds ys → (Op.equalIn 10000 T (.agg xs) (.agg ys)).run P w = .ok b w
section
variable {P : Program} {dst : Option Tmp} {ty : TypeId} {pos : String} {af : Array Edge} {gd : Option (Nat × Bool)} {env : Env}
theorem pure_eqlA {T T' : TypeId} {x y : Operand} {cs ds : List AV} {b : Bool} (hm : P.eqGuardType P.depth T = false) (hx : Ev env x (.agg cs)) (hy : Ev env y (.agg ds)) (h : EqCells P T cs ds b) :
    APure P ⟨dst, .binOp .eql T x y T', ty, pos, af, gd⟩ env (.bool b) := by
  intro g n a ka
  obtain ⟨v, he, hv⟩ := ev1 hx ka
  obtain ⟨u, hf, hu⟩ := ev1 hy ka
  obtain ⟨vs, rfl, hr⟩ := hv.cells_agg
  obtain ⟨us, rfl, hs⟩ := hu.cells_agg
  refine ⟨_, .bool _, fun w _ => exec_bin he hf (run_eqGuard_agg w _ _ _ _ _ _ hm) ?_⟩
  rw [run_eql_struct, h g vs us w hr hs]; rfl
theorem pure_neqA {T T' : TypeId} {x y : Operand} {cs ds : List AV} {b : Bool} (hm : P.eqGuardType P.depth T = false) (hx : Ev env x (.agg cs)) (hy : Ev env y (.agg ds)) (h : EqCells P T cs ds b) :
    APure P ⟨dst, .binOp .neq T x y T', ty, pos, af, gd⟩ env (.bool (!b)) := by
  intro g n a ka
  obtain ⟨v, he, hv⟩ := ev1 hx ka
  obtain ⟨u, hf, hu⟩ := ev1 hy ka
  obtain ⟨vs, rfl, hr⟩ := hv.cells_agg
  obtain ⟨us, rfl, hs⟩ := hu.cells_agg
  refine ⟨_, .bool _, fun w _ => exec_bin he hf (run_eqGuard_agg w _ _ _ _ _ _ hm) ?_⟩
  rw [run_neq_struct, h g vs us w hr hs]; rfl
end
end Go.Proofs.YthhcdmmihjhipaaGreatDoor

namespace Go.Proofs.YthhcdmmihjhipaaGreatDoor
open Go Go.RowKit

def ents (k : IntKind) (M : List (Int × AV)) : List (AV × AV) := M.map fun e => (.int k e.1, e.2)
def mget : List (Int × AV) → Int → Option AV
  | [], _ => none
  | (d, y) :: r, c => if d = c then some y else mget r c
def mset : List (Int × AV) → Int → AV → List (Int × AV)
  | [], c, x => [(c, x)]
  | (d, y) :: r, c, x => if d = c then (c, x) :: r else (d, y) :: mset r c x
def mdel : List (Int × AV) → Int → List (Int × AV)
  | [], _ => []
  | (d, y) :: r, c => if d = c then r else (d, y) :: mdel r c
inductive RelM (g : G) (k : IntKind) : List (Int × AV) → List MapEntry → Prop
  | nil : RelM g k [] []
  | cons {c : Int} {x : AV} {M : List (Int × AV)} {e : MapEntry} {l : List MapEntry} (h : e.key = .int k c) (hv : RelV g x e.val) (r : RelM g k M l) : RelM g k ((c, x) :: M) (e :: l)
theorem RelM.of {g : G} {k : IntKind} : ∀ {M : List (Int × AV)} {l : List MapEntry}, RelEnts g (ents k M) l.toArray → RelM g k M l
  | [], l, h => by
    have := h.1
    cases l with
    | nil => exact .nil
    | cons e l => simp [ents] at this
  | (c, x) :: M, l, h => by
    have h1 := h.1
    cases l with
    | nil => simp [ents] at h1
    | cons e l =>
      have h0 := h.2 0 (.int k c) x e rfl (by simp)
      refine .cons ?_ h0.2 (RelM.of ⟨by simpa [ents] using h1, fun i k' y e' he he' => h.2 (i + 1) k' y e' (by simpa [ents] using he) (by simpa using he')⟩)
      have h2 := h0.1
      generalize e.key = key at h2
      cases h2; rfl
theorem RelM.to {g : G} {k : IntKind} {M : List (Int × AV)} {l : List MapEntry} (h : RelM g k M l) : RelEnts g (ents k M) l.toArray := by
  induction h with
  | nil => exact ⟨rfl, fun i k x e he => by simp [ents] at he⟩
  | @cons c x M e l hk hv _ ih =>
    refine ⟨by simpa [ents] using ih.1, fun i k' y e' he he' => ?_⟩
    cases i with
    | zero =>
      simp [ents] at he he'
      obtain ⟨rfl, rfl⟩ := he
      subst he'
      exact ⟨hk ▸ .int _ _, hv⟩
    | succ i => exact ih.2 i k' y e' (by simpa [ents] using he) (by simpa using he')
theorem RelM.find {g : G} {k kt : IntKind} {M : List (Int × AV)} {l : List MapEntry} (h : RelM g k M l) (c : Int) : ∀ i : Nat,
    (mget M c = none ∧ Instr.findNow (.int kt) (.int k c) l i = some none ∧ mdel M c = M ∧ ∀ y v b, RelV g y v → RelM g k (mset M c y) (l ++ [⟨.int k c, v, b⟩])) ∨
    ∃ j e x, mget M c = some x ∧ Instr.findNow (.int kt) (.int k c) l i = some (some (i + j, e.val)) ∧ RelV g x e.val ∧ l[j]? = some e ∧ e.key = .int k c ∧ RelM g k (mdel M c) (l.eraseIdx j) ∧
      ∀ y v, RelV g y v → RelM g k (mset M c y) (l.modify j fun e => { e with key := .int k c, val := v }) := by
  induction h with
  | nil => exact fun i => .inl ⟨rfl, rfl, rfl, fun y v b hv => .cons rfl hv .nil⟩
  | @cons d x M e l hk hv hr ih =>
    intro i
    have hs : Instr.sameNow (.int kt) (.int k c) e.key = some (c == d) := by rw [hk]; simp [Instr.sameNow]
    by_cases hd : d = c
    · subst hd
      refine .inr ⟨0, e, x, by simp [mget], by simp [Instr.findNow, hs], hv, rfl, hk, by simpa [mdel] using hr, fun y v hy => ?_⟩
      simp only [mset, if_true, List.modify]
      exact .cons rfl hy hr
    · have hsf : Instr.sameNow (.int kt) (.int k c) e.key = some false := by rw [hs, beq_eq_false_iff_ne.2 (fun h => hd h.symm)]
      rcases ih (i + 1) with ⟨h1, h2, h3, h4⟩ | ⟨j, e', x', h1, h2, h3, h4, h5, h6, h7⟩
      · refine .inl ⟨by simp [mget, hd, h1], by simp only [Instr.findNow, hsf, h2], by simp [mdel, hd, h3], fun y v b hy => ?_⟩
        simp only [mset, hd, if_false, List.cons_append]
        exact .cons hk hv (h4 y v b hy)
      · refine .inr ⟨j + 1, e', x', by simp [mget, hd, h1], by simp only [Instr.findNow, hsf, h2]; rw [show i + 1 + j = i + (j + 1) by omega], h3, by simpa using h4, h5, ?_, fun y v hy => ?_⟩
        · simp only [mdel, hd, if_false, List.eraseIdx_cons_succ]
          exact .cons hk hv h6
        · simp only [mset, hd, if_false, List.modify_succ_cons]
          exact .cons hk hv (h7 y v hy)

theorem RelM.none {g : G} {k : IntKind} {M : List (Int × AV)} {l : List MapEntry} (h : RelM g k M l) {c : Int} (hc : mget M c = .none) : ∀ e ∈ l, e.key ≠ .int k c := by
  induction h with
  | nil => intro e he; simp at he
  | @cons d x M e l hk hv hr ih =>
    simp only [mget] at hc
    split at hc
    · cases hc
    · rename_i hd
      intro e' he'
      rcases List.mem_cons.1 he' with rfl | he'
      · rw [hk]; intro h; cases h; exact hd rfl
      · exact ih hc e' he'

/-! ### the operations -/
section
variable {P : Program} {dst : Option Tmp} {ty : TypeId} {pos : String} {af : Array Edge} {gd : Option (Nat × Bool)} {env : Env} {H : Heap}
theorem Sat.entries {g : G} {H : Heap} {w : World} (s : Sat g H w) {m : Nat} {k : IntKind} {M : List (Int × AV)} (hm : H.objs m = some (.map (ents k M))) :
    ∃ es clock, w.heap[m]? = some (.map es clock) ∧ RelM g k M es.toList ∧ MapKept.Stamped es clock := by
  obtain ⟨es, clock, h1, h2⟩ := s.map m _ hm
  exact ⟨es, clock, h1, RelM.of h2.1, h2.2⟩
theorem RelM.length {g : G} {k : IntKind} {M : List (Int × AV)} {l : List MapEntry} (h : RelM g k M l) : l.length = M.length := by
  induction h with
  | nil => rfl
  | cons _ _ _ ih => simp [ih]
end
end Go.Proofs.YthhcdmmihjhipaaGreatDoor

namespace Go.Proofs.YthhcdmmihjhipaaGreatDoor
open Go Go.RowKit
theorem Sat.grow {g : G} {H : Heap} {w w' : World} (s : Sat g H w) (hb : Below w.heap.size w w') : Sat g H w' := by
  have old : ∀ {b : Nat} {o : Obj}, w.heap[b]? = some o → w'.heap[b]? = some o := fun {b o} h => (hb.block b (Array.getElem?_eq_some_iff.1 h).1).trans h
  refine ⟨s.below.trans ⟨hb.os, hb.tape, hb.output, hb.size, fun k hk => hb.block k (Nat.lt_of_lt_of_le hk s.below.size)⟩, fun b o v hv => ?_, fun b T cs h => ?_, fun b es h => ?_, fun b o h => old (s.raw b o h), s.own, fun t b lo n ht hk hn => ?_, s.tokLt, s.sep⟩
  · rw [World.cell?_of_block (w := w) (hb.block b (s.imm_lt hv))]; exact s.imm b o v hv
  · obtain ⟨vs, hv, hr⟩ := s.box b T cs h; exact ⟨vs, hv.same old, hr⟩
  · obtain ⟨en, cl, hv, hr⟩ := s.map b es h; exact ⟨en, cl, old hv, hr⟩
  · obtain ⟨h1, h2, h3, c, T, h4, h5⟩ := s.tok t b lo n ht hk hn; exact ⟨h1, h2, h3, c, T, old h4, h5⟩
end Go.Proofs.YthhcdmmihjhipaaGreatDoor

namespace Go.Proofs.YthhcdmmihjhipaaGreatDoor
open Go Go.RowKit

structure MRow (N : Nat → Prop) (H : Heap) (a : Option Addr) (xs : List Int) (c : Nat) : Prop where
  cap : xs.length ≤ c
  max : c ≤ maxLen
  form : (a = none ∧ c = 0) ∨ ∃ b, a = some ⟨b, 0, none⟩
  at_ : xs = [] ∨ ∃ b T cs, a = some ⟨b, 0, none⟩ ∧ N b ∧ H.objs b = some (.box T cs) ∧ cs.take xs.length = xs.map (.int .i64)
theorem MRow.mono {N N' : Nat → Prop} {H H' : Heap} {a : Option Addr} {xs : List Int} {c : Nat} (h : MRow N H a xs c) (hl : H.le H') (hn : ∀ b, N b → N' b) : MRow N' H' a xs c :=
  ⟨h.cap, h.max, h.form, h.at_.imp id fun ⟨b, T, cs, h1, h2, h3, h4⟩ => ⟨b, T, cs, h1, hn b h2, hl.objs _ _ h3, h4⟩⟩

def MSame (N : Nat → Prop) (a : Option Addr) (H H' : Heap) : Prop := H' = H ∨ ∃ b T cs, a = some ⟨b, 0, none⟩ ∧ N b ∧ H' = H.set b (.box T cs)
theorem MSame.le {N : Nat → Prop} {a : Option Addr} {H0 H H' : Heap} (h : MSame N a H H') (hl : H0.le H) (hn : ∀ b, N b → H0.objs b = none) : H0.le H' := by
  rcases h with rfl | ⟨b, T, cs, _, hb, rfl⟩
  · exact hl
  · refine ⟨fun k x hx => ?_, fun t ht => hl.toks t ht⟩
    have hk : k ≠ b := by rintro rfl; rw [hn _ hb] at hx; cases hx
    rw [Heap.objs_set_ne _ _ hk]; exact hl.objs _ _ hx
theorem MSame.objs {N : Nat → Prop} {a : Option Addr} {H H' : Heap} (h : MSame N a H H') {k : Nat} (hk : ¬ N k) : H'.objs k = H.objs k := by
  rcases h with rfl | ⟨b, T, cs, _, hb, rfl⟩
  · rfl
  · exact Heap.objs_set_ne _ _ (by rintro rfl; exact hk hb)
theorem MSame.toks {N : Nat → Prop} {a : Option Addr} {H H' : Heap} (h : MSame N a H H') : H'.toks = H.toks := by
  rcases h with rfl | ⟨b, T, cs, _, hb, rfl⟩ <;> rfl
theorem Sat.ahead {g : G} {H : Heap} {w : World} (s : Sat g H w) (q : Nat) : Sat g H (Sort.ahead w q) := {
  below := ⟨s.below.os, s.below.tape, s.below.output, s.below.size, s.below.block⟩
  imm := s.imm
  box := s.box
  map := s.map
  raw := s.raw
  own := s.own
  tok := s.tok
  tokLt := s.tokLt
  sep := s.sep }
theorem Sat.holds {g : G} {H : Heap} {w : World} (s : Sat g H w) {b : Nat} {T : TypeId} {cs : List AV} {xs : List Int} (hb : H.objs b = some (.box T cs)) (hx : cs.take xs.length = xs.map (.int .i64)) : Sort.Holds (Value.int .i64) w b 0 xs.toArray := by
  obtain ⟨vs, hw, hr⟩ := s.box b T cs hb
  intro j hj
  have hj' : j < xs.length := by simpa using hj
  have hc : cs[j]? = some (.int .i64 xs[j]) := by
    have : (cs.take xs.length)[j]? = (xs.map (AV.int .i64))[j]? := by rw [hx]
    rw [List.getElem?_take, if_pos hj'] at this
    simpa [hj'] using this
  obtain ⟨v, hv, hrel⟩ := hr.at hc
  cases hrel
  refine ⟨?_, ?_⟩
  · rw [hw.cell, Nat.zero_add]
    simpa [hj'] using hv
  · exact hw.thaw (by have := (Array.getElem?_eq_some_iff.1 hv).1; omega)
theorem Sat.putRow {g : G} {H : Heap} {w : World} (s : Sat g H w) {b : Nat} {T : TypeId} {cs : List AV} (hb : H.objs b = some (.box T cs)) (ys : List Int) (hl : ys.length ≤ cs.length) (q : Nat) :
    Sat g (H.set b (.box T (ys.map (.int .i64) ++ cs.drop ys.length))) (Sort.putRow (Value.int .i64) (Sort.ahead w q) b 0 ys.toArray) := by
  obtain ⟨vs, ⟨fz, hw, hth⟩, hr⟩ := s.box b T cs hb
  refine (s.ahead q).turn hb (fun k hk => ?_) (by simp [Sort.putRow, Sort.mapBlock, Sort.ahead]) rfl rfl rfl ⟨Sort.putCells (Value.int .i64) 0 ys.toArray vs, ⟨fz, ?_, by simpa [Sort.putCells] using hth⟩, ?_⟩
  · show (w.heap.modify b _)[k]? = w.heap[k]?
    rw [Array.getElem?_modify, if_neg (fun h => hk h.symm)]
  · show (w.heap.modify b _)[b]? = _
    rw [Array.getElem?_modify, if_pos rfl, hw]; rfl
  · have hsz := hr.1
    refine ⟨by simp [Sort.putCells]; omega, fun i c v hc hv => ?_⟩
    simp only [Sort.putCells, Array.getElem?_mapIdx] at hv
    rw [List.getElem?_append] at hc
    simp only [List.length_map] at hc
    by_cases hi : i < ys.length
    · rw [if_pos hi] at hc
      have hc' : c = .int .i64 ys[i] := by simpa [hi] using hc.symm
      cases hvi : vs[i]? with
      | none => rw [hvi] at hv; cases hv
      | some u =>
        rw [hvi] at hv
        have hv' : v = .int .i64 ys[i] := by simpa [hi] using hv.symm
        subst hc'; subst hv'; exact .int _ _
    · rw [if_neg hi, List.getElem?_drop, show ys.length + (i - ys.length) = i by omega] at hc
      cases hvi : vs[i]? with
      | none => rw [hvi] at hv; cases hv
      | some u =>
        rw [hvi] at hv
        have hv' : v = u := by simpa [hi] using hv.symm
        subst hv'; exact hr.2 i c v hc hvi
section
variable {P : Program} {env : Env} {H : Heap} {dst : Option Tmp} {ty : TypeId} {pos : String} {af : Array Edge} {gd : Option (Nat × Bool)}
end
end Go.Proofs.YthhcdmmihjhipaaGreatDoor

namespace Go.Proofs.YthhcdmmihjhipaaGreatDoor
open Go Go.RowKit
section
variable {P : Program} {env : Env} {H : Heap} {dst : Option Tmp} {ty : TypeId} {pos : String} {af : Array Edge} {gd : Option (Nat × Bool)}
end
end Go.Proofs.YthhcdmmihjhipaaGreatDoor
