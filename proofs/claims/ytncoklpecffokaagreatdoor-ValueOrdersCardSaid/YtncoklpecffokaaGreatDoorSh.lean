/-
  The frame, part 8: the rules as a walk uses them, one operation written out.
-/
import Derived.Test.YtncoklpecffokaaGreatDoorSg
namespace Go.Proofs.YtncoklpecffokaaGreatDoor
open Go Go.RowKit

section
variable {P : Program} {n : Nat} {Q : Exit → Env → Heap → Prop} {env : Env} {H : Heap} {ops : Array Oper} {l : List Oper} {op : Op} {ty : TypeId} {pos : String} {af : Array Edge} {gd : Option (Nat × Bool)} {x : AV}

theorem AList.p {d : Tmp} (hd : Nat.blt d n = true) (h : APure P ⟨some d, op, ty, pos, af, none⟩ env x) (k : AList P n ops Q l ((d, x) :: env) H) : AList P n ops Q (⟨some d, op, ty, pos, af, none⟩ :: l) env H :=
  AList.pure (.free rfl) hd h k
theorem AList.s {d : Tmp} {R : AV → Heap → Prop} (hd : Nat.blt d n = true) (h : AStep P ⟨some d, op, ty, pos, af, none⟩ env H R) (k : ∀ x H', R x H' → AList P n ops Q l ((d, x) :: env) H') : AList P n ops Q (⟨some d, op, ty, pos, af, none⟩ :: l) env H :=
  AList.step (.free rfl) hd h k
theorem AList.s0 {R : AV → Heap → Prop} (h : AStep P ⟨none, op, ty, pos, af, none⟩ env H R) (k : ∀ x H', R x H' → AList P n ops Q l env H') : AList P n ops Q (⟨none, op, ty, pos, af, none⟩ :: l) env H :=
  AList.step (.free rfl) rfl h k
/-- A guarded operation that is wanted. -/
theorem Wanted.yes {o : Oper} {j : Nat} {want b : Bool} {d : Tmp} (h : o.guard = some (j, want)) (hd : (ops[j]?).bind (·.dst) = some d) (hb : env.get? d = some (.bool b)) (hbw : b = want) : Wanted ops env o true := by
  have := Wanted.guard (ops := ops) (env := env) (o := o) j want b d h hd hb
  rw [hbw] at this; simpa using this
theorem Wanted.no {o : Oper} {j : Nat} {want b : Bool} {d : Tmp} (h : o.guard = some (j, want)) (hd : (ops[j]?).bind (·.dst) = some d) (hb : env.get? d = some (.bool b)) (hbw : b = !want) : Wanted ops env o false := by
  have := Wanted.guard (ops := ops) (env := env) (o := o) j want b d h hd hb
  rw [hbw] at this; cases want <;> simpa using this
theorem AList.gp {d : Tmp} {e : Tmp} {j : Nat} {want b : Bool} (hd : Nat.blt d n = true) (hg : (ops[j]?).bind (·.dst) = some e) (hb : env.get? e = some (.bool b)) (hbw : b = want) (h : APure P ⟨some d, op, ty, pos, af, some (j, want)⟩ env x)
    (k : AList P n ops Q l ((d, x) :: env) H) : AList P n ops Q (⟨some d, op, ty, pos, af, some (j, want)⟩ :: l) env H :=
  AList.pure (.yes rfl hg hb hbw) hd h k
theorem AList.gs {d : Tmp} {e : Tmp} {j : Nat} {want b : Bool} {R : AV → Heap → Prop} (hd : Nat.blt d n = true) (hg : (ops[j]?).bind (·.dst) = some e) (hb : env.get? e = some (.bool b)) (hbw : b = want) (h : AStep P ⟨some d, op, ty, pos, af, some (j, want)⟩ env H R)
    (k : ∀ x H', R x H' → AList P n ops Q l ((d, x) :: env) H') : AList P n ops Q (⟨some d, op, ty, pos, af, some (j, want)⟩ :: l) env H :=
  AList.step (.yes rfl hg hb hbw) hd h k
theorem AList.gn {d : Tmp} {e : Tmp} {j : Nat} {want b : Bool} (hd : Nat.blt d n = true) (hg : (ops[j]?).bind (·.dst) = some e) (hb : env.get? e = some (.bool b)) (hbw : b = !want)
    (k : AList P n ops Q l ((d, .raw undef) :: env) H) : AList P n ops Q (⟨some d, op, ty, pos, af, some (j, want)⟩ :: l) env H :=
  AList.unwanted (.no rfl hg hb hbw) hd k

theorem AList.gdead {d : Tmp} {e : Tmp} {j : Nat} {want : Bool} (hd : Nat.blt d n = true) (hg : (ops[j]?).bind (·.dst) = some e) (hb : env.get? e = some (.raw undef))
    (k : AList P n ops Q l ((d, .raw undef) :: env) H) : AList P n ops Q (⟨some d, op, ty, pos, af, some (j, want)⟩ :: l) env H :=
  AList.unwanted (.dead j want e rfl hg hb) hd k

variable {i : Nat} {r : List (Nat × Bool)}
theorem APlan.p {d : Tmp} (hi : ops[i]? = some ⟨some d, op, ty, pos, af, none⟩) (hd : Nat.blt d n = true) (h : APure P ⟨some d, op, ty, pos, af, none⟩ (Env.only (Oper.looksAt ops ⟨some d, op, ty, pos, af, none⟩) env) x) (k : APlan P n ops Q r ((d, x) :: env) H) : APlan P n ops Q ((i, true) :: r) env H :=
  APlan.free hi (.free rfl) hd h.free k
theorem APlan.f {d : Tmp} (hi : ops[i]? = some ⟨some d, op, ty, pos, af, none⟩) (hd : Nat.blt d n = true) (h : AFree P ⟨some d, op, ty, pos, af, none⟩ (Env.only (Oper.looksAt ops ⟨some d, op, ty, pos, af, none⟩) env) x) (k : APlan P n ops Q r ((d, x) :: env) H) : APlan P n ops Q ((i, true) :: r) env H :=
  APlan.free hi (.free rfl) hd h k
theorem APlan.s {d : Tmp} {R : AV → Heap → Prop} (hi : ops[i]? = some ⟨some d, op, ty, pos, af, none⟩) (hd : Nat.blt d n = true) (h : AStep P ⟨some d, op, ty, pos, af, none⟩ (Env.only (Oper.looksAt ops ⟨some d, op, ty, pos, af, none⟩) env) H R) (k : ∀ x H', R x H' → APlan P n ops Q r ((d, x) :: env) H') :
    APlan P n ops Q ((i, false) :: r) env H := APlan.step hi (.free rfl) hd h k
theorem APlan.s0 {R : AV → Heap → Prop} (hi : ops[i]? = some ⟨none, op, ty, pos, af, none⟩) (h : AStep P ⟨none, op, ty, pos, af, none⟩ (Env.only (Oper.looksAt ops ⟨none, op, ty, pos, af, none⟩) env) H R) (k : ∀ x H', R x H' → APlan P n ops Q r env H') :
    APlan P n ops Q ((i, false) :: r) env H := APlan.step hi (.free rfl) rfl h k
theorem APlan.gp {d : Tmp} {e : Tmp} {j : Nat} {want b : Bool} (hi : ops[i]? = some ⟨some d, op, ty, pos, af, some (j, want)⟩) (hd : Nat.blt d n = true) (hg : (ops[j]?).bind (·.dst) = some e) (hb : (Env.only (Oper.looksAt ops ⟨some d, op, ty, pos, af, some (j, want)⟩) env).get? e = some (.bool b)) (hbw : b = want)
    (h : APure P ⟨some d, op, ty, pos, af, some (j, want)⟩ (Env.only (Oper.looksAt ops ⟨some d, op, ty, pos, af, some (j, want)⟩) env) x) (k : APlan P n ops Q r ((d, x) :: env) H) : APlan P n ops Q ((i, true) :: r) env H :=
  APlan.free hi (.yes rfl hg hb hbw) hd h.free k
theorem APlan.gf {d : Tmp} {e : Tmp} {j : Nat} {want b : Bool} (hi : ops[i]? = some ⟨some d, op, ty, pos, af, some (j, want)⟩) (hd : Nat.blt d n = true) (hg : (ops[j]?).bind (·.dst) = some e) (hb : (Env.only (Oper.looksAt ops ⟨some d, op, ty, pos, af, some (j, want)⟩) env).get? e = some (.bool b)) (hbw : b = want)
    (h : AFree P ⟨some d, op, ty, pos, af, some (j, want)⟩ (Env.only (Oper.looksAt ops ⟨some d, op, ty, pos, af, some (j, want)⟩) env) x) (k : APlan P n ops Q r ((d, x) :: env) H) : APlan P n ops Q ((i, true) :: r) env H :=
  APlan.free hi (.yes rfl hg hb hbw) hd h k
theorem APlan.gs {d : Tmp} {e : Tmp} {j : Nat} {want b : Bool} {R : AV → Heap → Prop} (hi : ops[i]? = some ⟨some d, op, ty, pos, af, some (j, want)⟩) (hd : Nat.blt d n = true) (hg : (ops[j]?).bind (·.dst) = some e) (hb : (Env.only (Oper.looksAt ops ⟨some d, op, ty, pos, af, some (j, want)⟩) env).get? e = some (.bool b)) (hbw : b = want)
    (h : AStep P ⟨some d, op, ty, pos, af, some (j, want)⟩ (Env.only (Oper.looksAt ops ⟨some d, op, ty, pos, af, some (j, want)⟩) env) H R) (k : ∀ x H', R x H' → APlan P n ops Q r ((d, x) :: env) H') : APlan P n ops Q ((i, false) :: r) env H :=
  APlan.step hi (.yes rfl hg hb hbw) hd h k
theorem APlan.gn {d : Tmp} {e : Tmp} {j : Nat} {want b : Bool} (hi : ops[i]? = some ⟨some d, op, ty, pos, af, some (j, want)⟩) (hd : Nat.blt d n = true) (hg : (ops[j]?).bind (·.dst) = some e) (hb : (Env.only (Oper.looksAt ops ⟨some d, op, ty, pos, af, some (j, want)⟩) env).get? e = some (.bool b)) (hbw : b = !want)
    (k : APlan P n ops Q r ((d, .raw undef) :: env) H) : APlan P n ops Q ((i, true) :: r) env H :=
  APlan.unwanted hi (.no rfl hg hb hbw) hd k

theorem APlan.gdead {d : Tmp} {e : Tmp} {j : Nat} {want : Bool} (hi : ops[i]? = some ⟨some d, op, ty, pos, af, some (j, want)⟩) (hd : Nat.blt d n = true) (hg : (ops[j]?).bind (·.dst) = some e) (hb : (Env.only (Oper.looksAt ops ⟨some d, op, ty, pos, af, some (j, want)⟩) env).get? e = some (.raw undef))
    (k : APlan P n ops Q r ((d, .raw undef) :: env) H) : APlan P n ops Q ((i, true) :: r) env H :=
  APlan.unwanted hi (.dead j want e rfl hg hb) hd k

/-! ### where a way leaves -/
variable {N : Env → Heap → Prop}
theorem Next.ex {id : Nat} (h : Q (.exit id) env H) : Next.q N Q (.exit id) env H := h
theorem Next.rt (h : Q .ret env H) : Next.q N Q .ret env H := h
theorem Block.go {id : Nat} (h : Q .normal env H) : Block.q id Q .normal env H := h
theorem Block.rt {id : Nat} (h : Q .ret env H) : Block.q id Q .ret env H := h
theorem Block.hit {id : Nat} (h : Q .normal env H) : Block.q id Q (.exit id) env H := by simpa [Block.q] using h
theorem Block.miss {id id' : Nat} (hne : Nat.beq id' id = false) (h : Q (.exit id') env H) : Block.q id Q (.exit id') env H := by
  have : id' ≠ id := Nat.ne_of_beq_eq_false hne
  simpa [Block.q, this] using h

/-- Two ways that meet again: what holds there, said once. -/
theorem AWP.seqM {a b : Code} (M : Env → Heap → Prop) (h : AWP P n a (Next.q M Q) env H) (k : ∀ env' H', M env' H' → AWP P n b Q env' H') : AWP P n (.seq a b) Q env H :=
  AWP.seq (h.mono fun e env' H' hq => by cases e <;> first | exact k _ _ hq | exact hq)
/-- What holds there may be said of fewer slots and less memory. -/
def Meets (M : Env → Heap → Prop) : Env → Heap → Prop := fun env H => ∃ env' H', Env.sub env' env ∧ H'.le H ∧ M env' H'
theorem AWP.meet {a b : Code} (M : Env → Heap → Prop) (h : AWP P n a (Next.q (Meets M) Q) env H) (k : ∀ env' H', M env' H' → AWP P n b Q env' H') : AWP P n (.seq a b) Q env H :=
  AWP.seqM (Meets M) h fun _ _ ⟨_, _, h1, h2, h3⟩ => (k _ _ h3).weaken h1 h2

theorem sub_b {e e' : Env} {k : Nat} {b b' : Bool} (h : Env.get? e' k = some (.bool b')) (hb : b' = b) (r : Env.sub e e') : Env.sub ((k, .bool b) :: e) e' := ⟨by rw [h, hb], r⟩
/-- A piece of code that comes to these slots on every way. -/
theorem AWP.seqTo {a b : Code} (d : Nat) (x : AV) (ks : List Nat) (ha : AWP P n a (fun e env' H' => e = .normal ∧ Env.sub ((d, x) :: Env.only ks env) env' ∧ H' = H) env H) (hb : AWP P n b Q ((d, x) :: Env.only ks env) H) : AWP P n (.seq a b) Q env H := by
  refine AWP.seq (ha.mono fun e env' H' hq => ?_)
  obtain ⟨rfl, hs, rfl⟩ := hq
  exact hb.sub _ hs
theorem Meets.mk {M : Env → Heap → Prop} {env' : Env} {H' : Heap} (h : M env' H') (hs : Env.sub env' env) (hl : H'.le H) : Meets M env H := ⟨env', H', hs, hl, h⟩
theorem sub_n {e : Env} : Env.sub [] e := trivial
theorem sub_c {e e' : Env} {k : Nat} {v : AV} (h : Env.get? e' k = some v) (r : Env.sub e e') : Env.sub ((k, v) :: e) e' := ⟨h, r⟩
theorem sub_e {e e' : Env} {k : Nat} {v v' : AV} (h : Env.get? e' k = some v') (hv : v' = v) (r : Env.sub e e') : Env.sub ((k, v) :: e) e' := ⟨by rw [h, hv], r⟩
theorem slice_eq {sz : Nat} {xs ys : List AV} {tl : Tail} (h : xs = ys) : AV.slice sz xs tl = AV.slice sz ys tl := by rw [h]
theorem Round.mk {J : Nat → Env → Heap → Prop} {k k' : Nat} {env' : Env} {H' : Heap} (h : J k' env' H') (hs : Env.sub env' env) (hl : H'.le H) (hk : k' < k) :
    ∃ k' env'' H'', k' < k ∧ Env.sub env'' env ∧ H''.le H ∧ J k' env'' H'' := ⟨k', env', H', hk, hs, hl, h⟩
theorem AWP.loopW {c : Code} (J : Nat → Env → Heap → Prop) (k0 : Nat) {env' : Env} {H' : Heap} (h0 : J k0 env' H') (hs : Env.sub env' env) (hl : H'.le H)
    (hround : ∀ k env H, J k env H → AWP P n c (Next.q (fun env' H' => ∃ k' env'' H'', k' < k ∧ Env.sub env'' env' ∧ H''.le H' ∧ J k' env'' H'') Q) env H) : AWP P n (.loop c) Q env H :=
  (AWP.loop J k0 h0 hround).weaken hs hl

/-- A box of which nothing will be written any more. -/
theorem AWP.frz {c : Code} {t b : Nat} {T : TypeId} {cs : List AV} (ht : env.get? t = some (.ptr (some ⟨b, 0, none⟩))) (hb : H.objs b = none) (h : AWP P n c Q ((t, .iptr cs) :: env) H) : AWP P n c Q env (H.set b (.box T cs)) := by
  intro g a w ka s
  obtain ⟨vs, hr, hi, hle, s'⟩ := s.freeze (Heap.objs_set_same H b (.box T cs))
  have e : (H.set b (.box T cs)).drop b = H := by
    simp only [Heap.drop, Heap.set]
    cases H with
    | mk objs toks =>
      simp only [Heap.mk.injEq, and_true]
      funext k
      split
      · rename_i h; subst h; exact hb.symm
      · rfl
  rw [e] at s'
  refine wp_mono (h _ a w ⟨ka.size, ka.defers, fun t' x hx => ?_⟩ s') fun _ _ _ q => q.up hle
  simp only [Env.get?] at hx
  cases hk : Nat.beq t t' with
  | true =>
    rw [hk] at hx
    have : t = t' := Nat.eq_of_beq_eq_true hk
    subst this
    cases hx
    obtain ⟨v, hv, hrv⟩ := ka.at_ t _ ht
    cases hrv
    refine ⟨_, hv, .iptr cs b 0 (fun i => vs.getD i undef) (fun i hi' => ?_) (fun i c hc => ?_)⟩
    · rw [Nat.zero_add]
      exact hi i _ (by have := hr.1; simp [show i < vs.size by omega])
    · obtain ⟨u, hu, hru⟩ := hr.at hc
      have : vs.getD i undef = u := by simp [hu]
      rw [this]; exact hru.mono hle
  | false =>
    rw [hk] at hx
    obtain ⟨v, hv, hr'⟩ := ka.at_ t' x hx
    exact ⟨v, hv, hr'.mono hle⟩

/-- A box that nobody asks for any more. -/
theorem AWP.dropb {c : Code} {b : Nat} {o : AObj} (hb : H.objs b = none) (h : AWP P n c Q env H) : AWP P n c Q env (H.set b o) :=
  fun g a w k s => h g a w k (s.weaken (Heap.le_set hb o))
/-- What lies in a box may stand for less. -/
theorem Sat.weakbox {g : G} {H : Heap} {w : World} (h : Sat g H w) {b : Nat} {T : TypeId} {cs cs' : List AV} (hb : H.objs b = some (.box T cs)) (hl : cs'.length = cs.length)
    (hw : ∀ (i : Nat) c c', cs[i]? = some c → cs'[i]? = some c' → Weak c c') : Sat g (H.set b (.box T cs')) w := {
  below := h.below
  imm := h.imm
  box b' T' cs2 hb' := by
    by_cases e : b' = b
    · subst e
      simp only [Heap.objs_set_same, Option.some.injEq, AObj.box.injEq] at hb'
      obtain ⟨rfl, rfl⟩ := hb'
      obtain ⟨vs, hv, hr⟩ := h.box _ _ _ hb
      refine ⟨vs, hv, hl.trans hr.1, fun i c v hc hvi => ?_⟩
      have hi : i < cs.length := by rw [← hl]; exact (List.getElem?_eq_some_iff.1 hc).1
      exact (hw i _ c (List.getElem?_eq_getElem hi) hc).rel (hr.2 i _ v (List.getElem?_eq_getElem hi) hvi)
    · rw [Heap.objs_set_ne _ _ e] at hb'; exact h.box _ _ _ hb'
  map b' es hb' := by
    by_cases e : b' = b
    · subst e; simp at hb'
    · rw [Heap.objs_set_ne _ _ e] at hb'; exact h.map _ _ hb'
  raw b' o hb' := by
    by_cases e : b' = b
    · subst e; simp at hb'
    · rw [Heap.objs_set_ne _ _ e] at hb'; exact h.raw _ _ hb'
  own b' x hb' := by
    by_cases e : b' = b
    · subst e; exact h.own _ _ hb
    · rw [Heap.objs_set_ne _ _ e] at hb'; exact h.own _ _ hb'
  tok t b' lo n ht hk hn := by
    obtain ⟨h1, h2, h3, h4⟩ := h.tok t b' lo n ht hk hn
    refine ⟨h1, ?_, h3, h4⟩
    have e : b' ≠ b := by rintro rfl; rw [h2] at hb; cases hb
    rw [Heap.objs_set_ne _ _ e]; exact h2
  tokLt := h.tokLt
  sep := h.sep }
/-- The one slice in a box may stand for less. -/
theorem AWP.weakbox1 {c : Code} {b : Nat} {T : TypeId} {sz : Nat} {xs : List AV} {tl : Tail} (h : AWP P n c Q env (H.set b (.box T [.slice sz xs .shared]))) : AWP P n c Q env (H.set b (.box T [.slice sz xs tl])) := by
  intro g a w ka s
  refine h g a w ka ?_
  have := s.weakbox (cs' := [.slice sz xs .shared]) (Heap.objs_set_same _ _ _) rfl (fun i c c' hc hc' => by
    cases i with
    | zero => simp at hc hc'; subst hc; subst hc'; exact .slice _ _ _
    | succ i => simp at hc)
  rwa [Heap.set_set] at this
/-- A slot may stand for less. -/
theorem AWP.weakv {c : Code} {t : Nat} {x : AV} (y : AV) (ht : env.get? t = some x) (hw : Weak x y) (h : AWP P n c Q ((t, y) :: env) H) : AWP P n c Q env H := by
  intro g a w ka s
  refine h g a w ⟨ka.size, ka.defers, fun t' z hz => ?_⟩ s
  simp only [Env.get?] at hz
  cases hk : Nat.beq t t' with
  | true =>
    rw [hk] at hz
    have : t = t' := Nat.eq_of_beq_eq_true hk
    subst this
    cases hz
    obtain ⟨v, hv, hr⟩ := ka.at_ t _ ht
    exact ⟨v, hv, hw.rel hr⟩
  | false => rw [hk] at hz; exact ka.at_ t' z hz
/-- A slice without room gets a name for it. -/
theorem AWP.tag {c : Code} {t sz : Nat} {xs : List AV} (ht : env.get? t = some (.slice sz xs .full)) (h : ∀ u, H.toks u = false → AWP P n c Q ((t, .slice sz xs (.own u)) :: env) (H.live u)) : AWP P n c Q env H := by
  intro g a w ka s
  have hf : H.toks g.ntok = false := by
    cases e : H.toks g.ntok with
    | false => rfl
    | true => have := s.tokLt _ e; omega
  have hle := G.le_addTok g none
  refine wp_mono (h g.ntok hf _ a w ⟨ka.size, ka.defers, fun t' x hx => ?_⟩ s.retag) fun _ _ _ q => q.up hle
  simp only [Env.get?] at hx
  cases hk : Nat.beq t t' with
  | true =>
    rw [hk] at hx
    have : t = t' := Nat.eq_of_beq_eq_true hk
    subst this
    cases hx
    obtain ⟨v, hv, hrv⟩ := ka.at_ t _ ht
    refine ⟨v, hv, ?_⟩
    cases hrv with
    | nilSlice => exact .nilSlice _ _
    | slice sz xs tl b off cap vs h1 h2 h3 h4 h5 h6 => exact .slice sz xs _ b off cap vs h1 h2 (fun i j x c hx hc => (h3 i j x c hx hc).mono hle) h4 h5 ⟨Nat.lt_succ_self _, .inl h6⟩
  | false =>
    rw [hk] at hx
    obtain ⟨v, hv, hr'⟩ := ka.at_ t' x hx
    exact ⟨v, hv, hr'.mono hle⟩

/-! ### heaps -/
theorem Heap.ne_of {H : Heap} {b c : Nat} {y : AObj} (h : H.objs b = some y) (k : H.objs c = none) : b ≠ c := by rintro rfl; rw [h] at k; cases k
theorem Heap.set_under {H : Heap} {b c : Nat} (h : b ≠ c) (x x' y : AObj) : ((H.set b x).set c y).set b x' = (H.set b x').set c y := by
  simp only [Heap.set, Heap.mk.injEq, and_true]
  funext k
  by_cases h1 : k = b
  · subst h1; simp [h]
  · by_cases h2 : k = c
    · subst h2; simp [h1]
    · simp [h1, h2]
theorem Heap.fresh_set {H : Heap} {b c : Nat} {x : AObj} (h : (H.set b x).objs c = none) (x' : AObj) : (H.set b x').objs c = none := by
  by_cases e : c = b
  · subst e; simp at h
  · rw [Heap.objs_set_ne _ _ e] at h ⊢; exact h
theorem Heap.le_same_set {H H1 : Heap} (h : H.le H1) (b : Nat) (o : AObj) : (H.set b o).le (H1.set b o) := by
  refine ⟨fun c x hx => ?_, h.toks⟩
  by_cases e : c = b
  · subst e; simpa using hx
  · rw [Heap.objs_set_ne _ _ e] at hx ⊢; exact h.objs c x hx
theorem Heap.le_set_twice {H H1 : Heap} {b : Nat} {x : AObj} (h : (H.set b x).le H1) (y : AObj) : (H.set b y).le (H1.set b y) := by
  have := Heap.le_same_set h b y
  rwa [Heap.set_set] at this
theorem Heap.le_out {H H1 : Heap} {t : Nat} (h : H.le H1) (ht : H.toks t = false) : H.le (H1.kill t) := by
  refine ⟨h.objs, fun k hk => ?_⟩
  have := h.toks k hk
  have hne : k ≠ t := by rintro rfl; rw [ht] at hk; cases hk
  simp [Heap.kill, hne, this]
theorem Heap.le_in {H H1 : Heap} (h : H.le H1) (t : Nat) : H.le (H1.live t) := h.trans (Heap.le_live _ _)
theorem Heap.toks_live {H : Heap} {t : Nat} (h : H.toks t = true) (u : Nat) : (H.live u).toks t = true := (Heap.le_live H u).toks t h
theorem Heap.toks_kill {H : Heap} {t u : Nat} (h : H.toks t = true) (hne : t ≠ u) : (H.kill u).toks t = true := by simp [Heap.kill, hne, h]
theorem Heap.tok_ne {H : Heap} {t u : Nat} (h : H.toks t = true) (k : H.toks u = false) : t ≠ u := by rintro rfl; rw [h] at k; cases k
theorem Heap.fresh_of {H H1 : Heap} {t : Nat} (h : H.le H1) (ht : H1.toks t = false) : H.toks t = false := by
  cases e : H.toks t with
  | false => rfl
  | true => rw [h.toks t e] at ht; cases ht
theorem Heap.le_set_new {H H1 : Heap} {b : Nat} (h : H.le H1) (hb : H.objs b = none) (o : AObj) : H.le (H1.set b o) := by
  refine ⟨fun c x hx => ?_, h.toks⟩
  have hne : c ≠ b := by rintro rfl; rw [hb] at hx; cases hx
  rw [Heap.objs_set_ne _ _ hne]; exact h.objs c x hx

/-! ### lists of data -/
/-- Data row by row. -/
inductive RelL (g : G) : List AV → List Value → Prop
  | nil : RelL g [] []
  | cons {x v xs vs} (h : RelV g x v) (k : RelL g xs vs) : RelL g (x :: xs) (v :: vs)
theorem RelL.cells {g : G} {cs : List AV} {vs : List Value} (h : RelL g cs vs) : RelCells g cs vs.toArray := by
  induction h with
  | nil => exact RelCells.nil g
  | cons h _ ih => have := RelCells.cons h ih; simpa using this
def ints (l : List Int) : List AV := l.map (.int .i64)
theorem row_int {k : IntKind} (l : List Int) : ∀ x, x ∈ l.map (AV.int k) → x.row 1 := fun x hx => by
  obtain ⟨i, _, rfl⟩ := List.mem_map.1 hx; exact ⟨rfl, rfl⟩
theorem row_map {α : Type} {sz : Nat} {f : α → AV} (h : ∀ a, (f a).row sz) (l : List α) : ∀ x, x ∈ l.map f → x.row sz := fun x hx => by
  obtain ⟨i, _, rfl⟩ := List.mem_map.1 hx; exact h i
theorem pure_sliceHiL {α : Type} {dst : Option Tmp} {T E : TypeId} {y i : Operand} {sz : Nat} {f : α → AV} {xs : List α} {tl : Tail} {k : IntKind} {m : Int} (hu : P.underlying T = some (.slice E)) (hs : ∀ w, (sizeOf E).run P w = .ok sz w)
    (hx : Ev env y (.slice sz (xs.map f) tl)) (hi : Ev env i (.int k m)) (h0 : 0 ≤ m) (h : m.toNat ≤ xs.length) : APure P ⟨dst, .slice T y none (some i) none, ty, pos, af, gd⟩ env (.slice sz ((xs.take m.toNat).map f) .shared) := by
  have := pure_slice (dst := dst) (ty := ty) (pos := pos) (af := af) (gd := gd) hu hs hx .no (.yes _ _ _ hi h0) (by simp) (by simpa using h)
  simpa [pieceTail, List.map_take] using this
theorem pure_sliceLoL {α : Type} {dst : Option Tmp} {T E : TypeId} {y i : Operand} {sz : Nat} {f : α → AV} {xs : List α} {tl : Tail} {k : IntKind} {m : Int} (hu : P.underlying T = some (.slice E)) (hs : ∀ w, (sizeOf E).run P w = .ok sz w)
    (hx : Ev env y (.slice sz (xs.map f) tl)) (hi : Ev env i (.int k m)) (h0 : 0 ≤ m) (h : m.toNat ≤ xs.length) : APure P ⟨dst, .slice T y (some i) none none, ty, pos, af, gd⟩ env (.slice sz ((xs.drop m.toNat).map f) tl) := by
  have := pure_slice (dst := dst) (ty := ty) (pos := pos) (af := af) (gd := gd) hu hs hx (.yes _ _ _ hi h0) .no (by simpa using h) (by simp)
  rw [show ((List.map f xs).take (Option.none.getD (List.map f xs).length)) = List.map f xs from by rw [Option.getD_none, List.take_length], Option.getD_some, ← List.map_drop] at this
  exact this
theorem pure_sliceLHL {α : Type} {dst : Option Tmp} {T E : TypeId} {y i j : Operand} {sz : Nat} {f : α → AV} {xs : List α} {tl : Tail} {k k' : IntKind} {m q : Int} (hu : P.underlying T = some (.slice E)) (hs : ∀ w, (sizeOf E).run P w = .ok sz w)
    (hx : Ev env y (.slice sz (xs.map f) tl)) (hi : Ev env i (.int k m)) (hj : Ev env j (.int k' q)) (h0 : 0 ≤ m) (h1 : m ≤ q) (h : q.toNat ≤ xs.length) :
    APure P ⟨dst, .slice T y (some i) (some j) none, ty, pos, af, gd⟩ env (.slice sz (((xs.take q.toNat).drop m.toNat).map f) .shared) := by
  have := pure_slice (dst := dst) (ty := ty) (pos := pos) (af := af) (gd := gd) hu hs hx (.yes _ _ _ hi h0) (.yes _ _ _ hj (by omega)) (by simp; omega) (by simpa using h)
  simpa [pieceTail, List.map_take, List.map_drop] using this
theorem pure_lenL {α : Type} {dst : Option Tmp} {T E : TypeId} {y : Operand} {sz : Nat} {f : α → AV} {xs : List α} {tl : Tail} (hu : P.underlying T = some (.slice E)) (hx : Ev env y (.slice sz (xs.map f) tl)) :
    APure P ⟨dst, .call { callee := .builtin .len, args := #[y], argTypes := #[T] }, ty, pos, af, gd⟩ env (.int .i64 xs.length) := by
  have := pure_lenS (dst := dst) (ty := ty) (pos := pos) (af := af) (gd := gd) hu hx
  rwa [List.length_map] at this
theorem pure_indexL {α : Type} {dst : Option Tmp} {T E : TypeId} {y i : Operand} {sz : Nat} {f : α → AV} {xs : List α} {tl : Tail} {k : IntKind} {m : Int} (hu : P.underlying T = some (.slice E)) (hs : ∀ w, (sizeOf E).run P w = .ok sz w)
    (hx : Ev env y (.slice sz (xs.map f) tl)) (hi : Ev env i (.int k m)) (h0 : 0 ≤ m) (h : m.toNat < xs.length) : APure P ⟨dst, .indexAddr T y i, ty, pos, af, gd⟩ env (.iptr (f xs[m.toNat]).cells) :=
  pure_indexS hu hs hx hi h0 (by simp [h])
end

theorem mem_of_true {p : Prop} [Decidable p] (h : decide p = true) : p := of_decide_eq_true h
theorem not_of_false {p : Prop} [Decidable p] (h : decide p = false) : ¬ p := of_decide_eq_false h

end Go.Proofs.YtncoklpecffokaaGreatDoor
