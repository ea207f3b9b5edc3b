/-
  The frame, part 2: what new rows, stores and appends do to 'Sat'.
-/
import Derived.Test.YtncoklpecffokaaGreatDoorSa
namespace Go.Proofs.YtncoklpecffokaaGreatDoor
open Go Go.RowKit

/-- Cells of block b that from now on never turn ('f': more than what was known of it). -/
def G.addImm (g : G) (b : Nat) (f : Nat → Option Value) : G := { g with imm := fun c o => if c = b then f o else g.imm c o }
/-- A name for the room at a row's end. -/
def G.addTok (g : G) (r : Option (Nat × Nat × Nat)) : G := { g with tok := fun t => if t = g.ntok then r else g.tok t, ntok := g.ntok + 1 }

theorem G.le_addImm {g : G} {b : Nat} {f : Nat → Option Value} (h : ∀ o v, g.imm b o = some v → f o = some v) : g.le (g.addImm b f) := by
  refine ⟨rfl, fun c o v hv => ?_, Nat.le_refl _, fun _ _ => rfl⟩
  show (if c = b then f o else g.imm c o) = some v
  by_cases e : c = b
  · subst e; rw [if_pos rfl]; exact h o v hv
  · rw [if_neg e]; exact hv
theorem G.le_addTok (g : G) (r : Option (Nat × Nat × Nat)) : g.le (g.addTok r) := by
  refine ⟨rfl, fun _ _ _ h => h, Nat.le_succ _, fun t ht => ?_⟩
  show (if t = g.ntok then r else g.tok t) = _
  rw [if_neg (by omega)]
@[simp] theorem G.imm_addTok (g : G) (r : Option (Nat × Nat × Nat)) : (g.addTok r).imm = g.imm := rfl
theorem G.imm_addImm (g : G) (b : Nat) (f : Nat → Option Value) (o : Nat) : (g.addImm b f).imm b o = f o := by simp [G.addImm]
theorem G.imm_addImm_ne (g : G) {b c : Nat} (f : Nat → Option Value) (o : Nat) (h : c ≠ b) : (g.addImm b f).imm c o = g.imm c o := by simp [G.addImm, h]
theorem G.tok_addTok (g : G) (r : Option (Nat × Nat × Nat)) : (g.addTok r).tok g.ntok = r := by simp [G.addTok]
theorem G.tok_addTok_ne (g : G) (r : Option (Nat × Nat × Nat)) {t : Nat} (h : t ≠ g.ntok) : (g.addTok r).tok t = g.tok t := by simp [G.addTok, h]

def Heap.drop (H : Heap) (b : Nat) : Heap := { H with objs := fun k => if k = b then none else H.objs k }
theorem Heap.drop_le (H : Heap) (b : Nat) : (H.drop b).le H := by
  refine ⟨fun c x hc => ?_, fun _ h => h⟩
  simp only [Heap.drop] at hc
  split at hc
  · cases hc
  · exact hc
theorem Heap.kill_le (H : Heap) (t : Nat) : (H.kill t).le H := by
  refine ⟨fun _ _ h => h, fun k h => ?_⟩
  simp only [Heap.kill] at h
  split at h
  · cases h
  · exact h
theorem Heap.objs_drop (H : Heap) (b : Nat) : (H.drop b).objs b = none := by simp [Heap.drop]

/-- Cells of a block that is known as it lies become cells that never turn. 'own' and 'tok': nobody else speaks of these cells. -/
theorem Sat.addImm {g : G} {H : Heap} {w : World} (h : Sat g H w) {b : Nat} {f : Nat → Option Value} (hf : ∀ o v, f o = some v → w.cell? ⟨b, o, none⟩ = some v)
    (hold : ∀ o v, g.imm b o = some v → f o = some v) (hown : H.objs b = none)
    (htok : ∀ t lo n o, H.toks t = true → g.tok t = some (b, lo, n) → n ≠ 0 → lo ≤ o → f o = none) : Sat (g.addImm b f) H w := by
  have hle := G.le_addImm hold
  refine ⟨h.below, fun c o v hv => ?_, fun c T cs hc => ?_, fun c es hc => ?_, h.raw, fun c x hc => ?_, fun t c lo n ht hk hn => ?_, h.tokLt, h.sep⟩
  · by_cases e : c = b
    · subst e; rw [G.imm_addImm] at hv; exact hf o v hv
    · rw [G.imm_addImm_ne _ _ _ e] at hv; exact h.imm c o v hv
  · obtain ⟨vs, hv, hr⟩ := h.box c T cs hc; exact ⟨vs, hv, hr.mono hle⟩
  · obtain ⟨en, cl, hv, hr⟩ := h.map c es hc; exact ⟨en, cl, hv, hr.mono hle⟩
  · refine ⟨(h.own c x hc).1, fun o => ?_⟩
    have e : c ≠ b := by rintro rfl; rw [hown] at hc; cases hc
    rw [G.imm_addImm_ne _ _ _ e]; exact (h.own c x hc).2 o
  · obtain ⟨h1, h2, h3, h4⟩ := h.tok t c lo n ht hk hn
    refine ⟨h1, h2, fun o ho => ?_, h4⟩
    by_cases e : c = b
    · subst e; rw [G.imm_addImm]; exact htok t lo n o ht hk hn ho
    · rw [G.imm_addImm_ne _ _ _ e]; exact h3 o ho

/-- A name for room that is there: nobody else speaks of it. -/
theorem Sat.addTok {g : G} {H : Heap} {w : World} (h : Sat g H w) (r : Option (Nat × Nat × Nat))
    (hr : ∀ b lo n, r = some (b, lo, n) → n ≠ 0 → g.base.heap.size ≤ b ∧ H.objs b = none ∧ (∀ o, lo ≤ o → g.imm b o = none) ∧
      (∃ (cells : Array Value) (T : TypeId), w.heap[b]? = some (.cells cells T (0, 0)) ∧ lo + n ≤ cells.size) ∧
      ∀ t lo' n', H.toks t = true → g.tok t = some (b, lo', n') → n' = 0) : Sat (g.addTok r) (H.live g.ntok) w := by
  have hle := G.le_addTok g r
  have live : ∀ t, (H.live g.ntok).toks t = true → t = g.ntok ∨ (t ≠ g.ntok ∧ H.toks t = true) := by
    intro t ht
    simp only [Heap.live] at ht
    by_cases e : t = g.ntok
    · exact .inl e
    · rw [if_neg e] at ht; exact .inr ⟨e, ht⟩
  refine ⟨h.below, h.imm, fun c T cs hc => ?_, fun c es hc => ?_, h.raw, h.own, fun t c lo n ht hk hn => ?_, fun t ht => ?_, fun t t' b lo n lo' n' ht ht' hk hk' hn hn' => ?_⟩
  · obtain ⟨vs, hv, hr⟩ := h.box c T cs hc; exact ⟨vs, hv, hr.mono hle⟩
  · obtain ⟨en, cl, hv, hr⟩ := h.map c es hc; exact ⟨en, cl, hv, hr.mono hle⟩
  · rcases live t ht with e | ⟨e, ht⟩
    · subst e; rw [G.tok_addTok] at hk
      obtain ⟨h1, h2, h3, h4, _⟩ := hr c lo n hk hn
      exact ⟨h1, h2, h3, h4⟩
    · rw [G.tok_addTok_ne _ _ e] at hk; exact h.tok t c lo n ht hk hn
  · show t < g.ntok + 1
    rcases live t ht with e | ⟨_, ht⟩
    · omega
    · have := h.tokLt t ht; omega
  · rcases live t ht with e | ⟨e, ht⟩ <;> rcases live t' ht' with e' | ⟨e', ht'⟩
    · omega
    · subst e; rw [G.tok_addTok] at hk; rw [G.tok_addTok_ne _ _ e'] at hk'
      exact absurd ((hr b lo n hk hn).2.2.2.2 t' lo' n' ht' hk') hn'
    · subst e'; rw [G.tok_addTok] at hk'; rw [G.tok_addTok_ne _ _ e] at hk
      exact absurd ((hr b lo' n' hk' hn').2.2.2.2 t lo n ht hk) hn
    · rw [G.tok_addTok_ne _ _ e] at hk; rw [G.tok_addTok_ne _ _ e'] at hk'
      exact h.sep t t' b lo n lo' n' ht ht' hk hk' hn hn'

/-- A new row that never turns. -/
theorem Sat.new_imm {g : G} {H : Heap} {w : World} (h : Sat g H w) (vs : Array Value) (T : TypeId) (fz : Nat × Nat) (k : Nat) :
    Sat (g.addImm w.heap.size fun o => if o < k then vs[o]? else none) H (w.alloc (.cells vs T fz)) := by
  refine (h.alloc _).addImm (fun o v hv => ?_) (fun o v hv => by rw [h.imm_new] at hv; cases hv) h.new_none (fun t lo n o ht hk hn _ => absurd (h.tok_new t lo n ht hk) hn)
  split at hv
  · unfold World.cell?; rw [heap_alloc_new]; simpa using hv
  · cases hv

/-- The cell at an address of a box. -/
theorem Sat.box_cell {g : G} {H : Heap} {w : World} (h : Sat g H w) {b : Nat} {T : TypeId} {cs : List AV} (hb : H.objs b = some (.box T cs)) {o : Nat} {c : AV} (hc : cs[o]? = some c) :
    ∃ v, w.cell? ⟨b, o, none⟩ = some v ∧ RelV g c v := by
  obtain ⟨vs, hv, hr⟩ := h.box b T cs hb
  obtain ⟨v, hv', hrel⟩ := hr.at hc
  exact ⟨v, by rw [hv.cell]; exact hv', hrel⟩

theorem heap_other {w w' : World} {b c : Nat} (h : ∀ k, k ≠ b → w'.heap[k]? = w.heap[k]?) (hc : c ≠ b) {x : Obj} (hx : w.heap[c]? = some x) : w'.heap[c]? = some x := (h c hc).trans hx

/-- One block that is its own turns; it is spoken of anew. -/
theorem Sat.turn {g : G} {H : Heap} {w w' : World} (h : Sat g H w) {b : Nat} {x x' : AObj} (hb : H.objs b = some x)
    (hoth : ∀ k, k ≠ b → w'.heap[k]? = w.heap[k]?) (hsz : w'.heap.size = w.heap.size) (hos : w'.os = w.os) (htp : w'.tape = w.tape) (hout : w'.output = w.output)
    (hx : match x' with
      | .box T cs => ∃ vs : Array Value, RowAt w' b vs T ∧ RelCells g cs vs
      | .map es => ∃ ents clock, w'.heap[b]? = some (.map ents clock) ∧ RelMap g es ents clock
      | .raw o => w'.heap[b]? = some o) : Sat g (H.set b x') w' := by
  obtain ⟨hbase, himm⟩ := h.own b x hb
  have hcell : ∀ (c o : Nat), c ≠ b → w'.cell? ⟨c, o, none⟩ = w.cell? ⟨c, o, none⟩ := fun c o hc => World.cell?_of_block (w := w) (hoth c hc)
  have h0 : Sat g (H.drop b) w' := by
    refine ⟨h.below.trans ⟨hos, htp, hout, by omega, fun k hk => hoth k (by omega)⟩, fun c o v hv => ?_, fun c T cs hc => ?_, fun c es hc => ?_, fun c o hc => ?_, fun c y hc => h.own c y ((H.drop_le b).objs _ _ hc), fun t c lo n ht hk hn => ?_, h.tokLt, h.sep⟩
    · have e : c ≠ b := by rintro rfl; rw [himm] at hv; cases hv
      rw [hcell c o e]; exact h.imm c o v hv
    · have e : c ≠ b := by rintro rfl; rw [Heap.objs_drop] at hc; cases hc
      obtain ⟨vs, hv, hr⟩ := h.box c T cs ((H.drop_le b).objs _ _ hc); exact ⟨vs, hv.same (heap_other hoth e), hr⟩
    · have e : c ≠ b := by rintro rfl; rw [Heap.objs_drop] at hc; cases hc
      obtain ⟨en, cl, hv, hr⟩ := h.map c es ((H.drop_le b).objs _ _ hc); exact ⟨en, cl, heap_other hoth e hv, hr⟩
    · have e : c ≠ b := by rintro rfl; rw [Heap.objs_drop] at hc; cases hc
      exact heap_other hoth e (h.raw c o ((H.drop_le b).objs _ _ hc))
    · obtain ⟨h1, h2, h3, cl, T, h4, h5⟩ := h.tok t c lo n ht hk hn
      have e : c ≠ b := by rintro rfl; rw [h2] at hb; cases hb
      refine ⟨h1, ?_, h3, cl, T, heap_other hoth e h4, h5⟩
      simp [Heap.drop, e, h2]
  have h1 := h0.claim hbase himm (fun t lo n ht hk => by
    rcases Nat.eq_zero_or_pos n with e | e
    · exact e
    · have := (h.tok t b lo n ht hk (by omega)).2.1; rw [hb] at this; cases this) x' hx
  have e : (H.drop b).set b x' = H.set b x' := by
    simp only [Heap.set, Heap.drop, Heap.mk.injEq, and_true]
    funext k; split <;> simp_all
  rwa [e] at h1

/-- A store of cells into a box. -/
theorem Sat.store {g : G} {H : Heap} {w : World} (h : Sat g H w) {b : Nat} {T : TypeId} {cs ds : List AV} {vs us : Array Value} (hb : H.objs b = some (.box T cs))
    (hw : w.heap[b]? = some (.cells vs T (0, 0))) (hr : RelCells g ds us) : Sat g (H.set b (.box T ds)) { w with heap := w.heap.setIfInBounds b (.cells us T (0, 0)) } := by
  refine h.turn hb (fun k hk => ?_) (by simp) rfl rfl rfl ⟨us, .mk ?_, hr⟩
  · simp only [Array.getElem?_setIfInBounds]; rw [if_neg (by omega)]
  · have hlt : b < w.heap.size := (Array.getElem?_eq_some_iff.1 hw).1
    simp [hlt]

/-- A box of which nothing will be written any more: its cells never turn from now on. -/
theorem Sat.freeze {g : G} {H : Heap} {w : World} (h : Sat g H w) {b : Nat} {T : TypeId} {cs : List AV} (hb : H.objs b = some (.box T cs)) :
    ∃ vs : Array Value, RelCells g cs vs ∧ (∀ o v, vs[o]? = some v → (g.addImm b (fun o => vs[o]?)).imm b o = some v) ∧ g.le (g.addImm b (fun o => vs[o]?)) ∧ Sat (g.addImm b (fun o => vs[o]?)) (H.drop b) w := by
  obtain ⟨vs, hv, hr⟩ := h.box b T cs hb
  have himm := (h.own b _ hb).2
  refine ⟨vs, hr, fun o v hv => by rw [G.imm_addImm]; exact hv, G.le_addImm (fun o v hv => by rw [himm] at hv; cases hv), ?_⟩
  refine (h.weaken (H.drop_le b)).addImm (fun o v ho => by rw [hv.cell]; exact ho) (fun o v hv => by rw [himm] at hv; cases hv) (Heap.objs_drop _ _) (fun t lo n o ht hk hn _ => ?_)
  have := (h.tok t b lo n ht hk hn).2.1; rw [hb] at this; cases this

/-- An append within the room that is its own. -/
theorem Sat.append_in {g : G} {H : Heap} {w : World} (h : Sat g H w) {t b lo n : Nat} (ht : H.toks t = true) (hk : g.tok t = some (b, lo, n)) (us : Array Value) (hn : us.size ≤ n) (h0 : n ≠ 0) :
    ∃ (cells : Array Value) (T : TypeId), w.heap[b]? = some (.cells cells T (0, 0)) ∧ lo + n ≤ cells.size ∧ ∀ cells' : Array Value, cells'.size = cells.size → (∀ o, o < lo → cells'[o]? = cells[o]?) → (∀ o, o < us.size → cells'[lo + o]? = us[o]?) →
      ∃ g' : G, g.le g' ∧ g'.ntok = g.ntok + 1 ∧ g'.tok g.ntok = some (b, lo + us.size, n - us.size) ∧ (∀ o v, us[o]? = some v → g'.imm b (lo + o) = some v) ∧
        Sat g' ((H.kill t).live g.ntok) { w with heap := w.heap.setIfInBounds b (.cells cells' T (0, 0)) } := by
  obtain ⟨h1, h2, h3, cells, T, h4, h5⟩ := h.tok t b lo n ht hk h0
  refine ⟨cells, T, h4, h5, fun cells' hs hlow hnew => ?_⟩
  have hlt : b < w.heap.size := (Array.getElem?_eq_some_iff.1 h4).1
  let f : Nat → Option Value := fun o => if lo ≤ o ∧ o < lo + us.size then us[o - lo]? else g.imm b o
  have hf : ∀ o v, g.imm b o = some v → f o = some v := fun o v hv => by
    show (if lo ≤ o ∧ o < lo + us.size then us[o - lo]? else g.imm b o) = some v
    rw [if_neg (by rintro ⟨ho, _⟩; rw [h3 o ho] at hv; cases hv)]; exact hv
  have hkill : ∀ t', (H.kill t).toks t' = true → t' ≠ t ∧ H.toks t' = true := fun t' ht' => by
    simp only [Heap.kill] at ht'
    by_cases e : t' = t
    · rw [if_pos e] at ht'; cases ht'
    · rw [if_neg e] at ht'; exact ⟨e, ht'⟩
  have hoth : ∀ k, k ≠ b → (w.heap.setIfInBounds b (.cells cells' T (0, 0)))[k]? = w.heap[k]? := fun k hk => by
    simp only [Array.getElem?_setIfInBounds]; rw [if_neg (by omega)]
  have hself : (w.heap.setIfInBounds b (.cells cells' T (0, 0)))[b]? = some (.cells cells' T (0, 0)) := by simp [hlt]
  have hsep : ∀ t' lo' n', (H.kill t).toks t' = true → g.tok t' = some (b, lo', n') → n' = 0 := fun t' lo' n' ht' hk' => by
    rcases Nat.eq_zero_or_pos n' with e | e
    · exact e
    · obtain ⟨hne, ht'⟩ := hkill t' ht'
      exact absurd (h.sep t' t b lo' n' lo n ht' ht hk' hk (by omega) h0) hne
  -- the world behind the store, the elder words
  have hA : Sat g (H.kill t) { w with heap := w.heap.setIfInBounds b (.cells cells' T (0, 0)) } := by
    refine ⟨h.below.trans ⟨rfl, rfl, rfl, by simp, fun k hk => hoth k (by omega)⟩, fun c o v hv => ?_, fun c S cs hc => ?_, fun c es hc => ?_, fun c o hc => ?_, h.own, fun t' c lo' n' ht' hk' hn' => ?_, fun t' ht' => h.tokLt t' (hkill t' ht').2, fun t' t'' c l' m' l'' m'' ht' ht'' => h.sep t' t'' c l' m' l'' m'' (hkill t' ht').2 (hkill t'' ht'').2⟩
    · by_cases e : c = b
      · subst e
        have ho : o < lo := by
          rcases Nat.lt_or_ge o lo with e' | e'
          · exact e'
          · rw [h3 o e'] at hv; cases hv
        have := h.imm c o v hv
        unfold World.cell? at this ⊢
        simp only [hself]
        rw [h4] at this
        simp at this ⊢
        rw [hlow o ho]; exact this
      · rw [World.cell?_of_block (w := w) (hoth c e)]; exact h.imm c o v hv
    · have e : c ≠ b := by rintro rfl; rw [Heap.objs_kill, h2] at hc; cases hc
      obtain ⟨vs, hv, hr⟩ := h.box c S cs hc; exact ⟨vs, hv.same (fun q => (hoth c e).trans q), hr⟩
    · have e : c ≠ b := by rintro rfl; rw [Heap.objs_kill, h2] at hc; cases hc
      obtain ⟨en, cl, hv, hr⟩ := h.map c es hc; exact ⟨en, cl, (hoth c e).trans hv, hr⟩
    · have e : c ≠ b := by rintro rfl; rw [Heap.objs_kill, h2] at hc; cases hc
      exact (hoth c e).trans (h.raw c o hc)
    · have e : c ≠ b := by rintro rfl; exact hn' (hsep t' lo' n' ht' hk')
      obtain ⟨q1, q2, q3, cl, S, q4, q5⟩ := h.tok t' c lo' n' (hkill t' ht').2 hk' hn'
      exact ⟨q1, q2, q3, cl, S, (hoth c e).trans q4, q5⟩
  have hB : Sat (g.addImm b f) (H.kill t) { w with heap := w.heap.setIfInBounds b (.cells cells' T (0, 0)) } := by
    refine hA.addImm (fun o v hv => ?_) hf h2 (fun t' lo' n' o ht' hk' hn' _ => absurd (hsep t' lo' n' ht' hk') hn')
    by_cases hin : lo ≤ o ∧ o < lo + us.size
    · have hv' : us[o - lo]? = some v := by simpa [f, hin] using hv
      unfold World.cell?
      simp only [hself]
      have := hnew (o - lo) (by omega)
      rw [show lo + (o - lo) = o by omega] at this
      simp [this, hv']
    · have hv' : g.imm b o = some v := by
        have : f o = g.imm b o := if_neg hin
        rw [← this]; exact hv
      exact hA.imm b o v hv'
  refine ⟨(g.addImm b f).addTok (some (b, lo + us.size, n - us.size)), (G.le_addImm hf).trans (G.le_addTok _ _), rfl, G.tok_addTok _ _, fun o v ho => ?_, ?_⟩
  · rw [G.imm_addTok, G.imm_addImm]
    have hlt' : o < us.size := (Array.getElem?_eq_some_iff.1 ho).1
    show (if lo ≤ lo + o ∧ lo + o < lo + us.size then us[lo + o - lo]? else g.imm b (lo + o)) = some v
    rw [if_pos (by omega), show lo + o - lo = o by omega]; exact ho
  · refine hB.addTok _ (fun b' lo' n' he hn' => ?_)
    simp only [Option.some.injEq, Prod.mk.injEq] at he
    obtain ⟨rfl, rfl, rfl⟩ := he
    refine ⟨h1, h2, fun o ho => ?_, ⟨cells', T, hself, by omega⟩, hsep⟩
    rw [G.imm_addImm]
    show (if lo ≤ o ∧ o < lo + us.size then us[o - lo]? else g.imm b o) = none
    rw [if_neg (by omega)]; exact h3 o (by omega)

/-- A new row, the first k cells of which never turn, the rest its own room. -/
theorem Sat.new_row {g : G} {H : Heap} {w : World} (h : Sat g H w) (vs : Array Value) (T : TypeId) (k : Nat) (hk : k ≤ vs.size) :
    ∃ g' : G, g.le g' ∧ g'.ntok = g.ntok + 1 ∧ g'.tok g.ntok = some (w.heap.size, k, vs.size - k) ∧ (∀ o v, o < k → vs[o]? = some v → g'.imm w.heap.size o = some v) ∧ Sat g' (H.live g.ntok) (w.alloc (.cells vs T)) := by
  have h0 := h.new_imm vs T (0, 0) k
  refine ⟨(g.addImm w.heap.size fun o => if o < k then vs[o]? else none).addTok (some (w.heap.size, k, vs.size - k)),
    (G.le_addImm (fun o v hv => by rw [h.imm_new] at hv; cases hv)).trans (G.le_addTok _ _), rfl, G.tok_addTok _ _, fun o v ho hv => ?_, ?_⟩
  · rw [G.imm_addTok, G.imm_addImm]; simpa [ho] using hv
  · refine h0.addTok _ (fun b lo n he hn => ?_)
    simp only [Option.some.injEq, Prod.mk.injEq] at he
    obtain ⟨rfl, rfl, rfl⟩ := he
    exact ⟨h.below.size, h.new_none, fun o ho => by rw [G.imm_addImm]; simp; intro; omega, ⟨vs, T, heap_alloc_new _ _, by omega⟩, h.tok_new⟩

/-- A name for no room at all (a slice that has none). -/
theorem Sat.retag {g : G} {H : Heap} {w : World} (h : Sat g H w) : Sat (g.addTok none) (H.live g.ntok) w := h.addTok none (fun _ _ _ he => by cases he)

end Go.Proofs.YtncoklpecffokaaGreatDoor
