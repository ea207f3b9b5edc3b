/-
  The evaluator of closed calls, part 6: operations that make a block ('evA'), reads, writes, pieces, texts.
-/
import Derived.Test.YtncoklpecffokaaGreatDoorEe
namespace Go.Proofs.YtncoklpecffokaaGreatDoor.Cc
open Go Go.RowKit

theorem setRow_eq (w : World) (g : Nat) (old cs : Array Value) (t : TypeId) (fr : Nat × Nat) (hg : w.heap[g]? = some (.cells old t fr)) : w.setRow g cs = { w with heap := w.heap.setIfInBounds g (.cells cs t fr) } := by
  unfold World.setRow
  congr 1
  apply Array.ext_getElem?
  intro i
  simp only [Array.getElem?_modify, Array.getElem?_setIfInBounds]
  split
  · rename_i e; subst e
    have hlt : g < w.heap.size := (Array.getElem?_eq_some_iff.1 hg).1
    rw [hg, if_pos hlt]; rfl
  · rfl

/-- What an operation's run comes to, if it is a value (a call: by its contract). -/
def YieldsTo (P : Program) (S : Value → World → Prop) : Result Next → Prop
  | .ok (.value v) w => S v w
  | .ok .skip w => S undef w
  | .ok (.enter f args) w => Calls P f args w (fun e w' => ∃ v, e = .returned v ∧ S v w')
  | .ok (.row r args) w => Rows P r args w S
  | _ => False
theorem YieldsTo.mono {P : Program} {S S' : Value → World → Prop} (h : ∀ v w, S v w → S' v w) {r : Result Next} (k : YieldsTo P S r) : YieldsTo P S' r := by
  cases r with
  | ok x w =>
    cases x <;> first | exact h _ _ k | exact k.elim | skip
    · exact Calls.mono k fun e w' ⟨v, he, hs⟩ => ⟨v, he, h _ _ hs⟩
    · exact Rows.mono k fun v w' hs => h _ _ hs
  | halt x w => exact k.elim
theorem YieldsTo.wp {P : Program} {o : Oper} {a : Act} {w : World} {S : Value → World → Prop} {K : Act → World → Prop} {Q : Exit → Act → World → Prop}
    (h : YieldsTo P S ((execOp a.eval o).run P w)) (hk : ∀ v w', S v w' → K (a.put o.dst v) w') : o.wp P a w K Q := by
  unfold Oper.wp
  generalize (execOp a.eval o).run P w = r at *
  cases r with
  | ok x w' =>
    cases x <;> first | exact hk _ _ h | exact h.elim | skip
    · exact Calls.mono h fun e w'' ⟨v, he, hs⟩ => by subst he; exact hk _ _ hs
    · exact Rows.mono h fun v w'' hs => hk _ _ hs
  | halt x w' => exact h.elim

/-- One operation: from whatever state that stands for (e, H) it comes to x and H'. -/
def AStep (P : Program) (ng : Con) (o : Oper) (e : Lk) (H : Heap) (x : V) (H' : Heap) : Prop :=
  ∀ g a w, g.ng = ng → RelE g e a → Sat g H w → YieldsTo P (fun v w' => ∃ g', g.le g' ∧ RelV g' x v ∧ Sat g' H' w') ((execOp a.eval o).run P w)
theorem APure.step {P : Program} {ng : Con} {o : Oper} {e : Lk} {x : V} (h : APure P ng o e x) (H : Heap) : AStep P ng o e H x H := by
  intro g a w hg k s
  obtain ⟨v, hv, hrun⟩ := h g a hg k
  rw [hrun w]
  exact ⟨g, G.le.refl g, hv, s⟩
/-- A step whose run is known. -/
theorem AStep.of {P : Program} {ng : Con} {o : Oper} {e : Lk} {H H' : Heap} {x : V} (h : ∀ g a w, g.ng = ng → RelE g e a → Sat g H w → ∃ v w' g', (execOp a.eval o).run P w = .ok (.value v) w' ∧ g.le g' ∧ RelV g' x v ∧ Sat g' H' w') : AStep P ng o e H x H' := by
  intro g a w hg k s
  obtain ⟨v, w', g', hr, h1, h2, h3⟩ := h g a w hg k s
  rw [hr]
  exact ⟨g', h1, h2, h3⟩

/-- A new row of cells, under a new name. -/
theorem objNew {g : G} {w : World} {n : Nat} {cs : List V} {vs : Array Value} (T : TypeId) (hb : g.bn n = false) (hr : RelCells g cs vs) : ObjAt (g.name n w.heap.size vs.size hb) (w.alloc (.cells vs T)) n (.cells T cs true false) := by
  have e : (g.name n w.heap.size vs.size hb).nm n = w.heap.size := if_pos rfl
  refine ⟨vs, (0, 0), ⟨T, ?_, fun _ => rfl⟩, fun _ => .inl rfl, (if_pos rfl).symm, by rw [hr.1]; exact Nat.le_refl _, fun _ => hr.1, ?_⟩
  · rw [e]
    show (w.heap.push _)[w.heap.size]? = _
    simp
  · rw [hr.1, show vs.extract 0 vs.size = vs by simp]
    exact hr.mono (g.le_name n _ _ hb)

theorem rep_len (zs : List V) (n : Nat) : (rep zs n).length = n * zs.length := by
  induction n with
  | zero => simp [rep]
  | succ n ih => simp [rep, ih, Nat.add_mul]; omega
/-- n times a row of zeros. -/
theorem rep_rel {g : G} {zs : List V} {vs : Array Value} (h : RelCells g zs vs) (n : Nat) : RelCells g (rep zs n) ((Array.range (n * vs.size)).map (vs[· % vs.size]!)) := by
  refine ⟨by rw [rep_len, h.1]; simp, fun i c v hc hv => ?_⟩
  have hlt : i < n * vs.size := by
    have := (Array.getElem?_eq_some_iff.1 hv).1
    simpa using this
  have hv' : v = vs[i % vs.size]! := by
    have : ((Array.range (n * vs.size)).map (vs[· % vs.size]!))[i]? = some (vs[i % vs.size]!) := by simp [hlt]
    rw [this] at hv; exact (Option.some.inj hv).symm
  have hpos : 0 < vs.size := by
    rcases Nat.eq_zero_or_pos vs.size with h0 | h0
    · rw [h0] at hlt; simp at hlt
    · exact h0
  have key : ∀ n i, i < n * zs.length → (rep zs n)[i]? = zs[i % zs.length]? := by
    intro n
    induction n with
    | zero => intro i hi; simp at hi
    | succ n ih =>
      intro i hi
      simp only [rep]
      rw [List.getElem?_append]
      split
      · rename_i h1; rw [Nat.mod_eq_of_lt h1]
      · rename_i h1
        rw [ih _ (by rw [Nat.add_mul] at hi; omega), Nat.mod_eq_sub_mod (Nat.le_of_not_lt h1)]
  rw [key n i (by rw [h.1]; exact hlt), h.1] at hc
  have hm : i % vs.size < vs.size := Nat.mod_lt _ hpos
  have : vs[i % vs.size]? = some v := by rw [hv']; simp [hm]
  exact h.2 _ c v hc this

section
variable {P : Program} {ti : TI} (ok : TIok P ti) {ng : Con} {e : Lk}
include ok

theorem evA_sound {o : Oper} {n : Nat} {x : V} {b : O} (h : evA ti ng e o n = some (x, b)) {g : G} {a : Act} {w : World} (hg : g.ng = ng) (k : RelE g e a) (hb : g.bn n = false) :
    ∃ v vs T q, (execOp a.eval o).run P w = .ok (.value v) (w.alloc (.cells vs T)) ∧ b ≠ .gone ∧ ObjAt (g.name n w.heap.size q hb) (w.alloc (.cells vs T)) n b ∧ RelV (g.name n w.heap.size q hb) x v := by
  subst hg
  have nm : ∀ q, (g.name n w.heap.size q hb).nm n = w.heap.size := fun q => if_pos rfl
  have bn : ∀ q, (g.name n w.heap.size q hb).bn n = true := fun q => by simp [G.name]
  have hptr : ∀ q, RelV (g.name n w.heap.size q hb) (.ptr n 0) (.pointer (some ⟨w.heap.size, 0, none⟩)) := fun q => by
    have := RelV.ptr (g := g.name n w.heap.size q hb) n 0 (bn q)
    rwa [nm] at this
  have hsl : ∀ sz q c len, c * sz = q → len ≤ c → c ≤ maxLen → RelV (g.name n w.heap.size q hb) (.sl sz n 0 len) (.slice (some ⟨w.heap.size, 0, none⟩) len c) := fun sz q c len h1 h2 h3 => by
    have := RelV.sl (g := g.name n w.heap.size q hb) sz n 0 len c (bn q) (by rw [Nat.zero_add, h1]; exact (if_pos rfl).symm) h2 h3
    rwa [nm] at this
  obtain ⟨dst, op, ty, pos, af, gd⟩ := o
  cases op with
  | alloc T =>
    simp only [evA] at h
    split at h <;> first | (cases h; done) | skip
    rename_i i hT
    obtain ⟨hl, h⟩ := cond_some h
    cases h
    obtain ⟨z, hz1, hz2⟩ := ok.run_zeroValue hT
    have hc := ((hz1 g).rcells hl).1
    exact ⟨_, z.cells, T, _, by simp [execOp, Instr.alloc, hz2, newVar, newRow], by simp, objNew T hb hc, hptr _⟩
  | box T y =>
    simp only [evA] at h
    split at h <;> first | (cases h; done) | skip
    rename_i v hy
    obtain ⟨hl, h⟩ := cond_some h
    cases h
    obtain ⟨u, he, hu⟩ := evO_at hy k
    have hc := (hu.rcells hl).1
    exact ⟨_, u.cells, T, _, by simp [execOp, he, Instr.box, newVar, newRow], by simp, objNew T hb hc, hptr _⟩
  | buildSlice T len parts =>
    simp only [evA] at h
    split at h <;> first | (cases h; done) | skip
    rename_i i hT
    split at h <;> first | (cases h; done) | skip
    rename_i E hu
    split at h <;> first | (cases h; done) | skip
    rename_i j qs hj hq
    cases hcnd : (Nat.ble len 16777216 && (Nat.ble (len * j.size) 16777216 && (j.zero.lays && Nat.beq j.zero.cells.length j.size))) with
    | false => rw [hcnd] at h; cases h
    | true =>
      rw [hcnd] at h
      simp only [cond] at h
      simp only [Bool.and_eq_true] at hcnd
      have b1 := Nat.le_of_ble_eq_true hcnd.1
      have b2 := Nat.le_of_ble_eq_true hcnd.2.1
      have b4 := Nat.eq_of_beq_eq_true hcnd.2.2.2
      split at h <;> first | (cases h; done) | skip
      rename_i cs hf
      cases h
      obtain ⟨h1, h2⟩ := parts_rel k hq
      obtain ⟨z, hz1, hz2⟩ := ok.run_zeroValue hj
      have hzc := ((hz1 g).rcells hcnd.2.2.1).1
      have hzs : z.cells.size = j.size := by rw [← hzc.1]; exact b4
      have hrep := rep_rel hzc len
      obtain ⟨us, h3, h4, h5⟩ := fill_rel hrep h1 h2 hf
      have hus : us.size = len * j.size := by rw [← h4.1, h5, rep_len, b4]
      have hun := ok.run_underlying hT
      rw [hu] at hun
      have hrun : (execOp a.eval ⟨dst, .buildSlice T len parts, ty, pos, af, gd⟩).run P w = .ok (.value (.slice (some ⟨w.heap.size, 0, none⟩) len len)) (w.alloc (.cells us E)) := by
        have e1 : ¬ (2 ^ 24 < len * j.size) := by simpa using b2
        have h3' : Instr.fill (fun i => some (i * j.size, j.size)) ((Array.range (len * j.size)).map (z.cells[· % z.cells.size]!)) (parts.toList.map fun p => (p.1, a.eval p.2)) = some us := by rw [hzs] at h3; rw [hzs]; exact h3
        simp only [execOp, Instr.buildSlice]
        simp [hun, ok.run_sizeOf hj]
        rw [if_neg (by simpa using e1)]
        by_cases e : len * j.size = 0
        · rw [if_pos e]
          have e2 : (Array.map (fun _ => (default : Value)) (Array.range (len * j.size))) = (Array.range (len * j.size)).map (z.cells[· % z.cells.size]!) := by rw [e]; simp
          rw [e2, h3']
          simp [newRow]
        · rw [if_neg e, hz2]
          simp [h3', newRow]
      exact ⟨_, us, E, _, hrun, by simp, objNew E hb h4, hsl _ _ _ _ hus.symm (Nat.le_refl _) (by unfold maxLen; omega)⟩
  | makeSlice T l c =>
    simp only [evA] at h
    split at h <;> first | (cases h; done) | skip
    rename_i i hT
    split at h <;> first | (cases h; done) | skip
    rename_i E k1 m k2 q hu hl hc
    split at h <;> first | (cases h; done) | skip
    rename_i j hj
    obtain ⟨hcnd, h⟩ := cond_some h
    cases h
    simp only [Bool.and_eq_true] at hcnd
    have b1 := Nat.le_of_ble_eq_true hcnd.1
    have b2 := Nat.le_of_ble_eq_true hcnd.2.1
    have b3 := Nat.le_of_ble_eq_true hcnd.2.2.1
    have b4 := Nat.eq_of_beq_eq_true hcnd.2.2.2.2
    obtain ⟨v1, he1, hv1⟩ := evO_at hl k
    obtain ⟨v2, he2, hv2⟩ := evO_at hc k
    cases hv1
    cases hv2
    obtain ⟨f, hf1, hf2, hf3, z, hz0, hz1⟩ := ok.run_typeInfo hj
    obtain ⟨z, hz1, hz2⟩ := ok.run_zeroValue hj
    have hzc := ((hz1 g).rcells hcnd.2.2.2.1).1
    have hzs : z.cells.size = j.size := by rw [← hzc.1]; exact b4
    have hrep := rep_rel hzc q
    have hun := ok.run_underlying hT
    rw [hu] at hun
    have w1 : IntKind.i64.wrap (Int.ofNat m) = (m : Int) := by simp [IntKind.wrap, IntKind.bits, IntKind.signed]; omega
    have w2 : IntKind.i64.wrap (Int.ofNat q) = (q : Int) := by simp [IntKind.wrap, IntKind.bits, IntKind.signed]; omega
    have hbytes : j.bytes * q ≤ 1000000 * 1000000 := Nat.mul_le_mul b3 b2
    have hrun : (execOp a.eval ⟨dst, .makeSlice T l c, ty, pos, af, gd⟩).run P w = .ok (.value (.slice (some ⟨w.heap.size, 0, none⟩) m q)) (w.alloc (.cells ((Array.range (q * z.cells.size)).map (z.cells[· % z.cells.size]!)) E)) := by
      simp only [execOp, Instr.makeSlice, he1, he2]
      simp only [Sem.run_bind, hun, Result.andThen_ok, asInt, asIntOf, Sem.run_pure, hf1, hf3, w1, w2]
      have n1 : ¬ ((q : Int) < 0) := by omega
      have n2 : ¬ ((281474976710656 : Int) < (j.bytes : Int) * (q : Int)) := by
        have : (j.bytes : Int) * (q : Int) = ((j.bytes * q : Nat) : Int) := by simp
        rw [this]; omega
      have n3 : ¬ ((m : Int) < 0) := by omega
      have n4 : ¬ ((m : Int) > (q : Int)) := by omega
      have n5 : ¬ (q * j.bytes > roomBytes) := by unfold roomBytes; rw [Nat.mul_comm]; omega
      have n6 : ¬ ((q : Int) < (m : Int)) := by omega
      have n7 : ¬ (q < m) := by omega
      simp [n1, n2, n3, n6, n7, askRoom, n5, ok.run_sizeOf hj, hzs]
      by_cases e0 : q * j.size = 0
      · have e1 : q = 0 ∨ j.size = 0 := by
          rcases Nat.eq_zero_or_pos q with h0 | h0
          · exact .inl h0
          · rcases Nat.eq_zero_or_pos j.size with h1 | h1
            · exact .inr h1
            · have := Nat.mul_pos h0 h1; omega
        simp [e1, newRow, e0]
        rw [show Array.range 0 = #[] from rfl]
        simp
      · have e1 : ¬ (q = 0 ∨ j.size = 0) := by rintro (h0 | h0) <;> simp [h0] at e0
        simp [hz2, newRow, hzs, e1]
        intro h0
        exact absurd h0 e0
    have hq : ((Array.range (q * z.cells.size)).map (z.cells[· % z.cells.size]!)).size = q * j.size := by simp [hzs]
    exact ⟨_, _, E, _, hrun, by simp, objNew E hb hrep, hsl _ _ _ _ hq.symm b1 (by unfold maxLen; omega)⟩
  | _ => simp [evA] at h

/-- A block of the next name. -/
theorem evA_new {o : Oper} {x : V} {b : O} {H : Heap} (h : evA ti ng e o H.nn = some (x, b)) : AStep P ng o e H x (H.new b) := by
  refine AStep.of fun g a w hg k s => ?_
  obtain ⟨v, vs, T, q, h1, h2, h3, h4⟩ := evA_sound (w := w) ok h hg k s.nn_not_bn
  exact ⟨v, _, _, h1, g.le_name _ _ _ _, h4, s.new q h2 s.nn_not_bn h3⟩
/-- A block under a name that is kept for it. -/
theorem evA_at {o : Oper} {n : Nat} {x : V} {b : O} {H : Heap} (h : evA ti ng e o n = some (x, b)) (hn : H.get n = none) (hlt : n < H.nn) : AStep P ng o e H x (H.set n b) := by
  refine AStep.of fun g a w hg k s => ?_
  have hb := s.not_bn hn
  obtain ⟨v, vs, T, q, h1, h2, h3, h4⟩ := evA_sound (w := w) ok h hg k hb
  exact ⟨v, _, _, h1, g.le_name _ _ _ _, h4, s.newAt hn hlt q h2 hb h3⟩

/-! reads and writes -/
omit ok in
theorem objCells_spec {g : G} {H : Heap} {w : World} (s : Sat g H w) {n : Nat} {cs : List V} (h : objCells H n = some cs) :
    ∃ T ex ro, H.get n = some (.cells T cs ex ro) ∧ g.bn n = true ∧ ∃ (vs : Array Value) (fz : Nat × Nat), (∃ T', w.heap[g.nm n]? = some (.cells vs T' fz) ∧ (ro = false → T' = T)) ∧ (ro = false → Thaw vs.size fz) ∧ vs.size = g.vs n ∧ cs.length ≤ vs.size ∧ (ex = true → cs.length = vs.size) ∧ RelCells g cs (vs.extract 0 cs.length) := by
  unfold objCells at h
  split at h
  · rename_i T cs' ex ro hn
    cases h
    exact ⟨T, ex, ro, hn, s.dom _ _ hn, s.at_ _ _ hn⟩
  · cases h
omit ok in
theorem cell_of {w : World} {b o : Nat} {vs : Array Value} {T : TypeId} {fz : Nat × Nat} {v : Value} (h : w.heap[b]? = some (.cells vs T fz)) (hv : vs[o]? = some v) : w.cell? ⟨b, o, none⟩ = some v := by
  unfold World.cell?; rw [h]; simpa using hv
omit ok in
theorem run_cells {w : World} {b o k : Nat} {vs : Array Value} {T : TypeId} {fz : Nat × Nat} (h : w.heap[b]? = some (.cells vs T fz)) (hk : o + k ≤ vs.size) : (loadCells ⟨b, o, none⟩ k).run P w = .ok (vs.extract o (o + k)) w := by
  have := run_loadCells_list (P := P) (w := w) ⟨b, o, none⟩ (vs.extract o (o + k)).toList (fun j v hj => by
    rw [Addr.add_off]
    simp only [Array.getElem?_toList, Array.getElem?_extract] at hj
    split at hj
    · exact cell_of h (by simpa using hj)
    · cases hj)
  rw [show (vs.extract o (o + k)).toList.length = k by simp; omega] at this
  simpa only [Array.toArray_toList] using this
omit ok in
theorem RelCells.at0 {g : G} {cs : List V} {vs : Array Value} (hl : cs.length ≤ vs.size) (h : RelCells g cs (vs.extract 0 cs.length)) {i : Nat} {c : V} (hc : cs[i]? = some c) : ∃ v, vs[i]? = some v ∧ RelV g c v := by
  obtain ⟨v, hv, hr⟩ := h.at hc
  refine ⟨v, ?_, hr⟩
  have hi : i < cs.length := (List.getElem?_eq_some_iff.1 hc).1
  have hv2 : i < min cs.length vs.size ∧ vs[i]? = some v := by simpa [Array.getElem?_extract, hi] using hv
  exact hv2.2
omit ok in
theorem RelCells.sub {g : G} {cs : List V} {vs : Array Value} (hl : cs.length ≤ vs.size) (h : RelCells g cs (vs.extract 0 cs.length)) {o k : Nat} (hk : o + k ≤ cs.length) : RelCells g ((cs.drop o).take k) (vs.extract o (o + k)) := by
  have := h.piece hk
  rwa [Array.extract_extract, Nat.zero_add, Nat.zero_add, Nat.min_eq_left (by omega)] at this
/-- What lies at a place of an object. -/
theorem load_at {g : G} {H : Heap} {w : World} (s : Sat g H w) {n o : Nat} {T : TypeId} {i : TyI} {cs : List V} {x : V} (hT : ti T = some i) (hn : objCells H n = some cs) (hx : partV i cs o = some x) :
    ∃ v, RelV g x v ∧ (loadVar T ⟨g.nm n, o, none⟩).run P w = .ok v w := by
  obtain ⟨S, ex, ro, hg, hb, vs, fz, ⟨T', h1, _⟩, h2, h3, h4, h5, h6⟩ := objCells_spec s hn
  unfold partV at hx
  cases ha : i.agg with
  | true =>
    rw [ha] at hx
    obtain ⟨hk, rfl⟩ := cond_some hx
    have hk := Nat.le_of_ble_eq_true hk
    have hp := RelCells.sub h4 h6 hk
    exact ⟨.agg (vs.extract o (o + i.size)), .agg _ _ hp.1 hp.2, by simp [loadVar, ok.run_isAgg hT, ha, ok.run_sizeOf hT, run_cells (P := P) h1 (show o + i.size ≤ vs.size by omega)]⟩
  | false =>
    rw [ha] at hx
    obtain ⟨v, hv, hr⟩ := RelCells.at0 h4 h6 hx
    exact ⟨v, hr, by simp [loadVar, ok.run_isAgg hT, ha, cell_of h1 hv]⟩
theorem m_load {dst : Option Tmp} {ty : TypeId} {pos : String} {af : Array Edge} {gd : Option (Nat × Bool)} {T : TypeId} {i : TyI} {p : Operand} {n o : Nat} {cs : List V} {x : V} {H : Heap} (hT : ti T = some i) (hp : evO ng e p = some (.ptr n o)) (hn : objCells H n = some cs) (hx : partV i cs o = some x) :
    AStep P ng ⟨dst, .load T p, ty, pos, af, gd⟩ e H x H := by
  refine AStep.of fun g a w hg k s => ?_
  subst hg
  obtain ⟨v, he, hv⟩ := evO_at hp k
  cases hv with
  | ptr n o hb =>
    obtain ⟨v, hr, hrun⟩ := load_at ok s hT hn hx
    exact ⟨v, w, g, by simp [execOp, he, Instr.loadAt, Instr.sureAddr, hrun], G.le.refl g, hr, s⟩
omit ok in
theorem RelCells.one_cells {g : G} {cs : List V} {us : Array Value} (h : RelCells g cs us) (h1 : cs.all V.one = true) : ∀ v ∈ us.toList, v.oneCell' = true := fun v hv => by
  obtain ⟨i, hi, hiv⟩ := List.getElem_of_mem hv
  have hi' : i < cs.length := by rw [h.1]; simpa using hi
  have h2 : us[i]? = some v := by rw [← Array.getElem?_toList, List.getElem?_eq_getElem hi, hiv]
  exact (h.2 i _ v (List.getElem?_eq_getElem hi') h2).oneCell (List.all_eq_true.1 h1 _ (List.getElem_mem hi'))
omit ok in
theorem run_storeCells_th (g o : Nat) (t : TypeId) (fz : Nat × Nat) : ∀ (vs : List Value) (i : Nat) (cur : Array Value) (w : World), w.heap[g]? = some (.cells cur t fz) → Thaw cur.size fz → o + i + vs.length ≤ cur.size → (∀ v ∈ vs, v.oneCell' = true) →
    (storeCells ⟨g, o, none⟩ vs i).run P w = .ok () (w.setRow g (cur.toList.take (o + i) ++ vs ++ cur.toList.drop (o + i + vs.length)).toArray)
  | [], i, cur, w, hg, _, _, _ => by
    simp only [storeCells, List.append_nil, List.length_nil, Nat.add_zero, List.take_append_drop, Array.toArray_toList]
    rw [setRow_self w g cur t fz hg]
    rfl
  | v :: rest, i, cur, w, hg, hth, hl, h1 => by
    have hi : o + i < cur.size := by simp at hl; omega
    have hadd : (⟨g, o, none⟩ : Addr).add i = ⟨g, o + i, none⟩ := by unfold Addr.add; split <;> simp_all
    have hcell : w.cell? ⟨g, o + i, none⟩ = some cur[o + i] := by simp [World.cell?, hg, hi]
    have hfro : w.frozen? ⟨g, o + i, none⟩ = false := by
      rcases hth with rfl | hth
      · simp [World.frozen?, hg]
      · obtain ⟨lo, hi'⟩ := fz
        simp only [World.frozen?, hg, Bool.and_eq_false_iff, decide_eq_false_iff_not]
        left
        simp only at hth
        omega
    have hst : (store ((⟨g, o, none⟩ : Addr).add i) v).run P w = .ok () (w.setRow g (cur.setIfInBounds (o + i) v)) := by
      rw [hadd, run_store P w _ v _ (h1 v (by simp)), hcell]
      simp [hfro, setCell_eq_setRow w g (o + i) cur t fz v hg]
    have ih := run_storeCells_th g o t fz rest (i + 1) (cur.setIfInBounds (o + i) v) (w.setRow g (cur.setIfInBounds (o + i) v)) (setRow_heap w g cur _ t _ hg) (by simpa using hth) (by simp at hl ⊢; omega) (fun x hx => h1 x (by simp [hx]))
    simp only [storeCells, Sem.run_bind, hst, Result.andThen_ok, ih, setRow_setRow]
    congr 3
    have e := list_seg_step cur.toList (o + i) v rest (by simp at hl ⊢; omega)
    simpa [Array.toList_setIfInBounds, Nat.add_assoc] using e
omit ok in
/-- Cells of an object are written: the world behind it, and what holds of it. -/
theorem store_at {g : G} {H : Heap} {w : World} (s : Sat g H w) {n o : Nat} {T : TypeId} {cs ds : List V} {us : Array Value} {ex : Bool} (hn : H.get n = some (.cells T cs ex false)) (hd : RelCells g ds us) (h1 : ds.all V.one = true) (ho : o + ds.length ≤ cs.length) :
    ∃ w', (storeCells ⟨g.nm n, o, none⟩ us.toList).run P w = .ok () w' ∧ Sat g (H.set n (.cells T (putRow cs o ds) ex false)) w' := by
  obtain ⟨vs, fz, ⟨T', a1, aT⟩, a2, a3, a4, a5, a6⟩ := s.at_ _ _ hn
  obtain rfl := aT rfl
  have hfz := a2 rfl
  have hus := hd.1
  have hrun := run_storeCells_th (P := P) (g.nm n) o _ fz us.toList 0 vs w a1 hfz (by simp; omega) (hd.one_cells h1)
  simp only [Nat.add_zero] at hrun
  refine ⟨_, hrun, ?_⟩
  refine s.turn hn rfl (by simp) rfl rfl rfl (by simp) (fun j hj => setRow_other w _ j _ hj) ?_
  refine ⟨_, fz, ⟨_, setRow_heap w _ vs _ _ fz a1, fun _ => rfl⟩, fun _ => ?_, ?_, ?_, ?_, ?_⟩
  · have e : (vs.toList.take o ++ us.toList ++ vs.toList.drop (o + us.toList.length)).toArray.size = vs.size := by simp; omega
    rw [e]; exact hfz
  · rw [← a3]; simp; omega
  · rw [putRow_len _ _ _ ho]; simp; omega
  · intro he; rw [putRow_len _ _ _ ho, a5 he]; simp; omega
  · refine ⟨by rw [putRow_len _ _ _ ho]; simp; omega, fun i c v hc hv => ?_⟩
    have hi : i < cs.length := by
      have := (List.getElem?_eq_some_iff.1 hc).1
      rwa [putRow_len _ _ _ ho] at this
    rw [putRow_len _ _ _ ho] at hv
    have hv' : (vs.toList.take o ++ us.toList ++ vs.toList.drop (o + us.toList.length))[i]? = some v := by
      simp only [Array.getElem?_extract, List.getElem?_toArray] at hv
      split at hv
      · simpa using hv
      · cases hv
    rw [row_put_get _ _ _ (by simp; omega)] at hv'
    rw [putRow_get _ _ _ ho] at hc
    by_cases hin : o ≤ i ∧ i < o + ds.length
    · rw [if_pos hin] at hc
      rw [if_pos (by simp; omega)] at hv'
      exact hd.2 _ c v hc (by simpa using hv')
    · rw [if_neg hin] at hc
      rw [if_neg (by simp; omega)] at hv'
      exact a6.2 i c v hc (by simp only [Array.getElem?_extract]; rw [if_pos (by omega)]; simpa using hv')
theorem m_store {dst : Option Tmp} {ty : TypeId} {pos : String} {af : Array Edge} {gd : Option (Nat × Bool)} {T S : TypeId} {i : TyI} {p y : Operand} {n o : Nat} {cs : List V} {v : V} {ex : Bool} {H : Heap} (hT : ti T = some i) (hp : evO ng e p = some (.ptr n o)) (hy : evO ng e y = some v)
    (hn : H.get n = some (.cells S cs ex false)) (hl : v.lays = true) (hs : v.cells.length = i.size) (ho : o + i.size ≤ cs.length) : AStep P ng ⟨dst, .store T p y, ty, pos, af, gd⟩ e H .undef (H.set n (.cells S (putRow cs o v.cells) ex false)) := by
  intro g a w hg k s
  subst hg
  obtain ⟨u, he, hu⟩ := evO_at hp k
  obtain ⟨z, hf, hz⟩ := evO_at hy k
  cases hu with
  | ptr n o hb =>
    obtain ⟨hc, h1⟩ := hz.rcells hl
    obtain ⟨w', hrun, s'⟩ := store_at (P := P) (o := o) s hn hc h1 (by omega)
    have hzs : z.cells.size = i.size := by rw [← hc.1]; exact hs
    have : (execOp a.eval ⟨dst, .store T p y, ty, pos, af, gd⟩).run P w = .ok .skip w' := by
      simp [execOp, he, hf, Instr.storeAt, Instr.sureAddr, storeVar, ok.run_sizeOf hT, hzs, hrun]
    rw [this]
    exact ⟨g, G.le.refl g, .undef, s'⟩
theorem m_sliceA {dst : Option Tmp} {ty : TypeId} {pos : String} {af : Array Edge} {gd : Option (Nat × Bool)} {T E : TypeId} {i j : TyI} {x : Operand} {lo hi : Option Operand} {N n o l h : Nat} {S : TypeId} {cs : List V} {ro : Bool} {H : Heap} (hT : ti T = some i) (hu : i.und = .array N E) (hj : ti E = some j) (hx : evO ng e x = some (.ptr n o))
    (hlo : boundV ng e 0 lo = some l) (hhi : boundV ng e N hi = some h) (hn : H.get n = some (.cells S cs true ro)) (hsz : o + N * j.size = cs.length) (hlh : l ≤ h) (hhl : h ≤ N) (hlN : l < N) (hN : N ≤ maxLen) :
    AStep P ng ⟨dst, .slice T x lo hi none, ty, pos, af, gd⟩ e H (.sl j.size n (o + l * j.size) (h - l)) H := by
  refine AStep.of fun g a w hg k s => ?_
  subst hg
  obtain ⟨v, he, hv⟩ := evO_at hx k
  cases hv with
  | ptr n o hb =>
    obtain ⟨vs, fz, ⟨T', a1, aT⟩, a2, a3, a4, a5, a6⟩ := s.at_ _ _ hn
    have h1 := ok.run_underlying hT
    rw [hu] at h1
    have hbd := fun w => run_bounds (P := P) k hlo hhi hlh hhl false w
    have hne : N ≠ l := by omega
    have hrun : (execOp a.eval ⟨dst, .slice T x lo hi none, ty, pos, af, gd⟩).run P w = .ok (.value (.slice (some ⟨g.nm n, o + l * j.size, none⟩) (h - l) (N - l))) w := by
      simp [execOp, he, Instr.sliceAt, h1, Instr.sureAddr, hbd, ok.run_sizeOf hj, hne, Addr.add_off]
    refine ⟨_, w, g, hrun, G.le.refl g, .sl j.size n (o + l * j.size) (h - l) (N - l) hb ?_ (by omega) (by omega), s⟩
    rw [← a3, ← a5 rfl, ← hsz]
    have : l * j.size + (N - l) * j.size = N * j.size := by rw [← Nat.add_mul]; congr 1; omega
    omega
end

end Go.Proofs.YtncoklpecffokaaGreatDoor.Cc
