/-
  The evaluator of closed calls, part 6: operations that make a block ('evA'), reads, writes, pieces, texts.
-/
import Derived.Test.YtojblnldfdeefaaGreatDoorE2
import Derived.Laws.BytesString
import Derived.Laws.IdiomStrings
import Derived.Laws.LoneSync
namespace Go.Proofs.YtojblnldfdeefaaGreatDoor.Cc
open Go Go.RowKit

theorem setRow_eq (w : World) (g : Nat) (old cs : Array Value) (t : TypeId) (fr : Nat × Nat) (hg : w.heap[g]? = some (.cells old t fr)) : w.setRow g cs = { w with heap := w.heap.setIfInBounds g (.cells cs t fr) } := by
  unfold World.setRow
  congr 1
  apply Array.ext_getElem?
  intro i
  simp only [Array.getElem?_modify, Array.getElem?_setIfInBounds]
  split
  · rename_i e; subst e
    have hlt : g < w.heap.size := (Array.getElem?_eq_some_iff.1 hg).1
    rw [hg, if_pos hlt]; rfl
  · rfl

def YieldsTo (P : Program) (S : Value → World → Prop) : Result Next → Prop
  | .ok (.value v) w => S v w
  | .ok .skip w => S undef w
  | .ok (.enter f args) w => Calls P f args w (fun e w' => ∃ v, e = .returned v ∧ S v w')
  | .ok (.row r args) w => Rows P r args w S
  | _ => False
theorem YieldsTo.mono {P : Program} {S S' : Value → World → Prop} (h : ∀ v w, S v w → S' v w) {r : Result Next} (k : YieldsTo P S r) : YieldsTo P S' r := by
  cases r with
  | ok x w =>
    cases x <;> first | exact h _ _ k | exact k.elim | skip
    · exact Calls.mono k fun e w' ⟨v, he, hs⟩ => ⟨v, he, h _ _ hs⟩
    · exact Rows.mono k fun v w' hs => h _ _ hs
  | halt x w => exact k.elim
theorem YieldsTo.wp {P : Program} {o : Oper} {a : Act} {w : World} {S : Value → World → Prop} {K : Act → World → Prop} {Q : Exit → Act → World → Prop}
    (h : YieldsTo P S ((execOp a.eval o).run P w)) (hk : ∀ v w', S v w' → K (a.put o.dst v) w') : o.wp P a w K Q := by
  unfold Oper.wp
  generalize (execOp a.eval o).run P w = r at *
  cases r with
  | ok x w' =>
    cases x <;> first | exact hk _ _ h | exact h.elim | skip
    · exact Calls.mono h fun e w'' ⟨v, he, hs⟩ => by subst he; exact hk _ _ hs
    · exact Rows.mono h fun v w'' hs => hk _ _ hs
  | halt x w' => exact h.elim

def AStep (P : Program) (ng : Con) (o : Oper) (e : Lk) (H : Heap) (x : V) (H' : Heap) : Prop :=
  ∀ g a w, g.ng = ng → RelE g e a → Sat g H w → YieldsTo P (fun v w' => ∃ g', g.le g' ∧ RelV g' x v ∧ Sat g' H' w') ((execOp a.eval o).run P w)
theorem APure.step {P : Program} {ng : Con} {o : Oper} {e : Lk} {x : V} (h : APure P ng o e x) (H : Heap) : AStep P ng o e H x H := by
  intro g a w hg k s
  obtain ⟨v, hv, hrun⟩ := h g a hg k
  rw [hrun w]
  exact ⟨g, G.le.refl g, hv, s⟩
theorem AStep.of {P : Program} {ng : Con} {o : Oper} {e : Lk} {H H' : Heap} {x : V} (h : ∀ g a w, g.ng = ng → RelE g e a → Sat g H w → ∃ v w' g', (execOp a.eval o).run P w = .ok (.value v) w' ∧ g.le g' ∧ RelV g' x v ∧ Sat g' H' w') : AStep P ng o e H x H' := by
  intro g a w hg k s
  obtain ⟨v, w', g', hr, h1, h2, h3⟩ := h g a w hg k s
  rw [hr]
  exact ⟨g', h1, h2, h3⟩

theorem objNew {g : G} {w : World} {n : Nat} {cs : List V} {vs : Array Value} (T : TypeId) (hb : g.bn n = false) (hr : RelCells g cs vs) : ObjAt (g.name n w.heap.size vs.size hb) (w.alloc (.cells vs T)) n (.cells T cs true false) := by
  have e : (g.name n w.heap.size vs.size hb).nm n = w.heap.size := if_pos rfl
  refine ⟨vs, (0, 0), ⟨T, ?_, fun _ => rfl⟩, fun _ => .inl rfl, (if_pos rfl).symm, by rw [hr.1]; exact Nat.le_refl _, fun _ => hr.1, ?_⟩
  · rw [e]
    show (w.heap.push _)[w.heap.size]? = _
    simp
  · rw [hr.1, show vs.extract 0 vs.size = vs by simp]
    exact hr.mono (g.le_name n _ _ hb)

theorem rep_len (zs : List V) (n : Nat) : (rep zs n).length = n * zs.length := by
  induction n with
  | zero => simp [rep]
  | succ n ih => simp [rep, ih, Nat.add_mul]; omega
theorem rep_rel {g : G} {zs : List V} {vs : Array Value} (h : RelCells g zs vs) (n : Nat) : RelCells g (rep zs n) ((Array.range (n * vs.size)).map (vs[· % vs.size]!)) := by
  refine ⟨by rw [rep_len, h.1]; simp, fun i c v hc hv => ?_⟩
  have hlt : i < n * vs.size := by
    have := (Array.getElem?_eq_some_iff.1 hv).1
    simpa using this
  have hv' : v = vs[i % vs.size]! := by
    have : ((Array.range (n * vs.size)).map (vs[· % vs.size]!))[i]? = some (vs[i % vs.size]!) := by simp [hlt]
    rw [this] at hv; exact (Option.some.inj hv).symm
  have hpos : 0 < vs.size := by
    rcases Nat.eq_zero_or_pos vs.size with h0 | h0
    · rw [h0] at hlt; simp at hlt
    · exact h0
  have key : ∀ n i, i < n * zs.length → (rep zs n)[i]? = zs[i % zs.length]? := by
    intro n
    induction n with
    | zero => intro i hi; simp at hi
    | succ n ih =>
      intro i hi
      simp only [rep]
      rw [List.getElem?_append]
      split
      · rename_i h1; rw [Nat.mod_eq_of_lt h1]
      · rename_i h1
        rw [ih _ (by rw [Nat.add_mul] at hi; omega), Nat.mod_eq_sub_mod (Nat.le_of_not_lt h1)]
  rw [key n i (by rw [h.1]; exact hlt), h.1] at hc
  have hm : i % vs.size < vs.size := Nat.mod_lt _ hpos
  have : vs[i % vs.size]? = some v := by rw [hv']; simp [hm]
  exact h.2 _ c v hc this

section
variable {P : Program} {ti : TI} (ok : TIok P ti) {ng : Con} {e : Lk}
include ok

theorem evA_sound {o : Oper} {n : Nat} {x : V} {b : O} (h : evA ti ng e o n = some (x, b)) {g : G} {a : Act} {w : World} (hg : g.ng = ng) (k : RelE g e a) (hb : g.bn n = false) :
    ∃ v vs T q, (execOp a.eval o).run P w = .ok (.value v) (w.alloc (.cells vs T)) ∧ b ≠ .gone ∧ ObjAt (g.name n w.heap.size q hb) (w.alloc (.cells vs T)) n b ∧ RelV (g.name n w.heap.size q hb) x v := by
  subst hg
  have nm : ∀ q, (g.name n w.heap.size q hb).nm n = w.heap.size := fun q => if_pos rfl
  have bn : ∀ q, (g.name n w.heap.size q hb).bn n = true := fun q => by simp [G.name]
  have hptr : ∀ q, RelV (g.name n w.heap.size q hb) (.ptr n 0) (.pointer (some ⟨w.heap.size, 0, none⟩)) := fun q => by
    have := RelV.ptr (g := g.name n w.heap.size q hb) n 0 (bn q)
    rwa [nm] at this
  have hsl : ∀ sz q c len, c * sz = q → len ≤ c → c ≤ maxLen → RelV (g.name n w.heap.size q hb) (.sl sz n 0 len) (.slice (some ⟨w.heap.size, 0, none⟩) len c) := fun sz q c len h1 h2 h3 => by
    have := RelV.sl (g := g.name n w.heap.size q hb) sz n 0 len c (bn q) (by rw [Nat.zero_add, h1]; exact (if_pos rfl).symm) h2 h3
    rwa [nm] at this
  obtain ⟨dst, op, ty, pos, af, gd⟩ := o
  cases op with
  | alloc T =>
    simp only [evA] at h
    split at h <;> first | (cases h; done) | skip
    rename_i i hT
    obtain ⟨hl, h⟩ := cond_some h
    cases h
    obtain ⟨z, hz1, hz2⟩ := ok.run_zeroValue hT
    have hc := ((hz1 g).rcells hl).1
    exact ⟨_, z.cells, T, _, by simp [execOp, Instr.alloc, hz2, newVar, newRow], by simp, objNew T hb hc, hptr _⟩
  | box T y =>
    simp only [evA] at h
    split at h <;> first | (cases h; done) | skip
    rename_i v hy
    obtain ⟨hl, h⟩ := cond_some h
    cases h
    obtain ⟨u, he, hu⟩ := evO_at hy k
    have hc := (hu.rcells hl).1
    exact ⟨_, u.cells, T, _, by simp [execOp, he, Instr.box, newVar, newRow], by simp, objNew T hb hc, hptr _⟩
  | buildSlice T len parts =>
    simp only [evA] at h
    split at h <;> first | (cases h; done) | skip
    rename_i i hT
    split at h <;> first | (cases h; done) | skip
    rename_i E hu
    split at h <;> first | (cases h; done) | skip
    rename_i j qs hj hq
    cases hcnd : (Nat.ble len 16777216 && (Nat.ble (len * j.size) 16777216 && (j.zero.lays && Nat.beq j.zero.cells.length j.size))) with
    | false => rw [hcnd] at h; cases h
    | true =>
      rw [hcnd] at h
      simp only [cond] at h
      simp only [Bool.and_eq_true] at hcnd
      have b1 := Nat.le_of_ble_eq_true hcnd.1
      have b2 := Nat.le_of_ble_eq_true hcnd.2.1
      have b4 := Nat.eq_of_beq_eq_true hcnd.2.2.2
      split at h <;> first | (cases h; done) | skip
      rename_i cs hf
      cases h
      obtain ⟨h1, h2⟩ := parts_rel k hq
      obtain ⟨z, hz1, hz2⟩ := ok.run_zeroValue hj
      have hzc := ((hz1 g).rcells hcnd.2.2.1).1
      have hzs : z.cells.size = j.size := by rw [← hzc.1]; exact b4
      have hrep := rep_rel hzc len
      obtain ⟨us, h3, h4, h5⟩ := fill_rel hrep h1 h2 hf
      have hus : us.size = len * j.size := by rw [← h4.1, h5, rep_len, b4]
      have hun := ok.run_underlying hT
      rw [hu] at hun
      have hrun : (execOp a.eval ⟨dst, .buildSlice T len parts, ty, pos, af, gd⟩).run P w = .ok (.value (.slice (some ⟨w.heap.size, 0, none⟩) len len)) (w.alloc (.cells us E)) := by
        have e1 : ¬ (2 ^ 24 < len * j.size) := by simpa using b2
        have h3' : Instr.fill (fun i => some (i * j.size, j.size)) ((Array.range (len * j.size)).map (z.cells[· % z.cells.size]!)) (parts.toList.map fun p => (p.1, a.eval p.2)) = some us := by rw [hzs] at h3; rw [hzs]; exact h3
        simp only [execOp, Instr.buildSlice]
        simp [hun, ok.run_sizeOf hj]
        rw [if_neg (by simpa using e1)]
        by_cases e : len * j.size = 0
        · rw [if_pos e]
          have e2 : (Array.map (fun _ => (default : Value)) (Array.range (len * j.size))) = (Array.range (len * j.size)).map (z.cells[· % z.cells.size]!) := by rw [e]; simp
          rw [e2, h3']
          simp [newRow]
        · rw [if_neg e, hz2]
          simp [h3', newRow]
      exact ⟨_, us, E, _, hrun, by simp, objNew E hb h4, hsl _ _ _ _ hus.symm (Nat.le_refl _) (by unfold maxLen; omega)⟩
  | makeSlice T l c =>
    simp only [evA] at h
    split at h <;> first | (cases h; done) | skip
    rename_i i hT
    split at h <;> first | (cases h; done) | skip
    rename_i E k1 m k2 q hu hl hc
    split at h <;> first | (cases h; done) | skip
    rename_i j hj
    obtain ⟨hcnd, h⟩ := cond_some h
    cases h
    simp only [Bool.and_eq_true] at hcnd
    have b1 := Nat.le_of_ble_eq_true hcnd.1
    have b2 := Nat.le_of_ble_eq_true hcnd.2.1
    have b3 := Nat.le_of_ble_eq_true hcnd.2.2.1
    have b4 := Nat.eq_of_beq_eq_true hcnd.2.2.2.2
    obtain ⟨v1, he1, hv1⟩ := evO_at hl k
    obtain ⟨v2, he2, hv2⟩ := evO_at hc k
    cases hv1
    cases hv2
    obtain ⟨f, hf1, hf2, hf3, z, hz0, hz1⟩ := ok.run_typeInfo hj
    obtain ⟨z, hz1, hz2⟩ := ok.run_zeroValue hj
    have hzc := ((hz1 g).rcells hcnd.2.2.2.1).1
    have hzs : z.cells.size = j.size := by rw [← hzc.1]; exact b4
    have hrep := rep_rel hzc q
    have hun := ok.run_underlying hT
    rw [hu] at hun
    have w1 : IntKind.i64.wrap (Int.ofNat m) = (m : Int) := by simp [IntKind.wrap, IntKind.bits, IntKind.signed]; omega
    have w2 : IntKind.i64.wrap (Int.ofNat q) = (q : Int) := by simp [IntKind.wrap, IntKind.bits, IntKind.signed]; omega
    have hbytes : j.bytes * q ≤ 1000000 * 1000000 := Nat.mul_le_mul b3 b2
    have hrun : (execOp a.eval ⟨dst, .makeSlice T l c, ty, pos, af, gd⟩).run P w = .ok (.value (.slice (some ⟨w.heap.size, 0, none⟩) m q)) (w.alloc (.cells ((Array.range (q * z.cells.size)).map (z.cells[· % z.cells.size]!)) E)) := by
      simp only [execOp, Instr.makeSlice, he1, he2]
      simp only [Sem.run_bind, hun, Result.andThen_ok, asInt, asIntOf, Sem.run_pure, hf1, hf3, w1, w2]
      have n1 : ¬ ((q : Int) < 0) := by omega
      have n2 : ¬ ((281474976710656 : Int) < (j.bytes : Int) * (q : Int)) := by
        have : (j.bytes : Int) * (q : Int) = ((j.bytes * q : Nat) : Int) := by simp
        rw [this]; omega
      have n3 : ¬ ((m : Int) < 0) := by omega
      have n4 : ¬ ((m : Int) > (q : Int)) := by omega
      have n5 : ¬ (q * j.bytes > roomBytes) := by unfold roomBytes; rw [Nat.mul_comm]; omega
      have n6 : ¬ ((q : Int) < (m : Int)) := by omega
      have n7 : ¬ (q < m) := by omega
      simp [n1, n2, n3, n6, askRoom, n5, ok.run_sizeOf hj, hzs]
      by_cases e0 : q * j.size = 0
      · have e1 : q = 0 ∨ j.size = 0 := by
          rcases Nat.eq_zero_or_pos q with h0 | h0
          · exact .inl h0
          · rcases Nat.eq_zero_or_pos j.size with h1 | h1
            · exact .inr h1
            · have := Nat.mul_pos h0 h1; omega
        simp [newRow, e0]
        rw [show Array.range 0 = #[] from rfl]
        simp
      · have e1 : ¬ (q = 0 ∨ j.size = 0) := by rintro (h0 | h0) <;> simp [h0] at e0
        simp [hz2, newRow, hzs]
        intro h0
        exact absurd h0 e0
    have hq : ((Array.range (q * z.cells.size)).map (z.cells[· % z.cells.size]!)).size = q * j.size := by simp [hzs]
    exact ⟨_, _, E, _, hrun, by simp, objNew E hb hrep, hsl _ _ _ _ hq.symm b1 (by unfold maxLen; omega)⟩
  | _ => simp [evA] at h

theorem evA_new {o : Oper} {x : V} {b : O} {H : Heap} (h : evA ti ng e o H.nn = some (x, b)) : AStep P ng o e H x (H.new b) := by
  refine AStep.of fun g a w hg k s => ?_
  obtain ⟨v, vs, T, q, h1, h2, h3, h4⟩ := evA_sound (w := w) ok h hg k s.nn_not_bn
  exact ⟨v, _, _, h1, g.le_name _ _ _ _, h4, s.new q h2 s.nn_not_bn h3⟩
theorem evA_at {o : Oper} {n : Nat} {x : V} {b : O} {H : Heap} (h : evA ti ng e o n = some (x, b)) (hn : H.get n = none) (hlt : n < H.nn) : AStep P ng o e H x (H.set n b) := by
  refine AStep.of fun g a w hg k s => ?_
  have hb := s.not_bn hn
  obtain ⟨v, vs, T, q, h1, h2, h3, h4⟩ := evA_sound (w := w) ok h hg k hb
  exact ⟨v, _, _, h1, g.le_name _ _ _ _, h4, s.newAt hn hlt q h2 hb h3⟩

/-! reads and writes -/
omit ok in
theorem objCells_spec {g : G} {H : Heap} {w : World} (s : Sat g H w) {n : Nat} {cs : List V} (h : objCells H n = some cs) :
    ∃ T ex ro, H.get n = some (.cells T cs ex ro) ∧ g.bn n = true ∧ ∃ (vs : Array Value) (fz : Nat × Nat), (∃ T', w.heap[g.nm n]? = some (.cells vs T' fz) ∧ (ro = false → T' = T)) ∧ (ro = false → Thaw vs.size fz) ∧ vs.size = g.vs n ∧ cs.length ≤ vs.size ∧ (ex = true → cs.length = vs.size) ∧ RelCells g cs (vs.extract 0 cs.length) := by
  unfold objCells at h
  split at h
  · rename_i T cs' ex ro hn
    cases h
    exact ⟨T, ex, ro, hn, s.dom _ _ hn, s.at_ _ _ hn⟩
  · cases h
omit ok in
theorem cell_of {w : World} {b o : Nat} {vs : Array Value} {T : TypeId} {fz : Nat × Nat} {v : Value} (h : w.heap[b]? = some (.cells vs T fz)) (hv : vs[o]? = some v) : w.cell? ⟨b, o, none⟩ = some v := by
  unfold World.cell?; rw [h]; simpa using hv
omit ok in
theorem run_cells {w : World} {b o k : Nat} {vs : Array Value} {T : TypeId} {fz : Nat × Nat} (h : w.heap[b]? = some (.cells vs T fz)) (hk : o + k ≤ vs.size) : (loadCells ⟨b, o, none⟩ k).run P w = .ok (vs.extract o (o + k)) w := by
  have := run_loadCells_list (P := P) (w := w) ⟨b, o, none⟩ (vs.extract o (o + k)).toList (fun j v hj => by
    rw [Addr.add_off]
    simp only [Array.getElem?_toList, Array.getElem?_extract] at hj
    split at hj
    · exact cell_of h (by simpa using hj)
    · cases hj)
  rw [show (vs.extract o (o + k)).toList.length = k by simp; omega] at this
  simpa only [Array.toArray_toList] using this
omit ok in
theorem RelCells.at0 {g : G} {cs : List V} {vs : Array Value} (_ : cs.length ≤ vs.size) (h : RelCells g cs (vs.extract 0 cs.length)) {i : Nat} {c : V} (hc : cs[i]? = some c) : ∃ v, vs[i]? = some v ∧ RelV g c v := by
  obtain ⟨v, hv, hr⟩ := h.at hc
  refine ⟨v, ?_, hr⟩
  have hi : i < cs.length := (List.getElem?_eq_some_iff.1 hc).1
  have hv2 : i < min cs.length vs.size ∧ vs[i]? = some v := by simpa [Array.getElem?_extract, hi] using hv
  exact hv2.2
omit ok in
theorem RelCells.sub {g : G} {cs : List V} {vs : Array Value} (_ : cs.length ≤ vs.size) (h : RelCells g cs (vs.extract 0 cs.length)) {o k : Nat} (hk : o + k ≤ cs.length) : RelCells g ((cs.drop o).take k) (vs.extract o (o + k)) := by
  have := h.piece hk
  rwa [Array.extract_extract, Nat.zero_add, Nat.zero_add, Nat.min_eq_left (by omega)] at this
theorem load_at {g : G} {H : Heap} {w : World} (s : Sat g H w) {n o : Nat} {T : TypeId} {i : TyI} {cs : List V} {x : V} (hT : ti T = some i) (hn : objCells H n = some cs) (hx : partV i cs o = some x) :
    ∃ v, RelV g x v ∧ (loadVar T ⟨g.nm n, o, none⟩).run P w = .ok v w := by
  obtain ⟨S, ex, ro, hg, hb, vs, fz, ⟨T', h1, _⟩, h2, h3, h4, h5, h6⟩ := objCells_spec s hn
  unfold partV at hx
  cases ha : i.agg with
  | true =>
    rw [ha] at hx
    obtain ⟨hk, rfl⟩ := cond_some hx
    have hk := Nat.le_of_ble_eq_true hk
    have hp := RelCells.sub h4 h6 hk
    exact ⟨.agg (vs.extract o (o + i.size)), .agg _ _ hp.1 hp.2, by simp [loadVar, ok.run_isAgg hT, ha, ok.run_sizeOf hT, run_cells (P := P) h1 (show o + i.size ≤ vs.size by omega)]⟩
  | false =>
    rw [ha] at hx
    obtain ⟨v, hv, hr⟩ := RelCells.at0 h4 h6 hx
    exact ⟨v, hr, by simp [loadVar, ok.run_isAgg hT, ha, cell_of h1 hv]⟩
theorem m_load {dst : Option Tmp} {ty : TypeId} {pos : String} {af : Array Edge} {gd : Option (Nat × Bool)} {T : TypeId} {i : TyI} {p : Operand} {n o : Nat} {cs : List V} {x : V} {H : Heap} (hT : ti T = some i) (hp : evO ng e p = some (.ptr n o)) (hn : objCells H n = some cs) (hx : partV i cs o = some x) :
    AStep P ng ⟨dst, .load T p, ty, pos, af, gd⟩ e H x H := by
  refine AStep.of fun g a w hg k s => ?_
  subst hg
  obtain ⟨v, he, hv⟩ := evO_at hp k
  cases hv with
  | ptr n o hb =>
    obtain ⟨v, hr, hrun⟩ := load_at ok s hT hn hx
    exact ⟨v, w, g, by simp [execOp, he, Instr.loadAt, Instr.sureAddr, hrun], G.le.refl g, hr, s⟩
omit ok in
theorem RelCells.one_cells {g : G} {cs : List V} {us : Array Value} (h : RelCells g cs us) (h1 : cs.all V.one = true) : ∀ v ∈ us.toList, v.oneCell' = true := fun v hv => by
  obtain ⟨i, hi, hiv⟩ := List.getElem_of_mem hv
  have hi' : i < cs.length := by rw [h.1]; simpa using hi
  have h2 : us[i]? = some v := by rw [← Array.getElem?_toList, List.getElem?_eq_getElem hi, hiv]
  exact (h.2 i _ v (List.getElem?_eq_getElem hi') h2).oneCell (List.all_eq_true.1 h1 _ (List.getElem_mem hi'))
omit ok in
theorem run_storeCells_th (g o : Nat) (t : TypeId) (fz : Nat × Nat) : ∀ (vs : List Value) (i : Nat) (cur : Array Value) (w : World), w.heap[g]? = some (.cells cur t fz) → Thaw cur.size fz → o + i + vs.length ≤ cur.size → (∀ v ∈ vs, v.oneCell' = true) →
    (storeCells ⟨g, o, none⟩ vs i).run P w = .ok () (w.setRow g (cur.toList.take (o + i) ++ vs ++ cur.toList.drop (o + i + vs.length)).toArray)
  | [], i, cur, w, hg, _, _, _ => by
    simp only [storeCells, List.append_nil, List.length_nil, Nat.add_zero, List.take_append_drop, Array.toArray_toList]
    rw [setRow_self w g cur t fz hg]
    rfl
  | v :: rest, i, cur, w, hg, hth, hl, h1 => by
    have hi : o + i < cur.size := by simp at hl; omega
    have hadd : (⟨g, o, none⟩ : Addr).add i = ⟨g, o + i, none⟩ := by unfold Addr.add; split <;> simp_all
    have hcell : w.cell? ⟨g, o + i, none⟩ = some cur[o + i] := by simp [World.cell?, hg, hi]
    have hfro : w.frozen? ⟨g, o + i, none⟩ = false := by
      rcases hth with rfl | hth
      · simp [World.frozen?, hg]
      · obtain ⟨lo, hi'⟩ := fz
        simp only [World.frozen?, hg, Bool.and_eq_false_iff, decide_eq_false_iff_not]
        left
        simp only at hth
        omega
    have hst : (store ((⟨g, o, none⟩ : Addr).add i) v).run P w = .ok () (w.setRow g (cur.setIfInBounds (o + i) v)) := by
      rw [hadd, run_store P w _ v _ (h1 v (by simp)), hcell]
      simp [hfro, setCell_eq_setRow w g (o + i) cur t fz v hg]
    have ih := run_storeCells_th g o t fz rest (i + 1) (cur.setIfInBounds (o + i) v) (w.setRow g (cur.setIfInBounds (o + i) v)) (setRow_heap w g cur _ t _ hg) (by simpa using hth) (by simp at hl ⊢; omega) (fun x hx => h1 x (by simp [hx]))
    simp only [storeCells, Sem.run_bind, hst, Result.andThen_ok, ih, setRow_setRow]
    congr 3
    have e := list_seg_step cur.toList (o + i) v rest (by simp at hl ⊢; omega)
    simpa [Array.toList_setIfInBounds, Nat.add_assoc] using e
omit ok in
theorem store_at {g : G} {H : Heap} {w : World} (s : Sat g H w) {n o : Nat} {T : TypeId} {cs ds : List V} {us : Array Value} {ex : Bool} (hn : H.get n = some (.cells T cs ex false)) (hd : RelCells g ds us) (h1 : ds.all V.one = true) (ho : o + ds.length ≤ cs.length) :
    ∃ w', (storeCells ⟨g.nm n, o, none⟩ us.toList).run P w = .ok () w' ∧ Sat g (H.set n (.cells T (putRow cs o ds) ex false)) w' := by
  obtain ⟨vs, fz, ⟨T', a1, aT⟩, a2, a3, a4, a5, a6⟩ := s.at_ _ _ hn
  obtain rfl := aT rfl
  have hfz := a2 rfl
  have hus := hd.1
  have hrun := run_storeCells_th (P := P) (g.nm n) o _ fz us.toList 0 vs w a1 hfz (by simp; omega) (hd.one_cells h1)
  simp only [Nat.add_zero] at hrun
  refine ⟨_, hrun, ?_⟩
  refine s.turn hn rfl (by simp) rfl rfl rfl (by simp) (fun j hj => setRow_other w _ j _ hj) ?_
  refine ⟨_, fz, ⟨_, setRow_heap w _ vs _ _ fz a1, fun _ => rfl⟩, fun _ => ?_, ?_, ?_, ?_, ?_⟩
  · have e : (vs.toList.take o ++ us.toList ++ vs.toList.drop (o + us.toList.length)).toArray.size = vs.size := by simp; omega
    rw [e]; exact hfz
  · rw [← a3]; simp; omega
  · rw [putRow_len _ _ _ ho]; simp; omega
  · intro he; rw [putRow_len _ _ _ ho, a5 he]; simp; omega
  · refine ⟨by rw [putRow_len _ _ _ ho]; simp; omega, fun i c v hc hv => ?_⟩
    have hi : i < cs.length := by
      have := (List.getElem?_eq_some_iff.1 hc).1
      rwa [putRow_len _ _ _ ho] at this
    rw [putRow_len _ _ _ ho] at hv
    have hv' : (vs.toList.take o ++ us.toList ++ vs.toList.drop (o + us.toList.length))[i]? = some v := by
      simp only [Array.getElem?_extract, List.getElem?_toArray] at hv
      split at hv
      · simpa using hv
      · cases hv
    rw [row_put_get _ _ _ (by simp; omega)] at hv'
    rw [putRow_get _ _ _ ho] at hc
    by_cases hin : o ≤ i ∧ i < o + ds.length
    · rw [if_pos hin] at hc
      rw [if_pos (by simp; omega)] at hv'
      exact hd.2 _ c v hc (by simpa using hv')
    · rw [if_neg hin] at hc
      rw [if_neg (by simp; omega)] at hv'
      exact a6.2 i c v hc (by simp only [Array.getElem?_extract]; rw [if_pos (by omega)]; simpa using hv')
theorem m_store {dst : Option Tmp} {ty : TypeId} {pos : String} {af : Array Edge} {gd : Option (Nat × Bool)} {T S : TypeId} {i : TyI} {p y : Operand} {n o : Nat} {cs : List V} {v : V} {ex : Bool} {H : Heap} (hT : ti T = some i) (hp : evO ng e p = some (.ptr n o)) (hy : evO ng e y = some v)
    (hn : H.get n = some (.cells S cs ex false)) (hl : v.lays = true) (hs : v.cells.length = i.size) (ho : o + i.size ≤ cs.length) : AStep P ng ⟨dst, .store T p y, ty, pos, af, gd⟩ e H .undef (H.set n (.cells S (putRow cs o v.cells) ex false)) := by
  intro g a w hg k s
  subst hg
  obtain ⟨u, he, hu⟩ := evO_at hp k
  obtain ⟨z, hf, hz⟩ := evO_at hy k
  cases hu with
  | ptr n o hb =>
    obtain ⟨hc, h1⟩ := hz.rcells hl
    obtain ⟨w', hrun, s'⟩ := store_at (P := P) (o := o) s hn hc h1 (by omega)
    have hzs : z.cells.size = i.size := by rw [← hc.1]; exact hs
    have : (execOp a.eval ⟨dst, .store T p y, ty, pos, af, gd⟩).run P w = .ok .skip w' := by
      simp [execOp, he, hf, Instr.storeAt, Instr.sureAddr, storeVar, ok.run_sizeOf hT, hzs, hrun]
    rw [this]
    exact ⟨g, G.le.refl g, .undef, s'⟩
theorem m_sliceA {dst : Option Tmp} {ty : TypeId} {pos : String} {af : Array Edge} {gd : Option (Nat × Bool)} {T E : TypeId} {i j : TyI} {x : Operand} {lo hi : Option Operand} {N n o l h : Nat} {S : TypeId} {cs : List V} {ro : Bool} {H : Heap} (hT : ti T = some i) (hu : i.und = .array N E) (hj : ti E = some j) (hx : evO ng e x = some (.ptr n o))
    (hlo : boundV ng e 0 lo = some l) (hhi : boundV ng e N hi = some h) (hn : H.get n = some (.cells S cs true ro)) (hsz : o + N * j.size = cs.length) (hlh : l ≤ h) (hhl : h ≤ N) (hlN : l < N) (hN : N ≤ maxLen) :
    AStep P ng ⟨dst, .slice T x lo hi none, ty, pos, af, gd⟩ e H (.sl j.size n (o + l * j.size) (h - l)) H := by
  refine AStep.of fun g a w hg k s => ?_
  subst hg
  obtain ⟨v, he, hv⟩ := evO_at hx k
  cases hv with
  | ptr n o hb =>
    obtain ⟨vs, fz, ⟨T', a1, aT⟩, a2, a3, a4, a5, a6⟩ := s.at_ _ _ hn
    have h1 := ok.run_underlying hT
    rw [hu] at h1
    have hbd := fun w => run_bounds (P := P) k hlo hhi hlh hhl false w
    have hne : N ≠ l := by omega
    have hrun : (execOp a.eval ⟨dst, .slice T x lo hi none, ty, pos, af, gd⟩).run P w = .ok (.value (.slice (some ⟨g.nm n, o + l * j.size, none⟩) (h - l) (N - l))) w := by
      simp [execOp, he, Instr.sliceAt, h1, Instr.sureAddr, hbd, ok.run_sizeOf hj, hne, Addr.add_off]
    refine ⟨_, w, g, hrun, G.le.refl g, .sl j.size n (o + l * j.size) (h - l) (N - l) hb ?_ (by omega) (by omega), s⟩
    rw [← a3, ← a5 rfl, ← hsz]
    have : l * j.size + (N - l) * j.size = N * j.size := by rw [← Nat.add_mul]; congr 1; omega
    omega
end

end Go.Proofs.YtojblnldfdeefaaGreatDoor.Cc

namespace Go.Proofs.YtojblnldfdeefaaGreatDoor.Cc
open Go Go.RowKit

section
variable {P : Program} {ti : TI} (ok : TIok P ti) {ng : Con} {e : Lk} {dst : Option Tmp} {ty : TypeId} {pos : String} {af : Array Edge} {gd : Option (Nat × Bool)}

theorem bytes_spec {g : G} : ∀ {cs : List V} {s : List UInt8} {vs : List Value}, bytesV cs = some s → cs.length = vs.length → (∀ (i : Nat) c v, cs[i]? = some c → vs[i]? = some v → RelV g c v) → ∃ ns : List Nat, vs = ns.map (fun (n : Nat) => Value.int .u8 n) ∧ s = ns.map UInt8.ofNat
  | [], s, vs, h, hl, _ => by cases h; cases vs with | nil => exact ⟨[], rfl, rfl⟩ | cons => simp at hl
  | c :: cs, s, vs, h, hl, hr => by
    cases vs with
    | nil => simp at hl
    | cons v vs =>
      unfold bytesV at h
      split at h
      · cases ‹_ :: _ = []›
      · rename_i n cs' heq
        cases heq
        split at h
        · rename_i s' hs'
          cases h
          obtain ⟨ns, h1, h2⟩ := bytes_spec (vs := vs) hs' (by simpa using hl) (fun i c v hc hv => hr (i + 1) c v (by simpa using hc) (by simpa using hv))
          have hv := hr 0 _ v rfl rfl
          cases hv
          exact ⟨n :: ns, by rw [h1]; rfl, by rw [h2]; rfl⟩
        · cases h
      · cases h
include ok
theorem m_text {S D E : TypeId} {i i' j : TyI} {x : Operand} {n o len : Nat} {cs : List V} {s : List UInt8} {H : Heap} (hS : ti S = some i) (hD : ti D = some i') (hu : i.und = .slice E) (hu' : i'.und = .string) (hE : ti E = some j) (hju : j.und = .int .u8) (hx : evO ng e x = some (.sl 1 n o len))
    (hn : objCells H n = some cs) (ho : o + len ≤ cs.length) (hs : bytesV ((cs.drop o).take len) = some s) : AStep P ng ⟨dst, .convert S D x, ty, pos, af, gd⟩ e H (.str s) H := by
  refine AStep.of fun g a w hg k st => ?_
  subst hg
  obtain ⟨v, he, hv⟩ := evO_at hx k
  cases hv with
  | sl sz n o len cap hb hvs hl hc =>
    obtain ⟨S', ex, ro, hg, _, vs, fz, ⟨T', h1, _⟩, h2, h3, h4, h5, h6⟩ := objCells_spec st hn
    have hp := RelCells.sub h4 h6 ho
    obtain ⟨ns, hns, rfl⟩ := bytes_spec (vs := (vs.extract o (o + len)).toList) hs (by rw [Array.length_toList]; exact hp.1) (fun i c v hc hv => hp.2 i c v hc (by rwa [Array.getElem?_toList] at hv))
    have hlen : ns.length = len := by
      have : ((cs.drop o).take len).length = (vs.extract o (o + len)).size := hp.1
      have h7 := congrArg List.length hns
      simp at this h7
      omega
    have u1 := ok.run_underlying hS
    have u2 := ok.run_underlying hD
    have u3 := ok.run_underlying hE
    rw [hu] at u1
    rw [hu'] at u2
    rw [hju] at u3
    have hrun : (Conv.bytesToString (.slice (some ⟨g.nm n, o, none⟩) len cap)).run P w = .ok (.string ⟨(ns.map UInt8.ofNat).toArray⟩) w := by
      have hl2 : (loadCells ⟨g.nm n, o, none⟩ len).run P w = .ok ((ns.map fun (n : Nat) => (n : Int)).map (Value.int .u8)).toArray w := by
        rw [run_cells (P := P) h1 (show o + len ≤ vs.size by omega)]
        congr 1
        rw [List.map_map]
        apply Array.toList_inj.1
        rw [hns]
        rfl
      rw [run_bytesToString w _ len cap (ns.map fun (n : Nat) => (n : Int)) hl2]
      congr 2
      have key : ∀ (l : List Nat) (r : ByteArray), (l.map fun (n : Nat) => (n : Int)).foldl (fun r n => r.push (UInt8.ofNat n.toNat)) r = ⟨(r.data.toList ++ l.map UInt8.ofNat).toArray⟩ := by
        intro l
        induction l with
        | nil => intro r; simp
        | cons m l ih =>
          intro r
          simp only [List.map_cons, List.foldl_cons]
          rw [ih]
          simp [ByteArray.push]
      rw [key]
      rfl
    refine ⟨_, w, g, ?_, G.le.refl g, .str (ns.map UInt8.ofNat) (by simp [hlen]; omega), st⟩
    simp [execOp, he, convert, u1, u2, u3, hrun]
theorem m_range {T : TypeId} {i : TyI} {x : Operand} {s : List UInt8} {H : Heap} (hT : ti T = some i) (hu : i.und = .string) (hx : evO ng e x = some (.str s)) : AStep P ng ⟨dst, .range T x, ty, pos, af, gd⟩ e H (.ptr H.nn 0) (H.new (.iter s 0)) := by
  refine AStep.of fun g a w hg k st => ?_
  subst hg
  obtain ⟨v, he, hv⟩ := evO_at hx k
  cases hv
  have u1 := ok.run_underlying hT
  rw [hu] at u1
  have hb := st.nn_not_bn
  have nm : (g.name H.nn w.heap.size 0 hb).nm H.nn = w.heap.size := if_pos rfl
  refine ⟨.pointer (some ⟨w.heap.size, 0, none⟩), w.alloc (.stringIter ⟨s.toArray⟩ 0), g.name H.nn w.heap.size 0 hb, ?_, g.le_name _ _ _ _, ?_, st.new 0 (by simp) hb ?_⟩
  · simp [execOp, he, Instr.range, u1]
  · have := RelV.ptr (g := g.name H.nn w.heap.size 0 hb) H.nn 0 (by simp [G.name])
    rwa [nm] at this
  · show (w.heap.push _)[_]? = _
    rw [nm]; simp
omit ok in
theorem run_getIter {w : World} {r p : Nat} {s : ByteArray} (h : w.heap[r]? = some (.stringIter s p)) : (getObj r).run P w = .ok (.stringIter s p) w := by simp [getObj, Sem.run, h]
omit ok in
theorem run_setIter {w : World} {r p : Nat} {s : ByteArray} (o : Obj) (h : w.heap[r]? = some (.stringIter s p)) : (setObj r o).run P w = .ok () { w with heap := w.heap.setIfInBounds r o } := by simp [setObj, Sem.run, h]
omit ok in
theorem m_next {x : Operand} {n p : Nat} {s : List UInt8} {H : Heap} (hx : evO ng e x = some (.ptr n 0)) (hn : H.get n = some (.iter s p)) :
    (p < s.length → AStep P ng ⟨dst, .next x true, ty, pos, af, gd⟩ e H (.tuple [.bool true, .int .i64 p, .int .i32 (Utf8.decode ⟨s.toArray⟩ p).1]) (H.set n (.iter s (p + (Utf8.decode ⟨s.toArray⟩ p).2)))) ∧
    (¬ p < s.length → AStep P ng ⟨dst, .next x true, ty, pos, af, gd⟩ e H (.tuple [.bool false]) H) := by
  have hsz : (ByteArray.mk s.toArray).size = s.length := by unfold ByteArray.size; simp
  constructor
  · intro hp
    refine AStep.of fun g a w hg k st => ?_
    subst hg
    obtain ⟨v, he, hv⟩ := evO_at hx k
    cases hv with
    | ptr n o hb =>
      have hw : w.heap[g.nm n]? = some (.stringIter ⟨s.toArray⟩ p) := st.at_ _ _ hn
      have hlt : g.nm n < w.heap.size := (Array.getElem?_eq_some_iff.1 hw).1
      refine ⟨.tuple #[.bool true, goInt p, .int .i32 (Utf8.decode ⟨s.toArray⟩ p).1], { w with heap := w.heap.setIfInBounds (g.nm n) (.stringIter ⟨s.toArray⟩ (p + (Utf8.decode ⟨s.toArray⟩ p).2)) }, g, ?_, G.le.refl g, ?_, st.turn hn rfl (by simp) rfl rfl rfl (by simp) (fun j hj => ?_) ?_⟩
      · simp [execOp, he, Instr.next, run_getIter hw, run_setIter _ hw, hsz, hp]
      · refine .tuple _ _ rfl fun i c u hc hu => ?_
        match i with
        | 0 => simp at hc hu; subst hc; subst hu; exact .bool _
        | 1 => simp at hc hu; subst hc; subst hu; exact .int _ _
        | 2 => simp at hc hu; subst hc; subst hu; exact .int _ _
        | i + 3 => simp at hc
      · simp only [Array.getElem?_setIfInBounds]; rw [if_neg (Ne.symm hj)]
      · show _ = _
        simp [hlt]
  · intro hp
    refine AStep.of fun g a w hg k st => ?_
    subst hg
    obtain ⟨v, he, hv⟩ := evO_at hx k
    cases hv with
    | ptr n o hb =>
      have hw : w.heap[g.nm n]? = some (.stringIter ⟨s.toArray⟩ p) := st.at_ _ _ hn
      refine ⟨.tuple #[.bool false], w, g, ?_, G.le.refl g, .tuple _ _ rfl fun i c u hc hu => ?_, st⟩
      · simp [execOp, he, Instr.next, run_getIter hw, hsz, hp]
      · match i with
        | 0 => simp at hc hu; subst hc; subst hu; exact .bool _
        | i + 1 => simp at hc

/-! append, copy -/
omit ok in
theorem src_spec {g : G} {H : Heap} {w : World} (s : Sat g H w) {sz : Nat} {y : V} {v : Value} {ys : List V} (h : srcCells H sz y = some ys) (hv : RelV g y v) :
    ∃ us n, Builtin.lenOf v = (pure n : Sem Nat) ∧ ys.length = n * sz ∧ RelCells g ys us ∧ ∀ m, m ≤ n → ∀ w', w'.heap = w.heap → (Builtin.firstCells sz m v).run P w' = .ok (us.extract 0 (m * sz)) w' := by
  cases hv <;> simp only [srcCells] at h <;> first | (cases h; done) | skip
  case str s hs =>
    obtain ⟨hb, rfl⟩ := cond_some h
    have hb := Nat.eq_of_beq_eq_true hb
    subst hb
    refine ⟨(s.map fun (b : UInt8) => Value.int .u8 b.toNat).toArray, s.length, ?_, by simp, ⟨by simp, fun i c u hc hu => ?_⟩, fun m hm w' _ => ?_⟩
    · show (pure (ByteArray.mk s.toArray).size : Sem Nat) = _
      unfold ByteArray.size; simp
    · simp only [List.getElem?_map, Option.map_eq_some_iff] at hc
      obtain ⟨b, hb, rfl⟩ := hc
      have : u = .int .u8 b.toNat := by simpa [hb] using hu.symm
      subst this; exact .int _ _
    · simp only [Builtin.firstCells, Nat.mul_one]
      rw [Sem.run_pure]
      congr 1
      apply Array.toList_inj.1
      rw [ByteArray.data_extract]
      simp
  case nilS =>
    cases h
    exact ⟨#[], 0, rfl, by simp, RelCells.nil g, fun m hm w' _ => by
      have : m = 0 := by omega
      subst this; simp [Builtin.firstCells]⟩
  case voidS a =>
    cases h
    exact ⟨#[], 0, rfl, by simp, RelCells.nil g, fun m hm w' _ => by
      have : m = 0 := by omega
      subst this; simp [Builtin.firstCells, loadCells, loadCellsFrom]⟩
  case viewS a c hc =>
    cases h
    exact ⟨#[], 0, rfl, by simp, RelCells.nil g, fun m hm w' _ => by
      have : m = 0 := by omega
      subst this; cases a <;> simp [Builtin.firstCells, loadCells, loadCellsFrom]⟩
  case sl sz' n o len cap hb hvs hl hc =>
    obtain ⟨hb1, h⟩ : Nat.beq sz' sz = true ∧ _ := by
      cases hq : Nat.beq sz' sz with
      | true => rw [hq] at h; exact ⟨rfl, h⟩
      | false => rw [hq] at h; cases h
    have hb1 := Nat.eq_of_beq_eq_true hb1
    subst hb1
    simp only [cond] at h
    split at h <;> first | (cases h; done) | skip
    rename_i cs hn
    obtain ⟨hk, rfl⟩ := cond_some h
    have hk := Nat.le_of_ble_eq_true hk
    obtain ⟨T, ex, ro, hg, _, vs, fz, ⟨T', h1, _⟩, h2, h3, h4, h5, h6⟩ := objCells_spec s hn
    refine ⟨vs.extract o (o + len * sz'), len, rfl, by simp; omega, RelCells.sub h4 h6 hk, fun m hm w' hw => ?_⟩
    have hmz : m * sz' ≤ len * sz' := Nat.mul_le_mul_right _ hm
    show (loadCells ⟨g.nm n, o, none⟩ (m * sz')).run P w' = _
    rw [run_cells (P := P) (w := w') (by rw [hw]; exact h1) (show o + m * sz' ≤ vs.size by omega)]
    rw [Array.extract_extract, Nat.add_zero, Nat.min_eq_left (by omega)]

theorem run_append_in {T T' E : TypeId} {i i' j : TyI} {x y : Operand} {a : Act} {w w' : World} {base : Option Addr} {L C n : Nat} {us : Array Value} (hT : ti T = some i) (hu : i.und = .slice E) (hT' : ti T' = some i') (hu' : listy i'.und = true) (hj : ti E = some j)
    (hx : a.eval x = .slice base L C) (hlen : Builtin.lenOf (a.eval y) = (pure n : Sem Nat)) (hfirst : (Builtin.firstCells j.size n (a.eval y)).run P w = .ok us w) (hC : L + n ≤ C)
    (hst : ∀ b, base = some b → (storeCells (b.add (L * j.size)) us.toList).run P w = .ok () w') (hn0 : base = none → w' = w) :
    (execOp a.eval ⟨dst, .call { callee := .builtin .append, args := #[x, y], argTypes := #[T, T'] }, ty, pos, af, gd⟩).run P w = .ok (.value (.slice base (L + n) C)) w' := by
  have u1 := ok.run_underlying hT
  have u2 := ok.run_underlying hT'
  rw [hu] at u1
  simp only [execCall_builtin, builtin, Builtin.append_]
  cases hd : i'.und <;> first | (rw [hd] at hu'; cases hu'; done) | skip
  all_goals
    rw [hd] at u2
    simp [hx, u1, u2, ok.run_sizeOf hj, hlen, hC, hfirst]
    cases base with
    | none => simp [hn0 rfl]
    | some b => simp [hst b rfl]
theorem run_append_grow {T T' E : TypeId} {i i' j : TyI} {x y : Operand} {a : Act} {w : World} {base : Option Addr} {L C n : Nat} {os us : Array Value} (hT : ti T = some i) (hu : i.und = .slice E) (hT' : ti T' = some i') (hu' : listy i'.und = true) (hj : ti E = some j)
    (hx : a.eval x = .slice base L C) (hlen : Builtin.lenOf (a.eval y) = (pure n : Sem Nat)) (hfirst : ∀ w', w'.heap = w.heap → (Builtin.firstCells j.size n (a.eval y)).run P w' = .ok us w')
    (hold : ∀ w', w'.heap = w.heap → (Builtin.firstCells j.size L (.slice base L C)).run P w' = .ok os w') (hC : C < L + n) (hb0 : j.bytes ≠ 0) (hfit : (L + n) * j.bytes ≤ roomy) (hzl : j.zero.lays = true) (hzc : j.zero.cells.length = j.size) :
    ∃ nc vs, L + n ≤ nc ∧ nc ≤ maxLen ∧ vs.size = nc * j.size - (L + n) * j.size ∧
    (execOp a.eval ⟨dst, .call { callee := .builtin .append, args := #[x, y], argTypes := #[T, T'] }, ty, pos, af, gd⟩).run P w = .ok (.value (.slice (some ⟨w.heap.size, 0, none⟩) (L + n) nc)) (w.drew.alloc (.cells (os ++ us ++ vs) E)) := by
  have u1 := ok.run_underlying hT
  have u2 := ok.run_underlying hT'
  rw [hu] at u1
  obtain ⟨f, hf1, _, hf3, _⟩ := ok.run_typeInfo hj
  obtain ⟨z, hz1, hz2⟩ := ok.run_zeroValue hj
  have hzs : z.cells.size = j.size := by
    have := (((hz1 ⟨default, ⟨0, fun _ => none, fun _ _ h => (by cases h), fun _ => True, fun _ _ _ _ => trivial⟩, fun _ => false, fun _ => 0, fun _ => 0, fun b hb => absurd hb (Nat.not_lt_zero b), trivial⟩).rcells hzl).1).1
    omega
  have hgrow := growslice_fits (bytes := j.bytes) hC hfit
  let nc := (Question.appendCap (L + n) C E).cut (w.tape w.drawn (.appendCap (L + n) C E))
  have hneed : L + n ≤ roomy := Nat.le_trans (Nat.le_mul_of_pos_right _ (Nat.pos_of_ne_zero hb0)) hfit
  have hnc : L + n ≤ nc ∧ nc ≤ maxLen := by
    show L + n ≤ L + n + _ % (2 ^ 63 - (L + n)) ∧ _
    refine ⟨Nat.le_add_right _ _, ?_⟩
    show L + n + w.tape w.drawn (.appendCap (L + n) C E) % (2 ^ 63 - (L + n)) ≤ maxLen
    have : w.tape w.drawn (.appendCap (L + n) C E) % (2 ^ 63 - (L + n)) < 2 ^ 63 - (L + n) := Nat.mod_lt _ (by unfold roomy at hneed; omega)
    unfold maxLen
    unfold roomy at hneed
    omega
  refine ⟨nc, Builtin.zeroCells z.cells (nc - (L + n)), hnc.1, hnc.2, ?_, ?_⟩
  · simp only [Builtin.zeroCells, Array.size_map, Array.size_range, hzs, Nat.sub_mul]
  · have hforced : (Question.appendCap (L + n) C E).forced = false := rfl
    have hnot1 : ¬ (L + n ≤ C) := by omega
    have hnot2 : ¬ (Builtin.nextslicecap (L + n) C * j.bytes > 2 ^ 48) := by simpa using hgrow
    have i1 := hold w.drew rfl
    have i2 := hfirst w.drew rfl
    simp only [execCall_builtin, builtin, Builtin.append_]
    cases hd : i'.und <;> first | (rw [hd] at hu'; cases hu'; done) | skip
    all_goals
      rw [hd] at u2
      simp [hx, u1, u2, ok.run_sizeOf hj, hlen, hnot1, hf1, hf3, hb0, hforced, hz2, newRow]
      rw [if_neg (by simpa using hnot2)]
      rw [i1]
      simp only [Result.andThen_ok]
      rw [i2]
      simp only [Result.andThen_ok]
      rw [← Array.append_assoc]
      rfl
end

end Go.Proofs.YtojblnldfdeefaaGreatDoor.Cc

namespace Go.Proofs.YtojblnldfdeefaaGreatDoor.Cc
open Go Go.RowKit

section
variable {P : Program} {ti : TI} (ok : TIok P ti) {ng : Con} {e : Lk} {dst : Option Tmp} {ty : TypeId} {pos : String} {af : Array Edge} {gd : Option (Nat × Bool)}
include ok
theorem m_bytes {S D E : TypeId} {i i' j : TyI} {x : Operand} {s : List UInt8} {H : Heap} (hS : ti S = some i) (hD : ti D = some i') (hu : i.und = .string) (hu' : i'.und = .slice E) (hE : ti E = some j) (hju : j.und = .int .u8) (hx : evO ng e x = some (.str s))
    (hl : s.length ≤ 16777216) : AStep P ng ⟨dst, .convert S D x, ty, pos, af, gd⟩ e H (.sl 1 H.nn 0 s.length) (H.new (.cells E (s.map fun b => .int .u8 b.toNat) false false)) := by
  refine AStep.of fun g a w hg k st => ?_
  subst hg
  obtain ⟨v, he, hv⟩ := evO_at hx k
  cases hv with
  | str s hs =>
    have u1 := ok.und _ _ hS
    have u2 := ok.und _ _ hD
    have u3 := ok.und _ _ hE
    rw [hu] at u1
    rw [hu'] at u2
    rw [hju] at u3
    have hrun := run_bytes_of_string (P := P) w S D E ⟨s.toArray⟩ u1 u2 u3
    have hss : (⟨s.toArray⟩ : ByteArray).size = s.length := rfl
    rw [hss] at hrun
    have hnb := st.nn_not_bn
    let nc := grownCap w s.length 0 E
    have hnc : s.length ≤ nc ∧ nc ≤ maxLen := by
      show s.length ≤ s.length + _ % (2 ^ 63 - s.length) ∧ _
      refine ⟨Nat.le_add_right _ _, ?_⟩
      show s.length + w.tape w.drawn (.appendCap s.length 0 E) % (2 ^ 63 - s.length) ≤ maxLen
      have : w.tape w.drawn (.appendCap s.length 0 E) % (2 ^ 63 - s.length) < 2 ^ 63 - s.length := Nat.mod_lt _ (by omega)
      unfold maxLen
      omega
    have hsz : (bytesRow ⟨s.toArray⟩ nc).size = nc := by
      unfold bytesRow
      rw [Array.size_append, Array.size_map, Array.size_replicate]
      show s.length + (nc - s.length) = nc
      omega
    have nm : (g.name H.nn w.heap.size nc hnb).nm H.nn = w.heap.size := if_pos rfl
    refine ⟨.slice (some ⟨w.heap.size, 0, none⟩) s.length nc, _, g.name H.nn w.heap.size nc hnb, ?_, g.le_name _ _ _ _, ?_, st.drew.new (k := nc) (o := .cells (bytesRow ⟨s.toArray⟩ nc) E ((bytesRow ⟨s.toArray⟩ nc).size, (bytesRow ⟨s.toArray⟩ nc).size + 1)) (by simp) hnb ?_⟩
    · simp [execOp, he, hrun]
      exact ⟨rfl, rfl⟩
    · have := RelV.sl (g := g.name H.nn w.heap.size nc hnb) 1 H.nn 0 s.length nc (by simp [G.name]) (by rw [Nat.zero_add, Nat.mul_one]; exact (if_pos rfl).symm) hnc.1 hnc.2
      rwa [nm] at this
    · refine ⟨bytesRow ⟨s.toArray⟩ nc, ((bytesRow ⟨s.toArray⟩ nc).size, (bytesRow ⟨s.toArray⟩ nc).size + 1), ⟨E, ?_, fun _ => rfl⟩, fun _ => .inr (Nat.le_refl _), ?_, ?_, (fun h => by cases h), ?_⟩
      · show (w.heap.push _)[(g.name H.nn w.heap.size nc hnb).nm H.nn]? = _
        rw [nm]; simp
      · rw [hsz]; exact (if_pos rfl).symm
      · rw [hsz]; simpa using hnc.1
      · refine ⟨by simp [hsz]; omega, fun q c v hc hv => ?_⟩
        rw [List.getElem?_map] at hc
        obtain ⟨b, hb, rfl⟩ := Option.map_eq_some_iff.1 hc
        have hq : q < s.length := (List.getElem?_eq_some_iff.1 hb).1
        have : (bytesRow ⟨s.toArray⟩ nc)[q]? = some (.int .u8 b.toNat) := by
          unfold bytesRow
          rw [Array.getElem?_append, if_pos (by simpa using hq)]
          simp [hb]
        simp only [Array.getElem?_extract] at hv
        split at hv
        · rw [Nat.zero_add] at hv
          rw [this] at hv
          cases hv
          exact .int _ _
        · cases hv
theorem m_unsafe {S D t : TypeId} {i i' j : TyI} {x : Operand} {n o : Nat} {cs : List V} {H : Heap} (hS : ti S = some i) (hD : ti D = some i') (hu : i.und = .pointer t) (hu' : i'.und = .unsafePointer) (hE : ti t = some j) (hj : 0 < j.size) (hx : evO ng e x = some (.ptr n o))
    (hn : objCells H n = some cs) (ho : o < cs.length) : AStep P ng ⟨dst, .convert S D x, ty, pos, af, gd⟩ e H (.ptr n o) H := by
  refine AStep.of fun g a w hg k st => ?_
  subst hg
  obtain ⟨v, he, hv⟩ := evO_at hx k
  cases hv with
  | ptr n o hb =>
    obtain ⟨S', ex, ro, hg, _, vs, fz, ⟨T', h1, _⟩, h2, h3, h4, h5, h6⟩ := objCells_spec st hn
    have u1 := ok.und _ _ hS
    have u2 := ok.und _ _ hD
    rw [hu] at u1
    rw [hu'] at u2
    obtain ⟨f, f1, f2, _⟩ := ok.info _ _ hE
    have hc := cell_of (w := w) (o := o) (v := vs[o]'(by omega)) h1 (by simp)
    have hrun := run_convert_to_unsafe (P := P) u1 u2 (by rw [f1]; simp; omega) hc
    exact ⟨_, w, g, by simp [execOp, he, hrun], G.le.refl g, .ptr n o hb, st⟩
theorem m_noText {S D E : TypeId} {i i' j : TyI} {x : Operand} {y : V} {H : Heap} (hS : ti S = some i) (hD : ti D = some i') (hu : i.und = .slice E) (hu' : i'.und = .string) (hE : ti E = some j) (hju : j.und = .int .u8) (hx : evO ng e x = some y) (hy : y = .voidS ∨ y = .nilS) :
    AStep P ng ⟨dst, .convert S D x, ty, pos, af, gd⟩ e H (.str []) H := by
  refine AStep.of fun g a w hg k st => ?_
  subst hg
  obtain ⟨v, he, hv⟩ := evO_at hx k
  have u1 := ok.und _ _ hS
  have u2 := ok.und _ _ hD
  have u3 := ok.und _ _ hE
  rw [hu] at u1
  rw [hu'] at u2
  rw [hju] at u3
  refine ⟨.string ⟨[].toArray⟩, w, g, ?_, G.le.refl g, .str [] (by simp), st⟩
  rcases hy with rfl | rfl
  · cases hv with
    | voidS a =>
      have hrun := run_convert_bytes_string (P := P) w S D E (some a) 0 0 u1 u3 u2
      have h2 : (Conv.bytesToString (.slice (some a) 0 0)).run P w = .ok (.string ⟨[].toArray⟩) w := by
        exact run_bytesToString (P := P) w a 0 0 [] rfl
      simp [execOp, he, hrun, h2]
  · cases hv with
    | nilS =>
      have hrun := run_convert_bytes_string (P := P) w S D E none 0 0 u1 u3 u2
      have h2 : (Conv.bytesToString (.slice none 0 0)).run P w = .ok (.string ⟨[].toArray⟩) w := rfl
      simp [execOp, he, hrun, h2]
theorem conv2_sound {S D : TypeId} {y : Operand} {x : V} {H H' : Heap} (h : evM_conv2 ti ng e H S D y = some (x, H')) : AStep P ng ⟨dst, .convert S D y, ty, pos, af, gd⟩ e H x H' := by
  unfold evM_conv2 at h
  split at h <;> first | (cases h; done) | skip
  rename_i i i' hS hD
  split at h <;> first | (cases h; done) | skip
  · rename_i E s hu hu' hy
    split at h <;> first | (cases h; done) | skip
    rename_i j hE
    split at h <;> first | (cases h; done) | skip
    rename_i hju
    obtain ⟨hb, h⟩ := cond_some h
    cases h
    exact m_bytes ok hS hD hu hu' hE hju hy (Nat.le_of_ble_eq_true hb)
  · rename_i t n o hu hu' hy
    split at h <;> first | (cases h; done) | skip
    rename_i k cs hk hn
    obtain ⟨hb, h⟩ := cond_some h
    cases h
    simp only [Bool.and_eq_true] at hb
    exact m_unsafe ok hS hD hu hu' hk (by simpa [Nat.blt_eq] using hb.1) hy hn (by simpa [Nat.blt_eq] using hb.2)
  · rename_i E hu hu' hy
    split at h <;> first | (cases h; done) | skip
    rename_i j hE
    split at h <;> first | (cases h; done) | skip
    rename_i hju
    cases h
    exact m_noText ok hS hD hu hu' hE hju hy (.inl rfl)
  · rename_i E hu hu' hy
    split at h <;> first | (cases h; done) | skip
    rename_i j hE
    split at h <;> first | (cases h; done) | skip
    rename_i hju
    cases h
    exact m_noText ok hS hD hu hu' hE hju hy (.inr rfl)
end

end Go.Proofs.YtojblnldfdeefaaGreatDoor.Cc
