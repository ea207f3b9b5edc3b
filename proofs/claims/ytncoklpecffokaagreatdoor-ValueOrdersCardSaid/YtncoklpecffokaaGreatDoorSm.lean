/-
  The frame, part 13: rows of numbers that are written in place.
-/
import Derived.Test.YtncoklpecffokaaGreatDoorSl
import Derived.Sort.Grow
namespace Go.Proofs.YtncoklpecffokaaGreatDoor
open Go Go.RowKit

/-- Numbers in a row that may be written: behind the address a, with room for c; the block is one of those of which N holds. -/
structure MRow (N : Nat → Prop) (H : Heap) (a : Option Addr) (xs : List Int) (c : Nat) : Prop where
  cap : xs.length ≤ c
  max : c ≤ maxLen
  form : (a = none ∧ c = 0) ∨ ∃ b, a = some ⟨b, 0, none⟩
  at_ : xs = [] ∨ ∃ b T cs, a = some ⟨b, 0, none⟩ ∧ N b ∧ H.objs b = some (.box T cs) ∧ cs.take xs.length = xs.map (.int .i64)
theorem MRow.mono {N N' : Nat → Prop} {H H' : Heap} {a : Option Addr} {xs : List Int} {c : Nat} (h : MRow N H a xs c) (hl : H.le H') (hn : ∀ b, N b → N' b) : MRow N' H' a xs c :=
  ⟨h.cap, h.max, h.form, h.at_.imp id fun ⟨b, T, cs, h1, h2, h3, h4⟩ => ⟨b, T, cs, h1, hn b h2, hl.objs _ _ h3, h4⟩⟩

/-- What a callee that writes on such a row leaves of the rest. -/
def MSame (N : Nat → Prop) (a : Option Addr) (H H' : Heap) : Prop := H' = H ∨ ∃ b T cs, a = some ⟨b, 0, none⟩ ∧ N b ∧ H' = H.set b (.box T cs)
theorem MSame.le {N : Nat → Prop} {a : Option Addr} {H0 H H' : Heap} (h : MSame N a H H') (hl : H0.le H) (hn : ∀ b, N b → H0.objs b = none) : H0.le H' := by
  rcases h with rfl | ⟨b, T, cs, _, hb, rfl⟩
  · exact hl
  · refine ⟨fun k x hx => ?_, fun t ht => hl.toks t ht⟩
    have hk : k ≠ b := by rintro rfl; rw [hn _ hb] at hx; cases hx
    rw [Heap.objs_set_ne _ _ hk]; exact hl.objs _ _ hx
theorem MSame.objs {N : Nat → Prop} {a : Option Addr} {H H' : Heap} (h : MSame N a H H') {k : Nat} (hk : ¬ N k) : H'.objs k = H.objs k := by
  rcases h with rfl | ⟨b, T, cs, _, hb, rfl⟩
  · rfl
  · exact Heap.objs_set_ne _ _ (by rintro rfl; exact hk hb)
theorem MSame.toks {N : Nat → Prop} {a : Option Addr} {H H' : Heap} (h : MSame N a H H') : H'.toks = H.toks := by
  rcases h with rfl | ⟨b, T, cs, _, hb, rfl⟩ <;> rfl
theorem Heap.set_self {H : Heap} {b : Nat} {x : AObj} (h : H.objs b = some x) : H.set b x = H := by
  cases H with
  | mk objs toks =>
    simp only [Heap.set, Heap.mk.injEq, and_true]
    funext k
    split
    · rename_i e; subst e; exact h.symm
    · rfl
theorem mrow_get {cs : List AV} {xs : List Int} (h : cs.take xs.length = xs.map (.int .i64)) {i : Nat} (hi : i < xs.length) : cs[0 + ((i : Nat) : Int).toNat * 1]? = some (.int .i64 xs[i]) := by
  have : (cs.take xs.length)[i]? = (xs.map (AV.int .i64))[i]? := by rw [h]
  rw [List.getElem?_take, if_pos hi] at this
  simpa [hi] using this
theorem mrow_len {cs : List AV} {xs : List Int} (h : cs.take xs.length = xs.map (.int .i64)) : xs.length ≤ cs.length := by
  have := congrArg List.length h
  simp at this; omega
theorem piece_at {b c i len L : Nat} (hi : i ≤ len) (hc : len ≤ c) (hL : len ≤ L) : len - i = 0 ∨ ((if c = i then some (⟨b, 0, none⟩ : Addr) else (some (⟨b, 0, none⟩ : Addr)).map (·.add (i * 1))) = some ⟨b, i, none⟩ ∧ i + (len - i) ≤ L) := by
  by_cases h : len - i = 0
  · exact .inl h
  · refine .inr ⟨?_, by omega⟩
    rw [if_neg (by omega)]
    simp [Addr.add_off]
theorem piece_0 {a : Option Addr} {b c : Nat} (ha : a = some ⟨b, 0, none⟩) : (if c = 0 then a else a.map (·.add (0 * 1))) = a := by
  subst ha
  split
  · rfl
  · simp [Addr.add_off]

theorem Sat.ahead {g : G} {H : Heap} {w : World} (s : Sat g H w) (q : Nat) : Sat g H (Sort.ahead w q) := {
  below := ⟨s.below.os, s.below.tape, s.below.output, s.below.size, s.below.block⟩
  imm := s.imm
  box := s.box
  map := s.map
  raw := s.raw
  own := s.own
  tok := s.tok
  tokLt := s.tokLt
  sep := s.sep }
theorem Sat.holds {g : G} {H : Heap} {w : World} (s : Sat g H w) {b : Nat} {T : TypeId} {cs : List AV} {xs : List Int} (hb : H.objs b = some (.box T cs)) (hx : cs.take xs.length = xs.map (.int .i64)) : Sort.Holds (Value.int .i64) w b 0 xs.toArray := by
  obtain ⟨vs, hw, hr⟩ := s.box b T cs hb
  intro j hj
  have hj' : j < xs.length := by simpa using hj
  have hc : cs[j]? = some (.int .i64 xs[j]) := by
    have : (cs.take xs.length)[j]? = (xs.map (AV.int .i64))[j]? := by rw [hx]
    rw [List.getElem?_take, if_pos hj'] at this
    simpa [hj'] using this
  obtain ⟨v, hv, hrel⟩ := hr.at hc
  cases hrel
  refine ⟨?_, ?_⟩
  · rw [hw.cell, Nat.zero_add]
    simpa [hj'] using hv
  · exact hw.thaw (by have := (Array.getElem?_eq_some_iff.1 hv).1; omega)
/-- What the library's contracts on rows leave: the row's cells hold other numbers, new blocks lie behind. -/
theorem Sat.putRow {g : G} {H : Heap} {w : World} (s : Sat g H w) {b : Nat} {T : TypeId} {cs : List AV} (hb : H.objs b = some (.box T cs)) (ys : List Int) (hl : ys.length ≤ cs.length) (q : Nat) :
    Sat g (H.set b (.box T (ys.map (.int .i64) ++ cs.drop ys.length))) (Sort.putRow (Value.int .i64) (Sort.ahead w q) b 0 ys.toArray) := by
  obtain ⟨vs, ⟨fz, hw, hth⟩, hr⟩ := s.box b T cs hb
  refine (s.ahead q).turn hb (fun k hk => ?_) (by simp [Sort.putRow, Sort.mapBlock, Sort.ahead]) rfl rfl rfl ⟨Sort.putCells (Value.int .i64) 0 ys.toArray vs, ⟨fz, ?_, by simpa [Sort.putCells] using hth⟩, ?_⟩
  · show (w.heap.modify b _)[k]? = w.heap[k]?
    rw [Array.getElem?_modify, if_neg (fun h => hk h.symm)]
  · show (w.heap.modify b _)[b]? = _
    rw [Array.getElem?_modify, if_pos rfl, hw]; rfl
  · have hsz := hr.1
    refine ⟨by simp [Sort.putCells]; omega, fun i c v hc hv => ?_⟩
    simp only [Sort.putCells, Array.getElem?_mapIdx] at hv
    rw [List.getElem?_append] at hc
    simp only [List.length_map] at hc
    by_cases hi : i < ys.length
    · rw [if_pos hi] at hc
      have hc' : c = .int .i64 ys[i] := by simpa [hi] using hc.symm
      cases hvi : vs[i]? with
      | none => rw [hvi] at hv; cases hv
      | some u =>
        rw [hvi] at hv
        have hv' : v = .int .i64 ys[i] := by simpa [hi] using hv.symm
        subst hc'; subst hv'; exact .int _ _
    · rw [if_neg hi, List.getElem?_drop, show ys.length + (i - ys.length) = i by omega] at hc
      cases hvi : vs[i]? with
      | none => rw [hvi] at hv; cases hv
      | some u =>
        rw [hvi] at hv
        have hv' : v = u := by simpa [hi] using hv.symm
        subst hv'; exact hr.2 i c v hc hvi
theorem Sat.grown {g : G} {H : Heap} {w : World} (s : Sat g H w) (os : Array Obj) : Sat g H (Sort.grow w os) :=
  s.grow ⟨rfl, rfl, rfl, by simp [Sort.grow], fun k hk => by simp [Sort.grow, Array.getElem?_append, hk]⟩
/-- A new row of numbers that a callee hands back, to be written on. -/
theorem Sat.ownedRowM {g : G} {H : Heap} {w w' : World} (s : Sat g H w) (hb : Below w.heap.size w w') {T : TypeId} {v : Value} {n : Nat} {xs : List Int} (ho : w'.ownsRow w.heap.size T 1 v n (xs.map (Value.int .i64))) :
    ∃ a c H', RelV g (.mslice a xs.length c) v ∧ Sat g H' w' ∧ H.le H' ∧ MRow (fun b => H.objs b = none) H' a xs c := by
  obtain ⟨hlen, ⟨rfl, rfl⟩ | ⟨b, cap, cur, rfl, hbase, hw, hcap, hmax, hcur, hx⟩⟩ := ho
  · simp at hlen
    subst hlen
    exact ⟨none, 0, H, .mslice _ _ _, s.grow hb, Heap.le.refl H, Nat.le_refl _, Nat.zero_le _, .inl ⟨rfl, rfl⟩, .inl rfl⟩
  · have hn : xs.length = n := by simpa using hlen
    subst hn
    have hnone : H.objs b = none := by
      cases h : H.objs b with
      | none => rfl
      | some x => have := s.obj_lt h; omega
    have himm : ∀ o, g.imm b o = none := fun o => by
      cases h : g.imm b o with
      | none => rfl
      | some x => have := s.imm_lt h; omega
    have hrel : RelCells g (xs.map (.int .i64) ++ (cur.toList.drop xs.length).map AV.raw) cur := by
      refine ⟨by simp; omega, fun i c v hc hv => ?_⟩
      rw [List.getElem?_append] at hc
      simp only [List.length_map] at hc
      have hx' : (cur.toList.take (xs.length * 1))[i]? = (xs.map (Value.int .i64))[i]? := by rw [hx]
      rw [List.getElem?_take] at hx'
      by_cases hi : i < xs.length
      · rw [if_pos hi] at hc
        rw [if_pos (by omega)] at hx'
        simp [hi] at hc hx'
        rw [hx'] at hv; cases hv; subst hc; exact .int _ _
      · rw [if_neg hi] at hc
        have : (cur.toList.drop xs.length)[i - xs.length]? = some v := by
          rw [List.getElem?_drop, show xs.length + (i - xs.length) = i by omega]; simpa using hv
        rw [List.getElem?_map, this] at hc
        cases hc; exact .raw _
    have s' := (s.grow hb).claim (b := b) (Nat.le_trans s.below.size hbase) himm (fun t lo n ht hk => by
      rcases Nat.eq_zero_or_pos n with h0 | h0
      · exact h0
      · obtain ⟨_, _, _, c, T', h4, _⟩ := s.tok t b lo n ht hk (by omega)
        have := (Array.getElem?_eq_some_iff.1 h4).1
        omega) (.box T (xs.map (.int .i64) ++ (cur.toList.drop xs.length).map AV.raw)) ⟨cur, .mk hw, hrel⟩
    refine ⟨some ⟨b, 0, none⟩, cap, _, .mslice _ _ _, s', Heap.le_set hnone _, hcap, hmax, .inr ⟨b, rfl⟩, Or.inr ⟨b, T, _, rfl, hnone, Heap.objs_set_same _ _ _, ?_⟩⟩
    rw [List.take_left' (by simp)]

section
variable {P : Program} {env : Env} {H : Heap} {dst : Option Tmp} {ty : TypeId} {pos : String} {af : Array Edge} {gd : Option (Nat × Bool)}
theorem MRow.mono2 {N N' : Nat → Prop} {H H' : Heap} {a : Option Addr} {xs : List Int} {c : Nat} (h : MRow N H a xs c) (hn : ∀ b x, N b → H.objs b = some x → N' b ∧ H'.objs b = some x) : MRow N' H' a xs c :=
  ⟨h.cap, h.max, h.form, h.at_.imp id fun ⟨b, T, cs, h1, h2, h3, h4⟩ => let ⟨q1, q2⟩ := hn b _ h2 h3; ⟨b, T, cs, h1, q1, q2, h4⟩⟩
theorem MRow.set_ne {N : Nat → Prop} {H : Heap} {a : Option Addr} {xs : List Int} {c : Nat} (h : MRow N H a xs c) {k : Nat} (hk : ¬ N k) (o : AObj) : MRow N (H.set k o) a xs c :=
  h.mono2 fun b x hN hb => ⟨hN, by rw [Heap.objs_set_ne _ _ (by rintro rfl; exact hk hN)]; exact hb⟩
/-- A row of which nothing will be written any more is a slice that never turns. -/
theorem Sat.freezeRow {g : G} {H : Heap} {w : World} (s : Sat g H w) {N : Nat → Prop} {a : Option Addr} {xs : List Int} {c : Nat} (hm : MRow N H a xs c) :
    ∃ g' H', g.le g' ∧ RelV g' (.slice 1 (xs.map (.int .i64)) .shared) (.slice a xs.length c) ∧ Sat g' H' w ∧ (∀ k x, H.objs k = some x → ¬ N k → H'.objs k = some x) ∧ H'.toks = H.toks := by
  rcases hm.at_ with rfl | ⟨b, T, cs, rfl, hN, hb, hcs⟩
  · refine ⟨g, H, .id, ?_, s, fun _ _ h _ => h, rfl⟩
    rcases hm.form with ⟨rfl, rfl⟩ | ⟨b, rfl⟩
    · exact .nilSlice _ _
    · have := RelV.slice (g := g) 1 [] .shared b 0 c (fun _ => undef) (fun x hx => by simp at hx) (fun i hi => by simp at hi) (fun i j x c hx _ => by simp at hx) (Nat.zero_le _) hm.max trivial
      simpa using this
  · obtain ⟨vs, hrel, himm, hle, s'⟩ := s.freeze hb
    refine ⟨_, _, hle, ?_, s', fun k x hk hNk => ?_, rfl⟩
    · have hlen := mrow_len hcs
      have hget : ∀ i, (h : i < xs.length) → vs[i]? = some (.int .i64 xs[i]) := fun i h => by
        have h1 := mrow_get hcs h
        rw [show 0 + ((i : Nat) : Int).toNat * 1 = i by omega] at h1
        obtain ⟨v, hv, hr⟩ := hrel.at h1
        cases hr; exact hv
      have := RelV.slice (g := g.addImm b fun o => vs[o]?) 1 (xs.map (AV.int .i64)) .shared b 0 c (fun i => vs.getD i undef) (row_int xs)
        (fun i hi => by
          have hi' : i < xs.length := by simpa using hi
          rw [Nat.zero_add]
          exact himm i _ (by rw [hget i hi']; simp [hget i hi']))
        (fun i j x c hx' hc => by
          have hi : i < xs.length := by have := (List.getElem?_eq_some_iff.1 hx').1; simpa using this
          have hxi : x = .int .i64 xs[i] := by simpa [hi] using hx'.symm
          subst hxi
          cases j with
          | zero =>
            simp [AV.cells] at hc
            subst hc
            have : vs.getD (i * 1 + 0) undef = .int .i64 xs[i] := by simp [hget i hi]
            rw [this]; exact .int _ _
          | succ j => simp [AV.cells] at hc)
        (by simpa using hm.cap) hm.max trivial
      simpa using this
    · have hkb : k ≠ b := by rintro rfl; exact hNk hN
      simp [Heap.drop, hkb, hk]
theorem AWP.frzM {n : Nat} {Q : Exit → Env → Heap → Prop} {cd : Code} {t : Nat} {N : Nat → Prop} {a : Option Addr} {xs : List Int} {c : Nat} (ht : env.get? t = some (.mslice a xs.length c)) (hm : MRow N H a xs c)
    (h : ∀ H', (∀ k x, H.objs k = some x → ¬ N k → H'.objs k = some x) → H'.toks = H.toks → AWP P n cd Q ((t, .slice 1 (xs.map (.int .i64)) .shared) :: env) H') : AWP P n cd Q env H := by
  intro g ac w k s
  obtain ⟨v, hv, hr⟩ := k.at_ t _ ht
  obtain ⟨g', H', hle, hrel, s', h1, h2⟩ := s.freezeRow hm
  have hr' : v = .slice a xs.length c := by cases hr; rfl
  subst hr'
  have k' : RelAct g' n ((t, .slice 1 (xs.map (.int .i64)) .shared) :: env) ac := by
    refine ⟨k.size, k.defers, fun t' x hx => ?_⟩
    simp only [Env.get?] at hx
    cases hb : Nat.beq t t' with
    | true =>
      rw [hb] at hx
      have : t = t' := Nat.eq_of_beq_eq_true hb
      subst this
      cases hx
      exact ⟨_, hv, hrel⟩
    | false =>
      rw [hb] at hx
      obtain ⟨u, hu, hru⟩ := k.at_ t' x hx
      exact ⟨u, hu, hru.mono hle⟩
  exact wp_mono (h H' h1 h2 g' ac w k' s') fun _ _ _ hq => hq.up hle
/-- A piece of a row. -/
theorem pure_sliceM {T E : TypeId} {x : Operand} {lo hi : Option Operand} {l h : Option Nat} {sz len cap : Nat} {a : Option Addr} (hu : P.underlying T = some (.slice E)) (hs : ∀ w, (sizeOf E).run P w = .ok sz w)
    (hx : Ev env x (.mslice a len cap)) (hlo : OptEv env lo l) (hhi : OptEv env hi h) (h1 : l.getD 0 ≤ h.getD len) (h2 : h.getD len ≤ cap) :
    APure P ⟨dst, .slice T x lo hi none, ty, pos, af, gd⟩ env (.mslice (if cap = l.getD 0 then a else a.map (·.add (l.getD 0 * sz))) (h.getD len - l.getD 0) (cap - l.getD 0)) := by
  intro g n ac ka
  obtain ⟨v, he, hv⟩ := ev1 hx ka
  have slo := hlo.spec ka
  have shi := hhi.spec ka
  cases hv
  have hb := run_bounds (P := P) (len := len) (cap := cap) slo shi h1 h2
  exact ⟨_, .mslice _ _ _, fun w _ => by simp [execOp, he, Instr.sliceAt, Instr.slice, underlying, hu, hs, hb w]⟩
/-- clear of a piece of a row of numbers. -/
theorem step_clearM {T E : TypeId} {x : Operand} {k : IntKind} {a : Option Addr} {n c b o : Nat} {S : TypeId} {cs : List AV} (hu : P.underlying T = some (.slice E)) (hz : ∀ w, (zeroValue E).run P w = .ok (.int k 0) w)
    (hx : Ev env x (.mslice a n c)) (hb : H.objs b = some (.box S cs)) (ha : n = 0 ∨ (a = some ⟨b, o, none⟩ ∧ o + n ≤ cs.length)) :
    AStep P ⟨dst, .call { callee := .builtin .clear, args := #[x], argTypes := #[T] }, ty, pos, af, gd⟩ env H (fun _ H' => ∃ ds, ds.length = cs.length ∧ (∀ j, n = 0 ∨ j < o → ds[j]? = cs[j]?) ∧ H' = H.set b (.box S ds)) := by
  intro g m ac w ka s
  obtain ⟨v, he, hv⟩ := ev1 hx ka
  cases hv
  rcases Nat.eq_zero_or_pos n with h0 | h0
  · subst h0
    have : (execOp ac.eval ⟨dst, .call { callee := .builtin .clear, args := #[x], argTypes := #[T] }, ty, pos, af, gd⟩).run P w = .ok (.value (.tuple #[])) w := by
      cases a <;> simp [execOp, resolve, invoke, builtin, he, Builtin.clear_, run_underlying hu]
    rw [this]
    refine ⟨g, .tuple [], _, .id, .tuple _ _ rfl (fun i c v hc _ => by simp at hc), ?_, cs, rfl, fun _ _ => rfl, rfl⟩
    have e : H.set b (.box S cs) = H := by
      cases H with
      | mk objs toks =>
        simp only [Heap.set, Heap.mk.injEq, and_true]
        funext j
        split
        · rename_i e; subst e; exact hb.symm
        · rfl
    rw [e]; exact s
  · obtain ⟨rfl, hfit⟩ := ha.resolve_left (by omega)
    obtain ⟨vs, ⟨fz, hw, hth⟩, hrel⟩ := s.box b S cs hb
    let us : Array Value := Builtin.zeroCells #[.int k 0] n
    have hus : us.size = n := by simp [us, Builtin.zeroCells]
    have hone : ∀ v ∈ us.toList, v.oneCell' = true := fun v hv => by
      simp only [us, Builtin.zeroCells, Array.toList_map, List.mem_map] at hv
      obtain ⟨i, _, rfl⟩ := hv
      simp [Nat.mod_one]; rfl
    have hrun := run_storeCells_th (P := P) b o S fz us.toList 0 vs w hw hth (by have := hrel.1; simp; omega) hone
    simp only [Nat.add_zero] at hrun
    have hzc : (Value.int k 0).cells = #[.int k 0] := rfl
    have : (execOp ac.eval ⟨dst, .call { callee := .builtin .clear, args := #[x], argTypes := #[T] }, ty, pos, af, gd⟩).run P w = .ok (.value (.tuple #[])) (w.setRow b (vs.toList.take o ++ us.toList ++ vs.toList.drop (o + us.toList.length)).toArray) := by
      obtain ⟨n, rfl⟩ : ∃ j, n = j + 1 := ⟨n - 1, by omega⟩
      simp only [execOp, resolve, invoke, builtin, Builtin.clear_]
      simp [he, run_underlying hu, hz, hzc]
      rw [show (Builtin.zeroCells #[Value.int k 0] (n + 1)).toList = us.toList from rfl, hrun]
      simp
    rw [this]
    let ds : List AV := putRow cs o ((List.range n).map fun _ => AV.raw (.int k 0))
    have hr2 : RelCells g ((List.range n).map fun _ => AV.raw (.int k 0)) us := by
      refine ⟨by simp [hus], fun i c v hc hv => ?_⟩
      have hi : i < n := by have := (Array.getElem?_eq_some_iff.1 hv).1; omega
      have hc' : c = .raw (.int k 0) := by simpa [hi] using hc.symm
      have hv' : v = .int k 0 := by
        have : us[i]? = some (.int k 0) := by simp [us, Builtin.zeroCells, hi, Nat.mod_one]
        rw [this] at hv; cases hv; rfl
      subst hc'; subst hv'; exact .raw _
    refine ⟨g, .tuple [], _, .id, .tuple _ _ rfl (fun i c v hc _ => by simp at hc), ?_, ds, ?_, fun j hj => ?_, rfl⟩
    · exact s.turn hb (fun j hj => setRow_other w b j _ hj) (by simp) rfl rfl rfl ⟨_, ⟨fz, setRow_heap w b vs _ S fz hw, by rw [show (vs.toList.take o ++ us.toList ++ vs.toList.drop (o + us.toList.length)).toArray.size = vs.size by have := hrel.1; simp; omega]; exact hth⟩, hrel.putRow hr2 (by simp; omega)⟩
    · simp [ds, putRow]; omega
    · have hj' : j < o := hj.resolve_left (by omega)
      simp only [ds, putRow, List.append_assoc]
      rw [List.getElem?_append_left (by simp; omega), List.getElem?_take, if_pos hj']
end
end Go.Proofs.YtncoklpecffokaaGreatDoor
