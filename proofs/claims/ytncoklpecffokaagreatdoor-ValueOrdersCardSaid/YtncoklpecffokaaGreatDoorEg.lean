/-
  The evaluator of closed calls, part 7: texts out of bytes, ranging over a text, append, copy, calls; one operation is sound.
-/
import Derived.Test.YtncoklpecffokaaGreatDoorEf
import Derived.Laws.BytesString
namespace Go.Proofs.YtncoklpecffokaaGreatDoor.Cc
open Go Go.RowKit

section
variable {P : Program} {ti : TI} (ok : TIok P ti) {ng : Con} {e : Lk} {dst : Option Tmp} {ty : TypeId} {pos : String} {af : Array Edge} {gd : Option (Nat × Bool)}

theorem bytes_spec {g : G} : ∀ {cs : List V} {s : List UInt8} {vs : List Value}, bytesV cs = some s → cs.length = vs.length → (∀ (i : Nat) c v, cs[i]? = some c → vs[i]? = some v → RelV g c v) → ∃ ns : List Nat, vs = ns.map (fun (n : Nat) => Value.int .u8 n) ∧ s = ns.map UInt8.ofNat
  | [], s, vs, h, hl, _ => by cases h; cases vs with | nil => exact ⟨[], rfl, rfl⟩ | cons => simp at hl
  | c :: cs, s, vs, h, hl, hr => by
    cases vs with
    | nil => simp at hl
    | cons v vs =>
      unfold bytesV at h
      split at h
      · cases ‹_ :: _ = []›
      · rename_i n cs' heq
        cases heq
        split at h
        · rename_i s' hs'
          cases h
          obtain ⟨ns, h1, h2⟩ := bytes_spec (vs := vs) hs' (by simpa using hl) (fun i c v hc hv => hr (i + 1) c v (by simpa using hc) (by simpa using hv))
          have hv := hr 0 _ v rfl rfl
          cases hv
          exact ⟨n :: ns, by rw [h1]; rfl, by rw [h2]; rfl⟩
        · cases h
      · cases h
include ok
theorem m_text {S D E : TypeId} {i i' j : TyI} {x : Operand} {n o len : Nat} {cs : List V} {s : List UInt8} {H : Heap} (hS : ti S = some i) (hD : ti D = some i') (hu : i.und = .slice E) (hu' : i'.und = .string) (hE : ti E = some j) (hju : j.und = .int .u8) (hx : evO ng e x = some (.sl 1 n o len))
    (hn : objCells H n = some cs) (ho : o + len ≤ cs.length) (hs : bytesV ((cs.drop o).take len) = some s) : AStep P ng ⟨dst, .convert S D x, ty, pos, af, gd⟩ e H (.str s) H := by
  refine AStep.of fun g a w hg k st => ?_
  subst hg
  obtain ⟨v, he, hv⟩ := evO_at hx k
  cases hv with
  | sl sz n o len cap hb hvs hl hc =>
    obtain ⟨S', ex, ro, hg, _, vs, fz, ⟨T', h1, _⟩, h2, h3, h4, h5, h6⟩ := objCells_spec st hn
    have hp := RelCells.sub h4 h6 ho
    obtain ⟨ns, hns, rfl⟩ := bytes_spec (vs := (vs.extract o (o + len)).toList) hs (by rw [Array.length_toList]; exact hp.1) (fun i c v hc hv => hp.2 i c v hc (by rwa [Array.getElem?_toList] at hv))
    have hlen : ns.length = len := by
      have : ((cs.drop o).take len).length = (vs.extract o (o + len)).size := hp.1
      have h7 := congrArg List.length hns
      simp at this h7
      omega
    have u1 := ok.run_underlying hS
    have u2 := ok.run_underlying hD
    have u3 := ok.run_underlying hE
    rw [hu] at u1
    rw [hu'] at u2
    rw [hju] at u3
    have hrun : (Conv.bytesToString (.slice (some ⟨g.nm n, o, none⟩) len cap)).run P w = .ok (.string ⟨(ns.map UInt8.ofNat).toArray⟩) w := by
      have hl2 : (loadCells ⟨g.nm n, o, none⟩ len).run P w = .ok ((ns.map fun (n : Nat) => (n : Int)).map (Value.int .u8)).toArray w := by
        rw [run_cells (P := P) h1 (show o + len ≤ vs.size by omega)]
        congr 1
        rw [List.map_map]
        apply Array.toList_inj.1
        rw [hns]
        rfl
      rw [run_bytesToString w _ len cap (ns.map fun (n : Nat) => (n : Int)) hl2]
      congr 2
      have key : ∀ (l : List Nat) (r : ByteArray), (l.map fun (n : Nat) => (n : Int)).foldl (fun r n => r.push (UInt8.ofNat n.toNat)) r = ⟨(r.data.toList ++ l.map UInt8.ofNat).toArray⟩ := by
        intro l
        induction l with
        | nil => intro r; simp
        | cons m l ih =>
          intro r
          simp only [List.map_cons, List.foldl_cons]
          rw [ih]
          simp [ByteArray.push]
      rw [key]
      rfl
    refine ⟨_, w, g, ?_, G.le.refl g, .str (ns.map UInt8.ofNat) (by simp [hlen]; omega), st⟩
    simp [execOp, he, convert, u1, u2, u3, hrun]
theorem m_range {T : TypeId} {i : TyI} {x : Operand} {s : List UInt8} {H : Heap} (hT : ti T = some i) (hu : i.und = .string) (hx : evO ng e x = some (.str s)) : AStep P ng ⟨dst, .range T x, ty, pos, af, gd⟩ e H (.ptr H.nn 0) (H.new (.iter s 0)) := by
  refine AStep.of fun g a w hg k st => ?_
  subst hg
  obtain ⟨v, he, hv⟩ := evO_at hx k
  cases hv
  have u1 := ok.run_underlying hT
  rw [hu] at u1
  have hb := st.nn_not_bn
  have nm : (g.name H.nn w.heap.size 0 hb).nm H.nn = w.heap.size := if_pos rfl
  refine ⟨.pointer (some ⟨w.heap.size, 0, none⟩), w.alloc (.stringIter ⟨s.toArray⟩ 0), g.name H.nn w.heap.size 0 hb, ?_, g.le_name _ _ _ _, ?_, st.new 0 (by simp) hb ?_⟩
  · simp [execOp, he, Instr.range, u1]
  · have := RelV.ptr (g := g.name H.nn w.heap.size 0 hb) H.nn 0 (by simp [G.name])
    rwa [nm] at this
  · show (w.heap.push _)[_]? = _
    rw [nm]; simp
omit ok in
theorem run_getIter {w : World} {r p : Nat} {s : ByteArray} (h : w.heap[r]? = some (.stringIter s p)) : (getObj r).run P w = .ok (.stringIter s p) w := by simp [getObj, Sem.run, h]
omit ok in
theorem run_setIter {w : World} {r p : Nat} {s : ByteArray} (o : Obj) (h : w.heap[r]? = some (.stringIter s p)) : (setObj r o).run P w = .ok () { w with heap := w.heap.setIfInBounds r o } := by simp [setObj, Sem.run, h]
omit ok in
theorem m_next {x : Operand} {n p : Nat} {s : List UInt8} {H : Heap} (hx : evO ng e x = some (.ptr n 0)) (hn : H.get n = some (.iter s p)) :
    (p < s.length → AStep P ng ⟨dst, .next x true, ty, pos, af, gd⟩ e H (.tuple [.bool true, .int .i64 p, .int .i32 (Utf8.decode ⟨s.toArray⟩ p).1]) (H.set n (.iter s (p + (Utf8.decode ⟨s.toArray⟩ p).2)))) ∧
    (¬ p < s.length → AStep P ng ⟨dst, .next x true, ty, pos, af, gd⟩ e H (.tuple [.bool false]) H) := by
  have hsz : (ByteArray.mk s.toArray).size = s.length := by unfold ByteArray.size; simp
  constructor
  · intro hp
    refine AStep.of fun g a w hg k st => ?_
    subst hg
    obtain ⟨v, he, hv⟩ := evO_at hx k
    cases hv with
    | ptr n o hb =>
      have hw : w.heap[g.nm n]? = some (.stringIter ⟨s.toArray⟩ p) := st.at_ _ _ hn
      have hlt : g.nm n < w.heap.size := (Array.getElem?_eq_some_iff.1 hw).1
      refine ⟨.tuple #[.bool true, goInt p, .int .i32 (Utf8.decode ⟨s.toArray⟩ p).1], { w with heap := w.heap.setIfInBounds (g.nm n) (.stringIter ⟨s.toArray⟩ (p + (Utf8.decode ⟨s.toArray⟩ p).2)) }, g, ?_, G.le.refl g, ?_, st.turn hn rfl (by simp) rfl rfl rfl (by simp) (fun j hj => ?_) ?_⟩
      · simp [execOp, he, Instr.next, run_getIter hw, run_setIter _ hw, hsz, hp]
      · refine .tuple _ _ rfl fun i c u hc hu => ?_
        match i with
        | 0 => simp at hc hu; subst hc; subst hu; exact .bool _
        | 1 => simp at hc hu; subst hc; subst hu; exact .int _ _
        | 2 => simp at hc hu; subst hc; subst hu; exact .int _ _
        | i + 3 => simp at hc
      · simp only [Array.getElem?_setIfInBounds]; rw [if_neg (Ne.symm hj)]
      · show _ = _
        simp [hlt]
  · intro hp
    refine AStep.of fun g a w hg k st => ?_
    subst hg
    obtain ⟨v, he, hv⟩ := evO_at hx k
    cases hv with
    | ptr n o hb =>
      have hw : w.heap[g.nm n]? = some (.stringIter ⟨s.toArray⟩ p) := st.at_ _ _ hn
      refine ⟨.tuple #[.bool false], w, g, ?_, G.le.refl g, .tuple _ _ rfl fun i c u hc hu => ?_, st⟩
      · simp [execOp, he, Instr.next, run_getIter hw, hsz, hp]
      · match i with
        | 0 => simp at hc hu; subst hc; subst hu; exact .bool _
        | i + 1 => simp at hc

/-! append, copy -/
omit ok in
theorem src_spec {g : G} {H : Heap} {w : World} (s : Sat g H w) {sz : Nat} {y : V} {v : Value} {ys : List V} (h : srcCells H sz y = some ys) (hv : RelV g y v) :
    ∃ us n, Builtin.lenOf v = (pure n : Sem Nat) ∧ ys.length = n * sz ∧ RelCells g ys us ∧ ∀ m, m ≤ n → ∀ w', w'.heap = w.heap → (Builtin.firstCells sz m v).run P w' = .ok (us.extract 0 (m * sz)) w' := by
  cases hv <;> simp only [srcCells] at h <;> first | (cases h; done) | skip
  case str s hs =>
    obtain ⟨hb, rfl⟩ := cond_some h
    have hb := Nat.eq_of_beq_eq_true hb
    subst hb
    refine ⟨(s.map fun (b : UInt8) => Value.int .u8 b.toNat).toArray, s.length, ?_, by simp, ⟨by simp, fun i c u hc hu => ?_⟩, fun m hm w' _ => ?_⟩
    · show (pure (ByteArray.mk s.toArray).size : Sem Nat) = _
      unfold ByteArray.size; simp
    · simp only [List.getElem?_map, Option.map_eq_some_iff] at hc
      obtain ⟨b, hb, rfl⟩ := hc
      have : u = .int .u8 b.toNat := by simpa [hb] using hu.symm
      subst this; exact .int _ _
    · simp only [Builtin.firstCells, Nat.mul_one]
      rw [Sem.run_pure]
      congr 1
      apply Array.toList_inj.1
      rw [ByteArray.data_extract]
      simp
  case nilS =>
    cases h
    exact ⟨#[], 0, rfl, by simp, RelCells.nil g, fun m hm w' _ => by
      have : m = 0 := by omega
      subst this; simp [Builtin.firstCells]⟩
  case voidS a =>
    cases h
    exact ⟨#[], 0, rfl, by simp, RelCells.nil g, fun m hm w' _ => by
      have : m = 0 := by omega
      subst this; simp [Builtin.firstCells, loadCells, loadCellsFrom]⟩
  case viewS a c hc =>
    cases h
    exact ⟨#[], 0, rfl, by simp, RelCells.nil g, fun m hm w' _ => by
      have : m = 0 := by omega
      subst this; cases a <;> simp [Builtin.firstCells, loadCells, loadCellsFrom]⟩
  case sl sz' n o len cap hb hvs hl hc =>
    obtain ⟨hb1, h⟩ : Nat.beq sz' sz = true ∧ _ := by
      cases hq : Nat.beq sz' sz with
      | true => rw [hq] at h; exact ⟨rfl, h⟩
      | false => rw [hq] at h; cases h
    have hb1 := Nat.eq_of_beq_eq_true hb1
    subst hb1
    simp only [cond] at h
    split at h <;> first | (cases h; done) | skip
    rename_i cs hn
    obtain ⟨hk, rfl⟩ := cond_some h
    have hk := Nat.le_of_ble_eq_true hk
    obtain ⟨T, ex, ro, hg, _, vs, fz, ⟨T', h1, _⟩, h2, h3, h4, h5, h6⟩ := objCells_spec s hn
    refine ⟨vs.extract o (o + len * sz'), len, rfl, by simp; omega, RelCells.sub h4 h6 hk, fun m hm w' hw => ?_⟩
    have hmz : m * sz' ≤ len * sz' := Nat.mul_le_mul_right _ hm
    show (loadCells ⟨g.nm n, o, none⟩ (m * sz')).run P w' = _
    rw [run_cells (P := P) (w := w') (by rw [hw]; exact h1) (show o + m * sz' ≤ vs.size by omega)]
    rw [Array.extract_extract, Nat.add_zero, Nat.min_eq_left (by omega)]

/-- append where there is room. -/
theorem run_append_in {T T' E : TypeId} {i i' j : TyI} {x y : Operand} {a : Act} {w w' : World} {base : Option Addr} {L C n : Nat} {us : Array Value} (hT : ti T = some i) (hu : i.und = .slice E) (hT' : ti T' = some i') (hu' : listy i'.und = true) (hj : ti E = some j)
    (hx : a.eval x = .slice base L C) (hlen : Builtin.lenOf (a.eval y) = (pure n : Sem Nat)) (hfirst : (Builtin.firstCells j.size n (a.eval y)).run P w = .ok us w) (hC : L + n ≤ C)
    (hst : ∀ b, base = some b → (storeCells (b.add (L * j.size)) us.toList).run P w = .ok () w') (hn0 : base = none → w' = w) :
    (execOp a.eval ⟨dst, .call { callee := .builtin .append, args := #[x, y], argTypes := #[T, T'] }, ty, pos, af, gd⟩).run P w = .ok (.value (.slice base (L + n) C)) w' := by
  have u1 := ok.run_underlying hT
  have u2 := ok.run_underlying hT'
  rw [hu] at u1
  simp only [execCall_builtin, builtin, Builtin.append_]
  cases hd : i'.und <;> first | (rw [hd] at hu'; cases hu'; done) | skip
  all_goals
    rw [hd] at u2
    simp [hx, u1, u2, ok.run_sizeOf hj, hlen, hC, hfirst]
    cases base with
    | none => simp [hn0 rfl]
    | some b => simp [hst b rfl]
/-- append where there is not. -/
theorem run_append_grow {T T' E : TypeId} {i i' j : TyI} {x y : Operand} {a : Act} {w : World} {base : Option Addr} {L C n : Nat} {os us : Array Value} (hT : ti T = some i) (hu : i.und = .slice E) (hT' : ti T' = some i') (hu' : listy i'.und = true) (hj : ti E = some j)
    (hx : a.eval x = .slice base L C) (hlen : Builtin.lenOf (a.eval y) = (pure n : Sem Nat)) (hfirst : ∀ w', w'.heap = w.heap → (Builtin.firstCells j.size n (a.eval y)).run P w' = .ok us w')
    (hold : ∀ w', w'.heap = w.heap → (Builtin.firstCells j.size L (.slice base L C)).run P w' = .ok os w') (hC : C < L + n) (hb0 : j.bytes ≠ 0) (hfit : (L + n) * j.bytes ≤ roomy) (hzl : j.zero.lays = true) (hzc : j.zero.cells.length = j.size) :
    ∃ nc vs, L + n ≤ nc ∧ nc ≤ maxLen ∧ vs.size = nc * j.size - (L + n) * j.size ∧
    (execOp a.eval ⟨dst, .call { callee := .builtin .append, args := #[x, y], argTypes := #[T, T'] }, ty, pos, af, gd⟩).run P w = .ok (.value (.slice (some ⟨w.heap.size, 0, none⟩) (L + n) nc)) (w.drew.alloc (.cells (os ++ us ++ vs) E)) := by
  have u1 := ok.run_underlying hT
  have u2 := ok.run_underlying hT'
  rw [hu] at u1
  obtain ⟨f, hf1, _, hf3, _⟩ := ok.run_typeInfo hj
  obtain ⟨z, hz1, hz2⟩ := ok.run_zeroValue hj
  have hzs : z.cells.size = j.size := by
    have := (((hz1 ⟨default, ⟨0, fun _ => none, fun _ _ h => (by cases h), fun _ => True, fun _ _ _ _ => trivial⟩, fun _ => false, fun _ => 0, fun _ => 0, fun b hb => absurd hb (Nat.not_lt_zero b), trivial⟩).rcells hzl).1).1
    omega
  have hgrow := growslice_fits (bytes := j.bytes) hC hfit
  let nc := (Question.appendCap (L + n) C E).cut (w.tape w.drawn (.appendCap (L + n) C E))
  have hneed : L + n ≤ roomy := Nat.le_trans (Nat.le_mul_of_pos_right _ (Nat.pos_of_ne_zero hb0)) hfit
  have hnc : L + n ≤ nc ∧ nc ≤ maxLen := by
    show L + n ≤ L + n + _ % (2 ^ 63 - (L + n)) ∧ _
    refine ⟨Nat.le_add_right _ _, ?_⟩
    show L + n + w.tape w.drawn (.appendCap (L + n) C E) % (2 ^ 63 - (L + n)) ≤ maxLen
    have : w.tape w.drawn (.appendCap (L + n) C E) % (2 ^ 63 - (L + n)) < 2 ^ 63 - (L + n) := Nat.mod_lt _ (by unfold roomy at hneed; omega)
    unfold maxLen
    unfold roomy at hneed
    omega
  refine ⟨nc, Builtin.zeroCells z.cells (nc - (L + n)), hnc.1, hnc.2, ?_, ?_⟩
  · simp only [Builtin.zeroCells, Array.size_map, Array.size_range, hzs, Nat.sub_mul]
  · have hforced : (Question.appendCap (L + n) C E).forced = false := rfl
    have hnot1 : ¬ (L + n ≤ C) := by omega
    have hnot2 : ¬ (Builtin.nextslicecap (L + n) C * j.bytes > 2 ^ 48) := by simpa using hgrow
    have i1 := hold w.drew rfl
    have i2 := hfirst w.drew rfl
    simp only [execCall_builtin, builtin, Builtin.append_]
    cases hd : i'.und <;> first | (rw [hd] at hu'; cases hu'; done) | skip
    all_goals
      rw [hd] at u2
      simp [hx, u1, u2, ok.run_sizeOf hj, hlen, hnot1, hf1, hf3, hb0, hforced, hz2, newRow]
      rw [if_neg (by simpa using hnot2)]
      rw [i1]
      simp only [Result.andThen_ok]
      rw [i2]
      simp only [Result.andThen_ok]
      rw [← Array.append_assoc]
      rfl
end

end Go.Proofs.YtncoklpecffokaaGreatDoor.Cc
