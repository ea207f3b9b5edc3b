/-
  The frame, part 20: calls that the machine answers; package variables that hold what they were laid with.
-/
import Derived.Test.YtncoklpecffokaaGreatDoorSu
import Derived.Lib.Bytealg
import Derived.Laws.Externs
namespace Go.Proofs.YtncoklpecffokaaGreatDoor
open Go Go.RowKit
/-- f is answered by the machine's entry e. -/
def IsExt (P : Program) (f : FuncId) (e : Array Value → Sem Value) : Prop :=
  ∃ fn, P.funcs[f]? = some fn ∧ (fn.name == "runtime.NumGoroutine") = false ∧ fn.body.isNone = true ∧ Extern.findNext fn = none ∧ Extern.find fn = some e
theorem IsExt.run {P : Program} {f : FuncId} {e : Array Value → Sem Value} (h : IsExt P f e) (args : Array Value) (w : World) : (callFunc f args).run P w = ((e args).run P w).andThen fun v w' => .ok (.value v) w' := by
  obtain ⟨fn, h1, h2, h3, h4, h5⟩ := h
  exact run_callFunc_extern h1 h2 h3 h4 h5 args w
theorem RelVs.nil {g : G} {vs : List Value} (h : RelVs g [] vs) : vs = [] := by
  have := h.1
  cases vs with
  | nil => rfl
  | cons => simp at this
theorem RelVs.cons {g : G} {x : AV} {xs : List AV} {vs : List Value} (h : RelVs g (x :: xs) vs) : ∃ v us, vs = v :: us ∧ RelV g x v ∧ RelVs g xs us := by
  obtain ⟨h1, h2⟩ := h
  cases vs with
  | nil => simp at h1
  | cons v us => exact ⟨v, us, rfl, h2 0 x v rfl rfl, by simpa using h1, fun i y u hy hu => h2 (i + 1) y u (by simpa using hy) (by simpa using hu)⟩
theorem RelV.two {g : G} {x y : AV} {v u : Value} (h : RelV g x v) (k : RelV g y u) : RelV g (.tuple [x, y]) (.tuple #[v, u]) := by
  refine .tuple _ _ rfl fun i c z hc hz => ?_
  match i with
  | 0 => simp at hc hz; subst hc; subst hz; exact h
  | 1 => simp at hc hz; subst hc; subst hz; exact k
  | _ + 2 => simp at hc
section
variable {P : Program} {env : Env} {H : Heap} {dst : Option Tmp} {ty : TypeId} {pos : String} {af : Array Edge} {gd : Option (Nat × Bool)}
theorem step_ext {f : FuncId} {e : Array Value → Sem Value} {os : Array Operand} {xs : List AV} {ts : Array TypeId} {r : AV} (he : IsExt P f e) (ha : Evs env os.toList xs)
    (h : ∀ g vs w, RelVs g xs vs → ∃ v, (e vs.toArray).run P w = .ok v w ∧ RelV g r v) : AStep P ⟨dst, .call { callee := .value (.func f), args := os, argTypes := ts }, ty, pos, af, gd⟩ env H (fun y H' => y = r ∧ H' = H) := by
  intro g n a w ka st
  have hr := ha.rel ka
  obtain ⟨v, hrun, hv⟩ := h g _ w hr
  have e2 : (os.toList.map a.eval).toArray = os.map a.eval := by apply Array.ext'; simp
  rw [e2] at hrun
  have : (execOp a.eval ⟨dst, .call { callee := .value (.func f), args := os, argTypes := ts }, ty, pos, af, gd⟩).run P w = .ok (.value v) w := by
    have := he.run (os.map a.eval) w
    rw [hrun] at this
    simp [execOp, resolve, Deferred.ofValue, invoke]
    have e3 : a.eval (.func f) = .func (.func f) #[] #[] := rfl
    simp [e3, this]
  rw [this]
  exact ⟨g, r, H, .id, hv, st, rfl, rfl⟩
theorem ext_cmp {s t : List UInt8} : ∀ g vs w, RelVs g [.str s, .str t] vs → ∃ v, (Extern.BytealgCompare.compare vs.toArray).run P w = .ok v w ∧ RelV g (.int .i64 (Lib.compareBytes s t)) v := by
  intro g vs w hr
  obtain ⟨v, us, rfl, h1, hr⟩ := hr.cons
  obtain ⟨u, us, rfl, h2, hr⟩ := hr.cons
  cases hr.nil
  cases h1; cases h2
  exact ⟨_, Lib.run_compareString _ _ _, .int _ _⟩
theorem ext_indexByte {s : List UInt8} {c : Int} : ∀ g vs w, RelVs g [.str s, .int .u8 c] vs → ∃ v, (Extern.BytealgIndexByte.indexByte vs.toArray).run P w = .ok v w ∧ RelV g (.int .i64 (Lib.indexByte s c.toNat.toUInt8)) v := by
  intro g vs w hr
  obtain ⟨v, us, rfl, h1, hr⟩ := hr.cons
  obtain ⟨u, us, rfl, h2, hr⟩ := hr.cons
  cases hr.nil
  cases h1; cases h2
  exact ⟨_, Lib.run_indexByteString _ _ _, .int _ _⟩
/-- Parts that lie side by side and are all there. -/
def seqFill : List (Nat × Nat) → Nat → Nat → List (Nat × AV) → Option (List AV)
  | [], _, _, [] => some []
  | (off, size) :: pl, k, o, (i, x) :: qs => if off = o ∧ i = k ∧ x.cells.length = size then (seqFill pl (k + 1) (o + size) qs).map (x.cells ++ ·) else none
  | _, _, _, _ => none
theorem fillA_seq {places : List (Nat × Nat)} {zs : List AV} : ∀ (pl : List (Nat × Nat)) (k : Nat) (pre cs : List AV) (qs : List (Nat × AV)), places.drop k = pl → seqFill pl k pre.length qs = some cs → pre.length + cs.length = zs.length →
    fillA (places[·]?) (pre ++ zs.drop pre.length) qs = some (pre ++ cs)
  | [], k, pre, cs, [], _, h, hl => by
    simp only [seqFill, Option.some.injEq] at h
    subst h
    simp only [List.length_nil, Nat.add_zero] at hl
    rw [hl]; simp [fillA]
  | [], k, pre, cs, q :: qs, _, h, _ => by simp [seqFill] at h
  | p :: pl, k, pre, cs, [], _, h, _ => by simp [seqFill] at h
  | (off, size) :: pl, k, pre, cs, (i, x) :: qs, hp, h, hl => by
    simp only [seqFill] at h
    split at h
    · rename_i hc
      obtain ⟨rfl, rfl, hs⟩ := hc
      obtain ⟨ds, hd, rfl⟩ := Option.map_eq_some_iff.1 h
      have hpl : places[i]? = some (pre.length, size) := by
        have := congrArg (·[0]?) hp
        simpa using this
      simp only [fillA, hpl]
      simp only [List.length_append] at hl
      rw [if_pos ⟨hs, by simp; omega⟩]
      have e : putRow (pre ++ zs.drop pre.length) pre.length x.cells = (pre ++ x.cells) ++ zs.drop (pre ++ x.cells).length := by
        simp [putRow, List.drop_append]
      rw [e]
      have := fillA_seq (zs := zs) pl (i + 1) (pre ++ x.cells) ds qs (by rw [← List.drop_drop, hp]; rfl) (by rw [List.length_append, hs]; exact hd) (by simp; omega)
      rw [this, List.append_assoc]
    · cases h
theorem pure_buildS {T : TypeId} {fs : Array Field} {ops : List (Nat × Operand)} {qs : List (Nat × AV)} {z : Value} {zs cs : List AV} (places : List (Nat × Nat)) (hu : P.underlying T = some (.struct fs)) (hz : ∀ w, (zeroValue T).run P w = .ok z w)
    (hzr : ∀ g, RelCells g zs z.cells) (hp : fs.toList.map (·.offset) = places.map (·.1)) (hs : ∀ (i : Nat) f p, fs[i]? = some f → places[i]? = some p → ∀ w, (sizeOf f.type).run P w = .ok p.2 w)
    (hq : Parts env ops qs) (hf : seqFill places 0 0 qs = some cs) (hl : Nat.beq cs.length zs.length = true) : APure P ⟨dst, .build T ops.toArray, ty, pos, af, gd⟩ env (.agg cs) :=
  pure_build places hu hz hzr hp hs hq (by
    have := fillA_seq (places := places) (zs := zs) places 0 [] cs qs rfl hf (by have := Nat.eq_of_beq_eq_true hl; simpa using this)
    simpa using this)
/-- A cell of memory that was there before, and holds what it held. -/
theorem step_loadK {T : TypeId} {x : Operand} {b o : Nat} {c : AV} (ha : ∀ w, (isAgg T).run P w = .ok false w) (hx : Ev env x (.ptr (some ⟨b, o, none⟩))) (hk : ∀ W, Inv W → ∃ v, W.cell? ⟨b, o, none⟩ = some v ∧ ∀ g, RelV g c v) :
    AStep P ⟨dst, .load T x, ty, pos, af, gd⟩ env H (fun y H' => y = c ∧ H' = H) := by
  intro g n a w ka s
  obtain ⟨v, he, hv⟩ := ev1 hx ka
  cases hv
  obtain ⟨u, hu, hr⟩ := hk _ g.hinv
  have hlt : b < g.base.heap.size := World.block_lt_of_cell? _ (a := ⟨b, o, none⟩) hu
  have hu' : w.cell? ⟨b, o, none⟩ = some u := by rw [World.cell?_of_block (w := g.base) (s.below.block b hlt)]; exact hu
  have : (execOp a.eval ⟨dst, .load T x, ty, pos, af, gd⟩).run P w = .ok (.value u) w := by simp [execOp, he, Instr.loadAt, Instr.sureAddr, loadVar, ha, hu']
  rw [this]
  exact ⟨g, c, H, .id, hr g, s, rfl, rfl⟩
end
end Go.Proofs.YtncoklpecffokaaGreatDoor
