/-
  The frame, part 4: the single operations that ask nothing of memory that may turn.
-/
import Derived.Test.YtncoklpecffokaaGreatDoorSc
namespace Go.Proofs.YtncoklpecffokaaGreatDoor
open Go Go.RowKit

/-- The lesser, the greater number. -/
def imin (a b : Int) : Int := if b < a then b else a
def imax (a b : Int) : Int := if a < b then b else a
theorem G.le.id {g : G} : g.le g := G.le.refl g

section
variable {P : Program} {env : Env} {dst : Option Tmp} {ty : TypeId} {pos : String} {af : Array Edge} {gd : Option (Nat × Bool)}

theorem ev_int {k : IntKind} {n : Int} : Ev env (.const (.int k n)) (.int k n) := .const _ _ fun _ => .int k n
theorem ev_bool {b : Bool} : Ev env (.const (.bool b)) (.bool b) := .const _ _ fun _ => .bool b
theorem ev_nil {sz : Nat} {tl : Tail} : Ev env (.const (.slice none 0 0)) (.slice sz [] tl) := .const _ _ fun _ => .nilSlice sz tl
theorem ev_nilptr : Ev env (.const (.pointer none)) (.ptr none) := .const _ _ fun _ => .ptr none

theorem pure_of {o : Oper} {x : AV} (h : ∀ g n a, RelAct g n env a → ∃ v, RelV g x v ∧ ∀ w, (∀ b k u, g.imm b k = some u → w.cell? ⟨b, k, none⟩ = some u) → (execOp a.eval o).run P w = .ok (.value v) w) : APure P o env x := h

theorem pure_move {x : Operand} {y : AV} (h : Ev env x y) : APure P ⟨dst, .move x, ty, pos, af, gd⟩ env y :=
  fun _ _ a k => ⟨a.eval x, h.rel k, fun _ _ => rfl⟩
theorem pure_assign {x : Operand} {y : AV} (h : Ev env x y) : APure P ⟨dst, .assign x, ty, pos, af, gd⟩ env y :=
  fun _ _ a k => ⟨a.eval x, h.rel k, fun _ _ => rfl⟩
theorem pure_pick {c x y : Operand} {t : Bool} {z : AV} (hc : Ev env c (.bool t)) (hx : t = true → Ev env x z) (hy : t = false → Ev env y z) : APure P ⟨dst, .pick c x y, ty, pos, af, gd⟩ env z := by
  intro g n a k
  have hv := hc.rel k
  generalize he : a.eval c = v at hv
  cases hv
  cases t with
  | true => exact ⟨a.eval x, (hx rfl).rel k, fun w _ => by simp [execOp, he, asBool]⟩
  | false => exact ⟨a.eval y, (hy rfl).rel k, fun w _ => by simp [execOp, he, asBool]⟩

/-! integers -/
theorem pure_int2 {op : BinOp} {T T' : TypeId} {x y : Operand} {k : IntKind} {m q : Int} {r : AV} (hx : Ev env x (.int k m)) (hy : Ev env y (.int k q))
    (h : ∀ g, ∃ v, RelV g r v ∧ ∀ w, (binOp op T (.int k m) (.int k q)).run P w = .ok v w) : APure P ⟨dst, .binOp op T x y T', ty, pos, af, gd⟩ env r := by
  intro g n a ka
  have hv := hx.rel ka
  have hu := hy.rel ka
  generalize he : a.eval x = v at hv
  generalize hf : a.eval y = u at hu
  cases hv; cases hu
  obtain ⟨r, h1, h2⟩ := h g
  refine ⟨r, h1, fun w _ => ?_⟩
  simp only [execOp, he, hf]
  have hg : (eqGuard op T x y (.int k m) (.int k q)).run P w = .ok () w := by cases op <;> rfl
  simp [hg, h2]
theorem pure_addW {T T' : TypeId} {x y : Operand} {k : IntKind} {m q : Int} (hx : Ev env x (.int k m)) (hy : Ev env y (.int k q)) : APure P ⟨dst, .binOp .add T x y T', ty, pos, af, gd⟩ env (.int k (k.wrap (m + q))) :=
  pure_int2 hx hy fun _ => ⟨_, .int _ _, fun w => by simp [binOp, Op.intArith]⟩
theorem pure_subW {T T' : TypeId} {x y : Operand} {k : IntKind} {m q : Int} (hx : Ev env x (.int k m)) (hy : Ev env y (.int k q)) : APure P ⟨dst, .binOp .sub T x y T', ty, pos, af, gd⟩ env (.int k (k.wrap (m - q))) :=
  pure_int2 hx hy fun _ => ⟨_, .int _ _, fun w => by simp [binOp, Op.intArith]⟩
theorem pure_mulW {T T' : TypeId} {x y : Operand} {k : IntKind} {m q : Int} (hx : Ev env x (.int k m)) (hy : Ev env y (.int k q)) : APure P ⟨dst, .binOp .mul T x y T', ty, pos, af, gd⟩ env (.int k (k.wrap (m * q))) :=
  pure_int2 hx hy fun _ => ⟨_, .int _ _, fun w => by simp [binOp, Op.intArith]⟩
theorem wrap_of {k : IntKind} {n : Int} (h1 : k.min ≤ n) (h2 : n ≤ k.max) : k.wrap n = n := by
  cases k <;> simp only [IntKind.wrap, IntKind.min, IntKind.max, IntKind.bits, IntKind.signed] at * <;> simp at * <;> omega
theorem pure_add {T T' : TypeId} {x y : Operand} {m q : Int} (hx : Ev env x (.int .i64 m)) (hy : Ev env y (.int .i64 q)) (h : -9223372036854775808 ≤ m + q ∧ m + q ≤ 9223372036854775807) :
    APure P ⟨dst, .binOp .add T x y T', ty, pos, af, gd⟩ env (.int .i64 (m + q)) := by
  have := pure_addW (P := P) (dst := dst) (T := T) (T' := T') (ty := ty) (pos := pos) (af := af) (gd := gd) hx hy
  rwa [wrap_of (k := .i64) h.1 h.2] at this
theorem pure_sub {T T' : TypeId} {x y : Operand} {m q : Int} (hx : Ev env x (.int .i64 m)) (hy : Ev env y (.int .i64 q)) (h : -9223372036854775808 ≤ m - q ∧ m - q ≤ 9223372036854775807) :
    APure P ⟨dst, .binOp .sub T x y T', ty, pos, af, gd⟩ env (.int .i64 (m - q)) := by
  have := pure_subW (P := P) (dst := dst) (T := T) (T' := T') (ty := ty) (pos := pos) (af := af) (gd := gd) hx hy
  rwa [wrap_of (k := .i64) h.1 h.2] at this
theorem pure_mul {T T' : TypeId} {x y : Operand} {m q : Int} (hx : Ev env x (.int .i64 m)) (hy : Ev env y (.int .i64 q)) (h : -9223372036854775808 ≤ m * q ∧ m * q ≤ 9223372036854775807) :
    APure P ⟨dst, .binOp .mul T x y T', ty, pos, af, gd⟩ env (.int .i64 (m * q)) := by
  have := pure_mulW (P := P) (dst := dst) (T := T) (T' := T') (ty := ty) (pos := pos) (af := af) (gd := gd) hx hy
  rwa [wrap_of (k := .i64) h.1 h.2] at this
theorem pure_rem {T T' : TypeId} {x y : Operand} {k : IntKind} {m q : Int} (hx : Ev env x (.int k m)) (hy : Ev env y (.int k q)) (h : q ≠ 0) : APure P ⟨dst, .binOp .rem T x y T', ty, pos, af, gd⟩ env (.int k (m.tmod q)) :=
  pure_int2 hx hy fun _ => ⟨_, .int _ _, fun w => by simp [binOp, Op.intDiv, h]⟩
theorem pure_quoW {T T' : TypeId} {x y : Operand} {k : IntKind} {m q : Int} (hx : Ev env x (.int k m)) (hy : Ev env y (.int k q)) (h : q ≠ 0) : APure P ⟨dst, .binOp .quo T x y T', ty, pos, af, gd⟩ env (.int k (k.wrap (m.tdiv q))) :=
  pure_int2 hx hy fun _ => ⟨_, .int _ _, fun w => by simp [binOp, Op.intDiv, h]⟩
theorem pure_quo {T T' : TypeId} {x y : Operand} {m q : Int} (hx : Ev env x (.int .i64 m)) (hy : Ev env y (.int .i64 q)) (hm : -9223372036854775808 ≤ m ∧ m ≤ 9223372036854775807) (h : 1 ≤ q) :
    APure P ⟨dst, .binOp .quo T x y T', ty, pos, af, gd⟩ env (.int .i64 (m.tdiv q)) := by
  have := pure_quoW (P := P) (dst := dst) (T := T) (T' := T') (ty := ty) (pos := pos) (af := af) (gd := gd) hx hy (by omega)
  have h1 : (m.tdiv q).natAbs ≤ m.natAbs := by rw [Int.natAbs_tdiv]; exact Nat.div_le_self _ _
  rwa [wrap_of (k := .i64) (n := m.tdiv q) (by
    show (-9223372036854775808 : Int) ≤ _
    rcases Int.le_total 0 m with h0 | h0
    · have := Int.tdiv_nonneg h0 (by omega : 0 ≤ q); omega
    · omega) (by
    show _ ≤ (9223372036854775807 : Int)
    rcases Int.le_total 0 m with h0 | h0
    · omega
    · have := Int.tdiv_nonneg (by omega : 0 ≤ -m) (by omega : 0 ≤ q); rw [Int.neg_tdiv] at this; omega)] at this
theorem pure_lss {T T' : TypeId} {x y : Operand} {k : IntKind} {m q : Int} (hx : Ev env x (.int k m)) (hy : Ev env y (.int k q)) : APure P ⟨dst, .binOp .lss T x y T', ty, pos, af, gd⟩ env (.bool (decide (m < q))) :=
  pure_int2 hx hy fun _ => ⟨_, .bool _, fun w => by simp [binOp, Op.intCmp]⟩
theorem pure_leq {T T' : TypeId} {x y : Operand} {k : IntKind} {m q : Int} (hx : Ev env x (.int k m)) (hy : Ev env y (.int k q)) : APure P ⟨dst, .binOp .leq T x y T', ty, pos, af, gd⟩ env (.bool (decide (m ≤ q))) :=
  pure_int2 hx hy fun _ => ⟨_, .bool _, fun w => by simp [binOp, Op.intCmp]⟩
theorem pure_gtr {T T' : TypeId} {x y : Operand} {k : IntKind} {m q : Int} (hx : Ev env x (.int k m)) (hy : Ev env y (.int k q)) : APure P ⟨dst, .binOp .gtr T x y T', ty, pos, af, gd⟩ env (.bool (decide (q < m))) :=
  pure_int2 hx hy fun _ => ⟨_, .bool _, fun w => by simp [binOp, Op.intCmp]⟩
theorem pure_geq {T T' : TypeId} {x y : Operand} {k : IntKind} {m q : Int} (hx : Ev env x (.int k m)) (hy : Ev env y (.int k q)) : APure P ⟨dst, .binOp .geq T x y T', ty, pos, af, gd⟩ env (.bool (decide (q ≤ m))) :=
  pure_int2 hx hy fun _ => ⟨_, .bool _, fun w => by simp [binOp, Op.intCmp]⟩
theorem pure_eql {T T' : TypeId} {x y : Operand} {k : IntKind} {m q : Int} (hx : Ev env x (.int k m)) (hy : Ev env y (.int k q)) : APure P ⟨dst, .binOp .eql T x y T', ty, pos, af, gd⟩ env (.bool (decide (m = q))) :=
  pure_int2 hx hy fun _ => ⟨_, .bool _, fun w => by simp [binOp, Op.intCmp]; rfl⟩
theorem pure_neq {T T' : TypeId} {x y : Operand} {k : IntKind} {m q : Int} (hx : Ev env x (.int k m)) (hy : Ev env y (.int k q)) : APure P ⟨dst, .binOp .neq T x y T', ty, pos, af, gd⟩ env (.bool (decide (m ≠ q))) :=
  pure_int2 hx hy fun _ => ⟨_, .bool _, fun w => by simp [binOp, Op.intCmp, bne]; rfl⟩
theorem pure_not {T : TypeId} {x : Operand} {b : Bool} (hx : Ev env x (.bool b)) : APure P ⟨dst, .unOp .not T x, ty, pos, af, gd⟩ env (.bool !b) := by
  intro g n a ka
  have hv := hx.rel ka
  generalize he : a.eval x = v at hv
  cases hv
  exact ⟨_, .bool _, fun w _ => by simp [execOp, he, Op.unary]⟩
theorem pure_negW {T : TypeId} {x : Operand} {k : IntKind} {m : Int} (hx : Ev env x (.int k m)) : APure P ⟨dst, .unOp .neg T x, ty, pos, af, gd⟩ env (.int k (k.wrap (0 - m))) := by
  intro g n a ka
  have hv := hx.rel ka
  generalize he : a.eval x = v at hv
  cases hv
  exact ⟨_, .int _ _, fun w _ => by simp [execOp, he, Op.unary, Op.intArith]⟩
theorem pure_neg {T : TypeId} {x : Operand} {m : Int} (hx : Ev env x (.int .i64 m)) (h : -9223372036854775807 ≤ m ∧ m ≤ 9223372036854775807) : APure P ⟨dst, .unOp .neg T x, ty, pos, af, gd⟩ env (.int .i64 (-m)) := by
  have := pure_negW (P := P) (dst := dst) (T := T) (ty := ty) (pos := pos) (af := af) (gd := gd) hx
  rwa [wrap_of (k := .i64) (n := 0 - m) (by show (-9223372036854775808 : Int) ≤ _; omega) (by show _ ≤ (9223372036854775807 : Int); omega), show (0 : Int) - m = -m by omega] at this

/-! len -/
theorem ev1 {x : Operand} {y : AV} (hx : Ev env x y) {g : G} {n : Nat} {a : Act} (ka : RelAct g n env a) : ∃ v, a.eval x = v ∧ RelV g y v := ⟨_, rfl, hx.rel ka⟩
theorem execCall_builtin (ρ : Operand → Value) (b : Builtin) (args : Array Operand) (ats : Array TypeId) :
    execOp ρ ⟨dst, .call { callee := .builtin b, args := args, argTypes := ats }, ty, pos, af, gd⟩ = builtin b ats ty (args.map fun | .const _ => true | _ => false) (args.map ρ) := rfl
theorem pure_lenS {T E : TypeId} {x : Operand} {sz : Nat} {xs : List AV} {tl : Tail} (hu : P.underlying T = some (.slice E)) (hx : Ev env x (.slice sz xs tl)) :
    APure P ⟨dst, .call { callee := .builtin .len, args := #[x], argTypes := #[T] }, ty, pos, af, gd⟩ env (.int .i64 xs.length) := by
  intro g n a ka
  obtain ⟨v, he, hv⟩ := ev1 hx ka
  have hu' : ∀ w, (underlying T).run P w = .ok (.slice E) w := fun w => by simp [underlying, hu]
  cases hv with
  | nilSlice => exact ⟨_, .int _ _, fun w _ => by simp [execCall_builtin, builtin, Builtin.len_, he, hu', goInt]⟩
  | voidSlice => exact ⟨_, .int _ _, fun w _ => by simp [execCall_builtin, builtin, Builtin.len_, he, hu', goInt]⟩
  | slice => exact ⟨_, .int _ _, fun w _ => by simp [execCall_builtin, builtin, Builtin.len_, he, hu', goInt]⟩
theorem pure_lenM {T E : TypeId} {x : Operand} {p : Option Addr} {l c : Nat} (hu : P.underlying T = some (.slice E)) (hx : Ev env x (.mslice p l c)) :
    APure P ⟨dst, .call { callee := .builtin .len, args := #[x], argTypes := #[T] }, ty, pos, af, gd⟩ env (.int .i64 l) := by
  intro g n a ka
  obtain ⟨v, he, hv⟩ := ev1 hx ka
  have hu' : ∀ w, (underlying T).run P w = .ok (.slice E) w := fun w => by simp [underlying, hu]
  cases hv
  exact ⟨_, .int _ _, fun w _ => by simp [execCall_builtin, builtin, Builtin.len_, he, hu', goInt]⟩
theorem pure_lenStr {T : TypeId} {x : Operand} {s : List UInt8} (hu : P.underlying T = some .string) (hx : Ev env x (.str s)) :
    APure P ⟨dst, .call { callee := .builtin .len, args := #[x], argTypes := #[T] }, ty, pos, af, gd⟩ env (.int .i64 s.length) := by
  intro g n a ka
  obtain ⟨v, he, hv⟩ := ev1 hx ka
  have hu' : ∀ w, (underlying T).run P w = .ok .string w := fun w => by simp [underlying, hu]
  cases hv
  exact ⟨_, .int _ _, fun w _ => by simp [execCall_builtin, builtin, Builtin.len_, he, hu', goInt]; rfl⟩
theorem pure_min2 {ts : Array TypeId} {x y : Operand} {k : IntKind} {m q : Int} (hx : Ev env x (.int k m)) (hy : Ev env y (.int k q)) :
    APure P ⟨dst, .call { callee := .builtin .min, args := #[x, y], argTypes := ts }, ty, pos, af, gd⟩ env (.int k (imin m q)) := by
  intro g n a ka
  obtain ⟨v, he, hv⟩ := ev1 hx ka
  obtain ⟨u, hf, hu⟩ := ev1 hy ka
  cases hv; cases hu
  exact ⟨_, .int _ _, fun w _ => by simp [execCall_builtin, builtin, Builtin.min_, Builtin.min2, he, hf, imin]⟩
theorem pure_max2 {ts : Array TypeId} {x y : Operand} {k : IntKind} {m q : Int} (hx : Ev env x (.int k m)) (hy : Ev env y (.int k q)) :
    APure P ⟨dst, .call { callee := .builtin .max, args := #[x, y], argTypes := ts }, ty, pos, af, gd⟩ env (.int k (imax m q)) := by
  intro g n a ka
  obtain ⟨v, he, hv⟩ := ev1 hx ka
  obtain ⟨u, hf, hu⟩ := ev1 hy ka
  cases hv; cases hu
  exact ⟨_, .int _ _, fun w _ => by simp [execCall_builtin, builtin, Builtin.max_, Builtin.max2, he, hf, imax]⟩
end

end Go.Proofs.YtncoklpecffokaaGreatDoor
