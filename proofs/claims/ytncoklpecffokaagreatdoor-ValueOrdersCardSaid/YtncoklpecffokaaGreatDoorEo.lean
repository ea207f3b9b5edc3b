/-
  The evaluator of closed calls, part 15: a call that was evaluated over the constants of memory alone comes to the same over any memory.
-/
import Derived.Test.YtncoklpecffokaaGreatDoorEn
namespace Go.Proofs.YtncoklpecffokaaGreatDoor.Cc
open Go Go.RowKit

mutual
/-- All names in it are such. -/
def V.within (p : Nat → Bool) : V → Bool
  | .ptr n _ => p n
  | .sl _ n _ _ => p n
  | .map n => p n
  | .func _ cs => V.withinL p cs
  | .iface _ v => V.within p v
  | .agg cs => V.withinL p cs
  | .tuple cs => V.withinL p cs
  | _ => true
def V.withinL (p : Nat → Bool) : List V → Bool
  | [] => true
  | x :: xs => V.within p x && V.withinL p xs
end
theorem withinL_get {p : Nat → Bool} : ∀ {cs : List V} {i : Nat} {c : V}, V.withinL p cs = true → cs[i]? = some c → V.within p c = true
  | [], i, c, _, h => by simp at h
  | x :: xs, 0, c, h, e => by
    simp only [V.withinL, Bool.and_eq_true] at h
    simp at e; subst e; exact h.1
  | x :: xs, i + 1, c, h, e => by
    simp only [V.withinL, Bool.and_eq_true] at h
    exact withinL_get h.2 (by simpa using e)
theorem RelV.within {g g' : G} {p : Nat → Bool} (hp : ∀ n, p n = true → g'.bn n = true ∧ g'.nm n = g.nm n ∧ g'.vs n = g.vs n) {x : V} {v : Value} (h : RelV g x v) : x.within p = true → RelV g' x v := by
  induction h with
  | bool b => intro _; exact .bool b
  | int k n => intro _; exact .int k n
  | str s hs => intro _; exact .str s hs
  | nilp => intro _; exact .nilp
  | ptr n o hn => intro hw; obtain ⟨h1, h2, _⟩ := hp n hw; rw [← h2]; exact .ptr n o h1
  | nilS => intro _; exact .nilS
  | voidS a => intro _; exact .voidS a
  | viewS a c hc => intro _; exact .viewS a c hc
  | sl sz n o len cap hn hv hl hc => intro hw; obtain ⟨h1, h2, h3⟩ := hp n hw; rw [← h2]; exact .sl sz n o len cap h1 (by rw [h3]; exact hv) hl hc
  | nilM => intro _; exact .nilM
  | map n hn => intro hw; obtain ⟨h1, h2, _⟩ := hp n hw; rw [← h2]; exact .map n h1
  | func f cs vs hn _ ih => intro hw; exact .func f cs vs hn fun i c v hc hv => ih i c v hc hv (withinL_get hw hc)
  | nilF => intro _; exact .nilF
  | iface t a v _ ih => intro hw; exact .iface t a v (ih hw)
  | nilI => intro _; exact .nilI
  | agg cs vs hn _ ih => intro hw; exact .agg cs vs hn fun i c v hc hv => ih i c v hc hv (withinL_get hw hc)
  | tuple cs vs hn _ ih => intro hw; exact .tuple cs vs hn fun i c v hc hv => ih i c v hc hv (withinL_get hw hc)
  | undef => intro _; exact .undef
def O.within (p : Nat → Bool) : O → Bool
  | .cells _ cs _ _ => V.withinL p cs
  | .map _ => false
  | _ => true
theorem ObjAt.within {g g' : G} {w : World} {n : Nat} {p : Nat → Bool} (hp : ∀ n, p n = true → g'.bn n = true ∧ g'.nm n = g.nm n ∧ g'.vs n = g.vs n) (hn : p n = true) {x : O} (h : ObjAt g w n x) (hw : x.within p = true) : ObjAt g' w n x := by
  obtain ⟨h1, h2, h3⟩ := hp n hn
  cases x with
  | gone => trivial
  | cells T cs ex ro =>
    obtain ⟨vs, fz, a1, a2, a3, a4, a5, a6⟩ := h
    exact ⟨vs, fz, by rw [h2]; exact a1, a2, by rw [h3]; exact a3, a4, a5, a6.1, fun i c v hc hv => (a6.2 i c v hc hv).within hp (withinL_get hw hc)⟩
  | map es => cases hw
  | iter s pos => show w.heap[g'.nm n]? = _; rw [h2]; exact h

/-- The constants of memory as a heap by themselves. -/
structure Consts (ng : Con) (h0 : Heap) : Prop where
  con : ∀ m, h0.get m = ng.con m
  top : ∀ m, h0.nn ≤ m → h0.get m = none
  has : ∀ b, b < ng.n → ∃ x, ng.con b = some x
  inn : ∀ m x, ng.con m = some x → x.within (fun k => (ng.con k).isSome) = true
section
variable {P : Program} {ng : Con} {h0 : Heap} (hC : Consts ng h0)
include hC
/-- The constants alone. -/
def G.alone (g : G) (w : World) (hg : g.ng = ng) (hinv : ng.inv w) : G where
  base := w
  ng := ng
  bn m := (ng.con m).isSome
  nm := g.nm
  vs := g.vs
  gl b hb := ⟨by obtain ⟨x, hx⟩ := hC.has b hb; rw [hx]; rfl, (g.gl b (by rw [hg]; exact hb)).2⟩
  hinv := hinv
theorem alone_sat {g : G} {H : Heap} {w : World} (hg : g.ng = ng) (s : Sat g H w) : Sat (g.alone hC w hg (hg ▸ s.inv)) h0 w := by
  have hcon : ∀ m x, ng.con m = some x → H.get m = some x := fun m x hx => s.con m x (by rw [hg]; exact hx)
  have hp : ∀ n, (ng.con n).isSome = true → (g.alone hC w hg (hg ▸ s.inv)).bn n = true ∧ (g.alone hC w hg (hg ▸ s.inv)).nm n = g.nm n ∧ (g.alone hC w hg (hg ▸ s.inv)).vs n = g.vs n := fun n hn => ⟨hn, rfl, rfl⟩
  refine { keep := Grow.refl w, fresh := hC.top, dom := fun n x hn => ?_, bn := fun n hn => ?_, at_ := fun n x hn => ?_, own := fun n x hn ho => ?_, lt := fun n x hn => ?_, inj := fun n n' x x' hn hn' ho => ?_, con := fun m x hm => ?_ }
  · rw [hC.con] at hn; show (ng.con n).isSome = true; rw [hn]; rfl
  · obtain ⟨x, hx⟩ := Option.isSome_iff_exists.1 hn; exact ⟨x, by rw [hC.con]; exact hx⟩
  · rw [hC.con] at hn
    exact (s.at_ n x (hcon n x hn)).within hp (by rw [hn]; rfl) (hC.inn n x hn)
  · rw [hC.con] at hn; rw [ng.ro n x hn] at ho; cases ho
  · rw [hC.con] at hn; exact s.lt n x (hcon n x hn)
  · rw [hC.con] at hn; rw [ng.ro n x hn] at ho; cases ho
  · rw [hC.con]; exact hm
theorem pure_call {f : FuncId} {xs : List V} {r : V} {H' : Heap} (h : OCall P ng f xs h0 r H') (hx : V.withinL (fun k => (ng.con k).isSome) xs = true) (hr : r.within (fun k => (ng.con k).isSome) = true) (H : Heap) : OCall P ng f xs H r H := by
  have arg : ∀ (g : G) (w : World) (hg : g.ng = ng) (s : Sat g H w) (vs : List Value), RelVs g xs vs → RelVs (g.alone hC w hg (hg ▸ s.inv)) xs vs := fun g w hg s vs hv =>
    ⟨hv.1, fun i x v h1 h2 => RelV.within (g := g) (g' := g.alone hC w hg (hg ▸ s.inv)) (p := fun k => (ng.con k).isSome) (fun n hn => ⟨hn, rfl, rfl⟩) (hv.2 i x v h1 h2) (withinL_get hx h1)⟩
  have back : ∀ (g : G) (w w' : World) (hg : g.ng = ng) (s : Sat g H w) (g' : G) (v : Value), (g.alone hC w hg (hg ▸ s.inv)).le g' → RelV g' r v → Sat g' H' w' → ∃ g', g.le g' ∧ RelV g' r v ∧ Sat g' H w' := fun g w w' hg s g' v hle hv s' => by
    refine ⟨g, G.le.refl g, RelV.within (g' := g) (p := fun k => (ng.con k).isSome) (fun n hn => ?_) hv hr, s.grows (by have := s'.keep; rw [hle.base] at this; exact this)⟩
    obtain ⟨x, hx⟩ := Option.isSome_iff_exists.1 hn
    have hbn : (g.alone hC w hg (hg ▸ s.inv)).bn n = true := hn
    exact ⟨s.dom n x (s.con n x (by rw [hg]; exact hx)), (hle.nm n hbn).symm, (hle.vs n hbn).symm⟩
  rcases h with ⟨hcall, hent⟩ | hval
  · refine .inl ⟨fun g vs w hg hv s => Calls.mono (hcall _ vs w rfl (arg g w hg s vs hv) (alone_sat hC hg s)) ?_, hent⟩
    rintro e w' ⟨v, rfl, g', h1, h2, h3⟩
    exact ⟨v, rfl, back g w w' hg s g' v h1 h2 h3⟩
  · refine .inr fun g vs w hg hv s => ?_
    obtain ⟨v, w', hrun, g', h1, h2, h3⟩ := hval _ vs w rfl (arg g w hg s vs hv) (alone_sat hC hg s)
    exact ⟨v, w', hrun, back g w w' hg s g' v h1 h2 h3⟩
end

/-- A call that is known by its arguments. -/
def Handler.pure {P : Program} {ng : Con} (f : FuncId) (xs : List V) (r : V) (h : ∀ H, OCall P ng f xs H r H) : Handler P ng where
  f := f
  is ys := V.beqL ys xs
  run _ _ H := some (r, H)
  ok call _ _ ys H q H' hi e := by
    cases e
    rw [V.beqL_eq _ hi]
    exact h _
  ext call _ ys H q H' X H2 _ e k := by
    cases e
    exact ⟨H2, rfl, k⟩

end Go.Proofs.YtncoklpecffokaaGreatDoor.Cc
