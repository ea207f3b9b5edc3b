/-
  The evaluator of closed calls, part 14: calls whose contracts are known: a list of them; the machine's own answers (bytes, numbers of 64 bits, atomic cells).
-/
import Derived.Test.YtojblnldfdeefaaGreatDoorE5
import Derived.Lib.Bytealg
import Derived.Laws.Externs
import Derived.Laws.LoneSync
namespace Go.Proofs.YtojblnldfdeefaaGreatDoor.Cc
open Go Go.RowKit

structure Handler (P : Program) (ng : Con) where
  f : FuncId
  is : List V → Bool
  run : CallF → List V → Heap → Option (V × Heap)
  ok : ∀ call, CallOK P ng call → CallExt call → ∀ xs H r H', is xs = true → run call xs H = some (r, H') → OCall P ng f xs H r H'
  ext : ∀ call, CallExt call → ∀ xs H r H' X H2, is xs = true → run call xs H = some (r, H') → Ext X H H2 → ∃ H2', run call xs H2 = some (r, H2') ∧ Ext X H' H2'
def findH {P : Program} {ng : Con} (f : FuncId) (xs : List V) : List (Handler P ng) → Option (Handler P ng)
  | [] => none
  | h :: l => cond (Nat.beq h.f f && h.is xs) (some h) (findH f xs l)
def isH {P : Program} {ng : Con} (l : List (Handler P ng)) (f : FuncId) (xs : List V) : Bool := match findH f xs l with | some _ => true | none => false
def modH {P : Program} {ng : Con} (l : List (Handler P ng)) : CallF → CallF := fun call f xs H => match findH f xs l with | some h => h.run call xs H | none => none
theorem findH_spec {P : Program} {ng : Con} {f : FuncId} {xs : List V} : ∀ {l : List (Handler P ng)} {h : Handler P ng}, findH f xs l = some h → h.f = f ∧ h.is xs = true
  | [], h, e => by cases e
  | k :: l, h, e => by
    simp only [findH] at e
    cases hb : (Nat.beq k.f f && k.is xs) with
    | true =>
      rw [hb] at e
      cases e
      simp only [Bool.and_eq_true] at hb
      exact ⟨Nat.eq_of_beq_eq_true hb.1, hb.2⟩
    | false => rw [hb] at e; exact findH_spec e
theorem modH_ok {P : Program} {ng : Con} (l : List (Handler P ng)) : ModOK P ng (isH l) (modH l) := by
  intro call hc hx f xs H r H' _ h
  simp only [modH] at h
  split at h <;> first | (cases h; done) | skip
  rename_i k hk
  obtain ⟨rfl, h2⟩ := findH_spec hk
  exact k.ok call hc hx xs H r H' h2 h
theorem modH_ext {P : Program} {ng : Con} (l : List (Handler P ng)) : ModExt (isH l) (modH l) := by
  intro call hx f xs H r H' X H2 _ h e
  simp only [modH] at h ⊢
  split at h <;> first | (cases h; done) | skip
  rename_i k hk
  obtain ⟨rfl, h2⟩ := findH_spec hk
  exact k.ext call hx xs H r H' X H2 h2 h e

def IsExt (P : Program) (f : FuncId) (e : Array Value → Sem Value) : Prop :=
  ∃ fn, P.funcs[f]? = some fn ∧ (fn.name == "runtime.NumGoroutine") = false ∧ fn.body.isNone = true ∧ Extern.findNext fn = none ∧ Extern.find fn = some e
theorem IsExt.run {P : Program} {f : FuncId} {e : Array Value → Sem Value} (h : IsExt P f e) (args : Array Value) (w : World) : (callFunc f args).run P w = ((e args).run P w).andThen fun v w' => .ok (.value v) w' := by
  obtain ⟨fn, h1, h2, h3, h4, h5⟩ := h
  exact run_callFunc_extern h1 h2 h3 h4 h5 args w
theorem RelVs.nil {g : G} {vs : List Value} (h : RelVs g [] vs) : vs = [] := by
  have := h.1
  cases vs with
  | nil => rfl
  | cons => simp at this
theorem RelVs.cons {g : G} {x : V} {xs : List V} {vs : List Value} (h : RelVs g (x :: xs) vs) : ∃ v us, vs = v :: us ∧ RelV g x v ∧ RelVs g xs us := by
  have h1 := h.1
  cases vs with
  | nil => simp at h1
  | cons v us => exact ⟨v, us, rfl, h.2 0 x v rfl rfl, by simpa using h1, fun i y u hy hu => h.2 (i + 1) y u (by simpa using hy) (by simpa using hu)⟩

section
variable {P : Program} {ng : Con}
def Handler.value (f : FuncId) (run : List V → Option V) (e : Array Value → Sem Value) (he : IsExt P f e)
    (spec : ∀ xs r g vs w, run xs = some r → RelVs g xs vs → ∃ v, (e vs.toArray).run P w = .ok v w ∧ RelV g r v) : Handler P ng where
  f := f
  is _ := true
  run _ xs H := match run xs with | some r => some (r, H) | none => none
  ok call _ _ xs H r H' _ h := by
    split at h <;> first | (cases h; done) | skip
    rename_i y hy
    cases h
    refine .inr fun g vs w hg hr hs => ?_
    obtain ⟨v, hv, hrv⟩ := spec xs _ g vs w hy hr
    exact ⟨v, w, by rw [he.run, hv]; rfl, g, G.le.refl g, hrv, hs⟩
  ext call _ xs H r H' X H2 _ h k := by
    split at h <;> first | (cases h; done) | skip
    rename_i y hy
    cases h
    exact ⟨H2, rfl, k⟩

def runIndexByte : List V → Option V
  | [.str s, .int .u8 c] => some (.int .i64 (Lib.indexByte s c.toNat.toUInt8))
  | _ => none
def hIndexByte (f : FuncId) (he : IsExt P f Extern.BytealgIndexByte.indexByte) : Handler P ng := Handler.value f runIndexByte _ he <| by
  intro xs r g vs w h hr
  unfold runIndexByte at h
  split at h <;> first | (cases h; done) | skip
  cases h
  obtain ⟨v, us, rfl, h1, hr⟩ := hr.cons
  obtain ⟨u, us, rfl, h2, hr⟩ := hr.cons
  cases hr.nil
  cases h1 with
  | str s hs =>
  cases h2
  exact ⟨_, Lib.run_indexByteString _ _ _, .int _ _⟩
def runCount : List V → Option V
  | [.str s, .int .u8 c] => some (.int .i64 (Lib.countByte s c.toNat.toUInt8))
  | _ => none
def hCount (f : FuncId) (he : IsExt P f Extern.BytealgCount.count) : Handler P ng := Handler.value f runCount _ he <| by
  intro xs r g vs w h hr
  unfold runCount at h
  split at h <;> first | (cases h; done) | skip
  cases h
  obtain ⟨v, us, rfl, h1, hr⟩ := hr.cons
  obtain ⟨u, us, rfl, h2, hr⟩ := hr.cons
  cases hr.nil
  cases h1 with
  | str s hs =>
  cases h2
  exact ⟨_, Lib.run_countString _ _ _, .int _ _⟩
def runCmp : List V → Option V
  | [.str s, .str t] => some (.int .i64 (Lib.compareBytes s t))
  | _ => none
def hCmp (f : FuncId) (he : IsExt P f Extern.BytealgCompare.compare) : Handler P ng := Handler.value f runCmp _ he <| by
  intro xs r g vs w h hr
  unfold runCmp at h
  split at h <;> first | (cases h; done) | skip
  cases h
  obtain ⟨v, us, rfl, h1, hr⟩ := hr.cons
  obtain ⟨u, us, rfl, h2, hr⟩ := hr.cons
  cases hr.nil
  cases h1 with
  | str s hs =>
  cases h2 with
  | str t ht =>
  exact ⟨_, Lib.run_compareString _ _ _, .int _ _⟩
def runAdd64 : List V → Option V
  | [.int .u64 (.ofNat x), .int .u64 (.ofNat y), .int .u64 (.ofNat c)] => cond (Nat.ble c 1) (some (.tuple [.int .u64 (.ofNat (Nat.mod (x + y + c) 18446744073709551616)), .int .u64 (.ofNat (Nat.div (x + y + c) 18446744073709551616))])) none
  | _ => none
theorem RelV.two {g : G} {x y : V} {v u : Value} (h : RelV g x v) (k : RelV g y u) : RelV g (.tuple [x, y]) (.tuple #[v, u]) := by
  refine .tuple _ _ rfl fun i c z hc hz => ?_
  match i with
  | 0 => simp at hc hz; subst hc; subst hz; exact h
  | 1 => simp at hc hz; subst hc; subst hz; exact k
  | _ + 2 => simp at hc
def hAdd64 (f : FuncId) (he : IsExt P f add64Entry) : Handler P ng := Handler.value f runAdd64 _ he <| by
  intro xs r g vs w h hr
  unfold runAdd64 at h
  split at h <;> first | (cases h; done) | skip
  rename_i x y c
  obtain ⟨hb, h⟩ := cond_if h
  cases h
  obtain ⟨v, us, rfl, h1, hr⟩ := hr.cons
  obtain ⟨u, us, rfl, h2, hr⟩ := hr.cons
  obtain ⟨z, us, rfl, h3, hr⟩ := hr.cons
  cases hr.nil
  cases h1
  cases h2
  cases h3
  have hc := Nat.le_of_ble_eq_true hb
  have hrun := run_add64 (P := P) (Int.ofNat x) (Int.ofNat y) (Int.ofNat c) (Int.natCast_nonneg _) (Int.natCast_nonneg _) (Int.natCast_nonneg _) (by simp; omega) w
  refine ⟨_, hrun, RelV.two ?_ ?_⟩
  · exact RelV.int .u64 _
  · exact RelV.int .u64 _
def sub64E : Array Value → Sem Value := fun args => do
  let (x, y, b) ← Extern.MathBitsCarry.three "Sub64" args
  pure (Extern.MathBitsCarry.pair ((x + Extern.MathBitsCarry.m64 - y - b) % Extern.MathBitsCarry.m64) (if x < y + b then 1 else 0))
theorem run_sub64E (x y b : Nat) (hb : b ≤ 1) (w : World) :
    (sub64E #[.int .u64 x, .int .u64 y, .int .u64 b]).run P w = .ok (.tuple #[.int .u64 (((x + 18446744073709551616 - y - b) % 18446744073709551616 : Nat) : Int), .int .u64 ((if x < y + b then 1 else 0 : Nat) : Int)]) w := by
  have : b = 0 ∨ b = 1 := by omega
  rcases this with rfl | rfl <;> rfl
def runSub64 : List V → Option V
  | [.int .u64 (.ofNat x), .int .u64 (.ofNat y), .int .u64 (.ofNat c)] => cond (Nat.ble c 1) (some (.tuple [.int .u64 (.ofNat (Nat.mod (x + 18446744073709551616 - y - c) 18446744073709551616)), .int .u64 (.ofNat (if x < y + c then 1 else 0))])) none
  | _ => none
def hSub64 (f : FuncId) (he : IsExt P f sub64E) : Handler P ng := Handler.value f runSub64 _ he <| by
  intro xs r g vs w h hr
  unfold runSub64 at h
  split at h <;> first | (cases h; done) | skip
  rename_i x y c
  obtain ⟨hb, h⟩ := cond_if h
  cases h
  obtain ⟨v, us, rfl, h1, hr⟩ := hr.cons
  obtain ⟨u, us, rfl, h2, hr⟩ := hr.cons
  obtain ⟨z, us, rfl, h3, hr⟩ := hr.cons
  cases hr.nil
  cases h1
  cases h2
  cases h3
  have hc := Nat.le_of_ble_eq_true hb
  refine ⟨_, run_sub64E x y c hc w, RelV.two (RelV.int .u64 _) (RelV.int .u64 _)⟩
theorem RelV.none_ {g : G} : RelV g (.tuple []) (.tuple #[]) := .tuple [] #[] rfl fun i c v hc _ => by simp at hc
def runMark0 : List V → Option V
  | [] => some (.tuple [])
  | _ => none
def hMark0 (f : FuncId) (m : Mark) (he : IsExt P f (fun _ => do mark m; pure Extern.Race.none_)) : Handler P ng := Handler.value f runMark0 _ he <| by
  intro xs r g vs w h hr
  unfold runMark0 at h
  split at h <;> first | (cases h; done) | skip
  cases h
  cases hr.nil
  exact ⟨.tuple #[], rfl, RelV.none_⟩
def runMark1 : List V → Option V
  | [.ptr _ _] => some (.tuple [])
  | _ => none
def hMark1 (f : FuncId) (m : Addr → Mark) (he : IsExt P f (Extern.Race.marked m)) : Handler P ng := Handler.value f runMark1 _ he <| by
  intro xs r g vs w h hr
  unfold runMark1 at h
  split at h <;> first | (cases h; done) | skip
  cases h
  obtain ⟨v, us, rfl, h1, hr⟩ := hr.cons
  cases hr.nil
  cases h1
  exact ⟨.tuple #[], rfl, RelV.none_⟩
end

/-! ### atomic cells -/
section
variable {P : Program} {ng : Con}
theorem thaw_cell {w : World} {b o : Nat} {vs : Array Value} {T : TypeId} {fz : Nat × Nat} (h : w.heap[b]? = some (.cells vs T fz)) (ht : Thaw vs.size fz) (ho : o < vs.size) : w.frozen? ⟨b, o, none⟩ = false := by
  rcases ht with rfl | ht
  · simp [World.frozen?, h]
  · obtain ⟨lo, hi'⟩ := fz
    simp only [World.frozen?, h, Bool.and_eq_false_iff, decide_eq_false_iff_not]
    left
    simp only at ht
    omega
theorem store1 {g : G} {H : Heap} {w : World} (s : Sat g H w) {n o : Nat} {T : TypeId} {cs : List V} {x : V} {v : Value} {ex : Bool} (hn : H.get n = some (.cells T cs ex false)) (hr : RelV g x v) (h1 : x.one = true) (ho : o < cs.length) :
    (∃ u, w.cell? ⟨g.nm n, o, none⟩ = some u ∧ ∀ y, cs[o]? = some y → RelV g y u) ∧ w.frozen? ⟨g.nm n, o, none⟩ = false ∧ Sat g (H.set n (.cells T (putRow cs o [x]) ex false)) (w.setCell ⟨g.nm n, o, none⟩ v) := by
  obtain ⟨vs, fz, ⟨T', a1, aT⟩, a2, a3, a4, a5, a6⟩ := s.at_ _ _ hn
  have hov : o < vs.size := by omega
  have hc : w.cell? ⟨g.nm n, o, none⟩ = some vs[o] := cell_of a1 (by simp [hov])
  have hf := thaw_cell a1 (a2 rfl) hov
  obtain ⟨w', hrun, s'⟩ := store_at (P := default) (o := o) s hn (RelCells.one hr) (by simp [h1]) (by simp; omega)
  have e : w' = w.setCell ⟨g.nm n, o, none⟩ v := by
    have hadd : (⟨g.nm n, o, none⟩ : Addr).add 0 = ⟨g.nm n, o, none⟩ := by unfold Addr.add; split <;> simp_all
    have hst : (storeCells ⟨g.nm n, o, none⟩ #[v].toList).run (default : Program) w = .ok () (w.setCell ⟨g.nm n, o, none⟩ v) := by
      simp [storeCells, hadd, run_store (default : Program) w _ v _ (hr.oneCell h1), hc, hf]
    rw [hst] at hrun
    cases hrun
    rfl
  subst e
  refine ⟨⟨vs[o], hc, fun y hy => ?_⟩, hf, s'⟩
  exact a6.2 o y _ hy (by simp only [Array.getElem?_extract]; rw [if_pos (by omega)]; simp [hov])

noncomputable def runLoad (k : IntKind) (xs : List V) (H : Heap) : Option (V × Heap) := match xs with
  | [.ptr n o] => (match objCells H n with
    | some cs => (match cs[o]? with
      | some (.int k' x) => cond (decide (k' = k)) (some (.int k x, H)) none
      | _ => none)
    | none => none)
  | _ => none
noncomputable def hLoad (f : FuncId) (k : IntKind) (he : IsExt P f (Extern.Atomic.loadT (.int k))) : Handler P ng where
  f := f
  is _ := true
  run _ xs H := runLoad k xs H
  ok call _ _ xs H r H' _ h := by
    unfold runLoad at h
    split at h <;> first | (cases h; done) | skip
    rename_i n o
    split at h <;> first | (cases h; done) | skip
    rename_i cs hn
    split at h <;> first | (cases h; done) | skip
    rename_i k' x hx
    obtain ⟨hb, h⟩ := cond_if h
    have hk : k' = k := of_decide_eq_true hb
    subst hk
    cases h
    refine .inr fun g vs w hg hr hs => ?_
    obtain ⟨v, us, rfl, h1, hr⟩ := hr.cons
    cases hr.nil
    cases h1 with
    | ptr n o hb =>
      obtain ⟨S', ex, ro, hgt, _, vs, fz, ⟨T', q1, _⟩, q2, q3, q4, q5, q6⟩ := objCells_spec hs hn
      have ho : o < cs.length := (List.getElem?_eq_some_iff.1 hx).1
      have hrv := q6.2 o _ (vs[o]'(by omega)) hx (by simp only [Array.getElem?_extract]; rw [if_pos (by omega)]; simp)
      have hc := cell_of (w := w) (o := o) (v := vs[o]'(by omega)) q1 (by simp)
      generalize vs[o]'(by omega) = u at hrv hc
      cases hrv
      obtain ⟨fn, e1, e2, e3, e4, e5⟩ := he
      exact ⟨_, w, run_call_load e1 e2 e3 e4 k' e5 hc, g, G.le.refl g, .int _ _, hs⟩
  ext call _ xs H r H' X H2 _ h k := by
    unfold runLoad at h ⊢
    split at h <;> first | (cases h; done) | skip
    split at h <;> first | (cases h; done) | skip
    rename_i cs hn
    rw [k.cells hn]
    simp only
    split at h <;> first | (cases h; done) | skip
    rename_i hx
    obtain ⟨hb, h⟩ := cond_if h
    cases h
    simp only [hb, cond_true]
    exact ⟨_, rfl, k⟩
noncomputable def runStore (xs : List V) (H : Heap) : Option (V × Heap) := match xs with
  | [.ptr n o, .int k y] => (match H.get n with
    | some (.cells S cs ex false) => cond (Nat.blt o cs.length) (some (.tuple [], H.set n (.cells S (putRow cs o [.int k y]) ex false))) none
    | _ => none)
  | _ => none
noncomputable def hStore (f : FuncId) (he : IsExt P f Extern.Atomic.storeT) : Handler P ng where
  f := f
  is _ := true
  run _ xs H := runStore xs H
  ok call _ _ xs H r H' _ h := by
    unfold runStore at h
    split at h <;> first | (cases h; done) | skip
    rename_i n o k y
    split at h <;> first | (cases h; done) | skip
    rename_i S cs ex hn
    obtain ⟨hb, h⟩ := cond_if h
    cases h
    refine .inr fun g vs w hg hr hs => ?_
    obtain ⟨v, us, rfl, h1, hr⟩ := hr.cons
    obtain ⟨u, us, rfl, h2, hr⟩ := hr.cons
    cases hr.nil
    cases h1 with
    | ptr n o hbn =>
    cases h2
    obtain ⟨⟨z, hz, _⟩, hf, s'⟩ := store1 (o := o) hs hn (RelV.int k y) rfl (by simpa [Nat.blt_eq] using hb)
    obtain ⟨fn, e1, e2, e3, e4, e5⟩ := he
    exact ⟨_, _, run_call_store e1 e2 e3 e4 e5 hz hf, g, G.le.refl g, RelV.none_, s'⟩
  ext call _ xs H r H' X H2 _ h k := by
    unfold runStore at h ⊢
    split at h <;> first | (cases h; done) | skip
    rename_i n o kk y
    split at h <;> first | (cases h; done) | skip
    rename_i S cs ex hn
    obtain ⟨hb, h⟩ := cond_if h
    cases h
    simp only [k.get hn, hb, cond_true]
    exact ⟨_, rfl, k.set (k.free hn) _⟩
noncomputable def runCas (k : IntKind) (xs : List V) (H : Heap) : Option (V × Heap) := match xs with
  | [.ptr n o, .int k1 x, .int k2 y] => (match H.get n with
    | some (.cells S cs ex false) => (match cs[o]? with
      | some (.int k' x') => cond (decide (k' = k) && (decide (k1 = k) && (decide (k2 = k) && decide (x' = x)))) (some (.bool true, H.set n (.cells S (putRow cs o [.int k y]) ex false))) none
      | _ => none)
    | _ => none)
  | _ => none
noncomputable def hCas (f : FuncId) (k : IntKind) (he : IsExt P f (Extern.Atomic.casT (.int k))) : Handler P ng where
  f := f
  is _ := true
  run _ xs H := runCas k xs H
  ok call _ _ xs H r H' _ h := by
    unfold runCas at h
    split at h <;> first | (cases h; done) | skip
    rename_i n o k1 x k2 y
    split at h <;> first | (cases h; done) | skip
    rename_i S cs ex hn
    split at h <;> first | (cases h; done) | skip
    rename_i k' x' hx
    obtain ⟨hb, h⟩ := cond_if h
    cases h
    simp only [Bool.and_eq_true, decide_eq_true_eq] at hb
    obtain ⟨rfl, rfl, rfl, rfl⟩ := hb
    refine .inr fun g vs w hg hr hs => ?_
    obtain ⟨v, us, rfl, h1, hr⟩ := hr.cons
    obtain ⟨u, us, rfl, h2, hr⟩ := hr.cons
    obtain ⟨z, us, rfl, h3, hr⟩ := hr.cons
    cases hr.nil
    cases h1 with
    | ptr n o hbn =>
    cases h2
    cases h3
    have ho : o < cs.length := (List.getElem?_eq_some_iff.1 hx).1
    obtain ⟨⟨z, hz, hzr⟩, hf, s'⟩ := store1 (o := o) hs hn (RelV.int _ y) rfl ho
    have := hzr _ hx
    cases this
    obtain ⟨fn, e1, e2, e3, e4, e5⟩ := he
    exact ⟨_, _, run_call_cas_hit e1 e2 e3 e4 _ e5 hz hf, g, G.le.refl g, .bool _, s'⟩
  ext call _ xs H r H' X H2 _ h k := by
    unfold runCas at h ⊢
    split at h <;> first | (cases h; done) | skip
    split at h <;> first | (cases h; done) | skip
    rename_i S cs ex hn
    split at h <;> first | (cases h; done) | skip
    rename_i hx
    obtain ⟨hb, h⟩ := cond_if h
    cases h
    simp only [k.get hn, hx, hb, cond_true]
    exact ⟨_, rfl, k.set (k.free hn) _⟩
noncomputable def runDec (xs : List V) (H : Heap) : Option (V × Heap) := match xs with
  | [.ptr n o, .int .i32 d] => (match H.get n with
    | some (.cells S cs ex false) => (match cs[o]? with
      | some (.int .i32 x) => cond (decide (x = 1) && decide (d = -1)) (some (.int .i32 0, H.set n (.cells S (putRow cs o [.int .i32 0]) ex false))) none
      | _ => none)
    | _ => none)
  | _ => none
noncomputable def hDec (f : FuncId) (he : IsExt P f (Extern.Atomic.update (Op.intArith .add) .i32 true)) : Handler P ng where
  f := f
  is _ := true
  run _ xs H := runDec xs H
  ok call _ _ xs H r H' _ h := by
    unfold runDec at h
    split at h <;> first | (cases h; done) | skip
    rename_i n o d
    split at h <;> first | (cases h; done) | skip
    rename_i S cs ex hn
    split at h <;> first | (cases h; done) | skip
    rename_i x hx
    obtain ⟨hb, h⟩ := cond_if h
    simp only [Bool.and_eq_true, decide_eq_true_eq] at hb
    obtain ⟨rfl, rfl⟩ := hb
    cases h
    refine .inr fun g vs w hg hr hs => ?_
    obtain ⟨v, us, rfl, h1, hr⟩ := hr.cons
    obtain ⟨u, us, rfl, h2, hr⟩ := hr.cons
    cases hr.nil
    cases h1 with
    | ptr n o hbn =>
    cases h2
    have ho : o < cs.length := (List.getElem?_eq_some_iff.1 hx).1
    obtain ⟨⟨z, hz, hzr⟩, hf, s'⟩ := store1 (o := o) hs hn (RelV.int .i32 0) rfl ho
    have := hzr _ hx
    cases this
    obtain ⟨fn, e1, e2, e3, e4, e5⟩ := he
    exact ⟨_, _, run_call_add e1 e2 e3 e4 _ e5 hz hf rfl, g, G.le.refl g, .int _ _, s'⟩
  ext call _ xs H r H' X H2 _ h k := by
    unfold runDec at h ⊢
    split at h <;> first | (cases h; done) | skip
    split at h <;> first | (cases h; done) | skip
    rename_i S cs ex hn
    split at h <;> first | (cases h; done) | skip
    rename_i hx
    obtain ⟨hb, h⟩ := cond_if h
    cases h
    simp only [k.get hn, hx, hb, cond_true]
    exact ⟨_, rfl, k.set (k.free hn) _⟩
end

end Go.Proofs.YtojblnldfdeefaaGreatDoor.Cc

namespace Go.Proofs.YtojblnldfdeefaaGreatDoor.Cc
open Go Go.RowKit

mutual
def V.within (p : Nat → Bool) : V → Bool
  | .ptr n _ => p n
  | .sl _ n _ _ => p n
  | .map n => p n
  | .func _ cs => V.withinL p cs
  | .meth _ cs => V.withinL p cs
  | .iface _ v => V.within p v
  | .agg cs => V.withinL p cs
  | .tuple cs => V.withinL p cs
  | _ => true
def V.withinL (p : Nat → Bool) : List V → Bool
  | [] => true
  | x :: xs => V.within p x && V.withinL p xs
end
theorem withinL_get {p : Nat → Bool} : ∀ {cs : List V} {i : Nat} {c : V}, V.withinL p cs = true → cs[i]? = some c → V.within p c = true
  | [], i, c, _, h => by simp at h
  | x :: xs, 0, c, h, e => by
    simp only [V.withinL, Bool.and_eq_true] at h
    simp at e; subst e; exact h.1
  | x :: xs, i + 1, c, h, e => by
    simp only [V.withinL, Bool.and_eq_true] at h
    exact withinL_get h.2 (by simpa using e)
theorem RelV.within {g g' : G} {p : Nat → Bool} (hp : ∀ n, p n = true → g'.bn n = true ∧ g'.nm n = g.nm n ∧ g'.vs n = g.vs n) {x : V} {v : Value} (h : RelV g x v) : x.within p = true → RelV g' x v := by
  induction h with
  | bool b => intro _; exact .bool b
  | int k n => intro _; exact .int k n
  | str s hs => intro _; exact .str s hs
  | nilp => intro _; exact .nilp
  | ptr n o hn => intro hw; obtain ⟨h1, h2, _⟩ := hp n hw; rw [← h2]; exact .ptr n o h1
  | nilS => intro _; exact .nilS
  | voidS a => intro _; exact .voidS a
  | viewS a c hc => intro _; exact .viewS a c hc
  | sl sz n o len cap hn hv hl hc => intro hw; obtain ⟨h1, h2, h3⟩ := hp n hw; rw [← h2]; exact .sl sz n o len cap h1 (by rw [h3]; exact hv) hl hc
  | nilM => intro _; exact .nilM
  | map n hn => intro hw; obtain ⟨h1, h2, _⟩ := hp n hw; rw [← h2]; exact .map n h1
  | func f cs vs hn _ ih => intro hw; exact .func f cs vs hn fun i c v hc hv => ih i c v hc hv (withinL_get hw hc)
  | meth f cs vs hn _ ih => intro hw; exact .meth f cs vs hn fun i c v hc hv => ih i c v hc hv (withinL_get hw hc)
  | nilF => intro _; exact .nilF
  | iface t a v _ ih => intro hw; exact .iface t a v (ih hw)
  | nilI => intro _; exact .nilI
  | agg cs vs hn _ ih => intro hw; exact .agg cs vs hn fun i c v hc hv => ih i c v hc hv (withinL_get hw hc)
  | tuple cs vs hn _ ih => intro hw; exact .tuple cs vs hn fun i c v hc hv => ih i c v hc hv (withinL_get hw hc)
  | undef => intro _; exact .undef
def O.within (p : Nat → Bool) : O → Bool
  | .cells _ cs _ _ => V.withinL p cs
  | .map _ => false
  | _ => true
theorem ObjAt.within {g g' : G} {w : World} {n : Nat} {p : Nat → Bool} (hp : ∀ n, p n = true → g'.bn n = true ∧ g'.nm n = g.nm n ∧ g'.vs n = g.vs n) (hn : p n = true) {x : O} (h : ObjAt g w n x) (hw : x.within p = true) : ObjAt g' w n x := by
  obtain ⟨h1, h2, h3⟩ := hp n hn
  cases x with
  | gone => trivial
  | cells T cs ex ro =>
    obtain ⟨vs, fz, a1, a2, a3, a4, a5, a6⟩ := h
    exact ⟨vs, fz, by rw [h2]; exact a1, a2, by rw [h3]; exact a3, a4, a5, a6.1, fun i c v hc hv => (a6.2 i c v hc hv).within hp (withinL_get hw hc)⟩
  | map es => cases hw
  | iter s pos => show w.heap[g'.nm n]? = _; rw [h2]; exact h

structure Consts (ng : Con) (h0 : Heap) : Prop where
  con : ∀ m, h0.get m = ng.con m
  top : ∀ m, h0.nn ≤ m → h0.get m = none
  has : ∀ b, b < ng.n → ∃ x, ng.con b = some x
  inn : ∀ m x, ng.con m = some x → x.within (fun k => (ng.con k).isSome) = true
section
variable {P : Program} {ng : Con} {h0 : Heap} (hC : Consts ng h0)
include hC
def G.alone (g : G) (w : World) (hg : g.ng = ng) (hinv : ng.inv w) : G where
  base := w
  ng := ng
  bn m := (ng.con m).isSome
  nm := g.nm
  vs := g.vs
  gl b hb := ⟨by obtain ⟨x, hx⟩ := hC.has b hb; rw [hx]; rfl, (g.gl b (by rw [hg]; exact hb)).2⟩
  hinv := hinv
theorem alone_sat {g : G} {H : Heap} {w : World} (hg : g.ng = ng) (s : Sat g H w) : Sat (g.alone hC w hg (hg ▸ s.inv)) h0 w := by
  have hcon : ∀ m x, ng.con m = some x → H.get m = some x := fun m x hx => s.con m x (by rw [hg]; exact hx)
  have hp : ∀ n, (ng.con n).isSome = true → (g.alone hC w hg (hg ▸ s.inv)).bn n = true ∧ (g.alone hC w hg (hg ▸ s.inv)).nm n = g.nm n ∧ (g.alone hC w hg (hg ▸ s.inv)).vs n = g.vs n := fun n hn => ⟨hn, rfl, rfl⟩
  refine { keep := Grow.refl w, fresh := hC.top, dom := fun n x hn => ?_, bn := fun n hn => ?_, at_ := fun n x hn => ?_, own := fun n x hn ho => ?_, lt := fun n x hn => ?_, inj := fun n n' x x' hn hn' ho => ?_, con := fun m x hm => ?_ }
  · rw [hC.con] at hn; show (ng.con n).isSome = true; rw [hn]; rfl
  · obtain ⟨x, hx⟩ := Option.isSome_iff_exists.1 hn; exact ⟨x, by rw [hC.con]; exact hx⟩
  · rw [hC.con] at hn
    exact (s.at_ n x (hcon n x hn)).within hp (by rw [hn]; rfl) (hC.inn n x hn)
  · rw [hC.con] at hn; rw [ng.ro n x hn] at ho; cases ho
  · rw [hC.con] at hn; exact s.lt n x (hcon n x hn)
  · rw [hC.con] at hn; rw [ng.ro n x hn] at ho; cases ho
  · rw [hC.con]; exact hm
theorem pure_call {f : FuncId} {xs : List V} {r : V} {H' : Heap} (h : OCall P ng f xs h0 r H') (hx : V.withinL (fun k => (ng.con k).isSome) xs = true) (hr : r.within (fun k => (ng.con k).isSome) = true) (H : Heap) : OCall P ng f xs H r H := by
  have arg : ∀ (g : G) (w : World) (hg : g.ng = ng) (s : Sat g H w) (vs : List Value), RelVs g xs vs → RelVs (g.alone hC w hg (hg ▸ s.inv)) xs vs := fun g w hg s vs hv =>
    ⟨hv.1, fun i x v h1 h2 => RelV.within (g := g) (g' := g.alone hC w hg (hg ▸ s.inv)) (p := fun k => (ng.con k).isSome) (fun n hn => ⟨hn, rfl, rfl⟩) (hv.2 i x v h1 h2) (withinL_get hx h1)⟩
  have back : ∀ (g : G) (w w' : World) (hg : g.ng = ng) (s : Sat g H w) (g' : G) (v : Value), (g.alone hC w hg (hg ▸ s.inv)).le g' → RelV g' r v → Sat g' H' w' → ∃ g', g.le g' ∧ RelV g' r v ∧ Sat g' H w' := fun g w w' hg s g' v hle hv s' => by
    refine ⟨g, G.le.refl g, RelV.within (g' := g) (p := fun k => (ng.con k).isSome) (fun n hn => ?_) hv hr, s.grows (by have := s'.keep; rw [hle.base] at this; exact this)⟩
    obtain ⟨x, hx⟩ := Option.isSome_iff_exists.1 hn
    have hbn : (g.alone hC w hg (hg ▸ s.inv)).bn n = true := hn
    exact ⟨s.dom n x (s.con n x (by rw [hg]; exact hx)), (hle.nm n hbn).symm, (hle.vs n hbn).symm⟩
  rcases h with ⟨hcall, hent⟩ | hval
  · refine .inl ⟨fun g vs w hg hv s => Calls.mono (hcall _ vs w rfl (arg g w hg s vs hv) (alone_sat hC hg s)) ?_, hent⟩
    rintro e w' ⟨v, rfl, g', h1, h2, h3⟩
    exact ⟨v, rfl, back g w w' hg s g' v h1 h2 h3⟩
  · refine .inr fun g vs w hg hv s => ?_
    obtain ⟨v, w', hrun, g', h1, h2, h3⟩ := hval _ vs w rfl (arg g w hg s vs hv) (alone_sat hC hg s)
    exact ⟨v, w', hrun, back g w w' hg s g' v h1 h2 h3⟩
end

def Handler.pure {P : Program} {ng : Con} (f : FuncId) (xs : List V) (r : V) (h : ∀ H, OCall P ng f xs H r H) : Handler P ng where
  f := f
  is ys := V.beqL ys xs
  run _ _ H := some (r, H)
  ok call _ _ ys H q H' hi e := by
    cases e
    rw [V.beqL_eq _ hi]
    exact h _
  ext call _ ys H q H' X H2 _ e k := by
    cases e
    exact ⟨H2, rfl, k⟩

end Go.Proofs.YtojblnldfdeefaaGreatDoor.Cc

namespace Go.Proofs.YtojblnldfdeefaaGreatDoor.Cc
open Go Go.RowKit

mutual
theorem within_up {p q : Nat → Bool} (h : ∀ n, p n = true → q n = true) : ∀ x : V, x.within p = true → x.within q = true
  | .ptr n _, k => h n k
  | .sl _ n _ _, k => h n k
  | .map n, k => h n k
  | .func _ cs, k => within_upL h cs k
  | .meth _ cs, k => within_upL h cs k
  | .iface _ v, k => within_up h v k
  | .agg cs, k => within_upL h cs k
  | .tuple cs, k => within_upL h cs k
  | .bool _, _ | .int _ _, _ | .str _, _ | .nilp, _ | .nilS, _ | .voidS, _ | .viewS, _ | .nilM, _ | .nilF, _ | .nilI, _ | .undef, _ => rfl
theorem within_upL {p q : Nat → Bool} (h : ∀ n, p n = true → q n = true) : ∀ xs : List V, V.withinL p xs = true → V.withinL q xs = true
  | [], _ => rfl
  | x :: xs, k => by
    simp only [V.withinL, Bool.and_eq_true] at k ⊢
    exact ⟨within_up h x k.1, within_upL h xs k.2⟩
end
noncomputable def sets {α : Type} : List (Nat × α) → Tr α → Tr α
  | [], t => t
  | p :: l, t => sets l (t.set p.1 p.2)
theorem get_sets {α : Type} : ∀ (l : List (Nat × α)) (t : Tr α) (m : Nat) (x : α), (sets l t).get m = some x → (∃ p, p ∈ l ∧ p.1 = m ∧ p.2 = x) ∨ t.get m = some x
  | [], _, _, _, h => .inr h
  | p :: l, t, m, x, h => by
    rcases get_sets l _ m x h with ⟨q, h1, h2⟩ | h1
    · exact .inl ⟨q, List.mem_cons_of_mem _ h1, h2⟩
    · rw [Tr.get_set] at h1
      by_cases e : m = p.1
      · rw [if_pos e] at h1
        exact .inl ⟨p, List.mem_cons_self, e.symm, Option.some.inj h1⟩
      · rw [if_neg e] at h1; exact .inr h1
theorem has_sets {α : Type} : ∀ (l : List (Nat × α)) (t : Tr α) (m : Nat), ((∃ p, p ∈ l ∧ p.1 = m) ∨ ∃ x, t.get m = some x) → ∃ x, (sets l t).get m = some x
  | [], _, _, h => by
    rcases h with ⟨p, h1, _⟩ | h1
    · cases h1
    · exact h1
  | p :: l, t, m, h => by
    refine has_sets l _ m ?_
    rw [Tr.get_set]
    by_cases e : m = p.1
    · rw [if_pos e]; exact .inr ⟨_, rfl⟩
    · rw [if_neg e]
      rcases h with ⟨q, h1, h2⟩ | h1
      · rcases List.mem_cons.1 h1 with rfl | h3
        · exact absurd h2.symm e
        · exact .inl ⟨q, h3, h2⟩
      · exact .inr h1
theorem other_sets {α : Type} : ∀ (l : List (Nat × α)) (t : Tr α) (m : Nat), (∀ p, p ∈ l → p.1 ≠ m) → (sets l t).get m = t.get m
  | [], _, _, _ => rfl
  | p :: l, t, m, h => by
    show (sets l _).get m = _
    rw [other_sets l _ m fun q hq => h q (List.mem_cons_of_mem _ hq), Tr.get_set, if_neg fun e => h p List.mem_cons_self e.symm]

def live (n0 : Nat) (ks : List (Nat × O)) (m : Nat) : Bool := Nat.blt m n0 || ks.any fun p => Nat.beq p.1 m
def ksOK (n0 nn : Nat) (ks : List (Nat × O)) : Bool := Nat.ble n0 nn && ks.all fun p => Nat.ble n0 p.1 && (Nat.blt p.1 nn && p.2.within (live n0 ks))
def esOK (n0 : Nat) (ks : List (Nat × O)) (es : List (Nat × V)) : Bool := es.all fun p => p.2.within (live n0 ks)
def O.beq : O → O → Bool
  | .cells T cs ex ro, .cells T' cs' ex' ro' => Nat.beq T T' && (ex == ex' && (ro == ro' && V.beqL cs cs'))
  | _, _ => false
theorem O.beq_eq : ∀ {x y : O}, O.beq x y = true → x = y
  | .cells T cs ex ro, .cells T' cs' ex' ro', h => by
    simp only [O.beq, Bool.and_eq_true, beq_iff_eq] at h
    obtain ⟨h1, h2, h3, h4⟩ := h
    rw [Nat.eq_of_beq_eq_true h1, h2, h3, V.beqL_eq _ h4]
  | .map _, _, h => by cases h
  | .iter _ _, _, h => by cases h
  | .gone, _, h => by cases h
  | .cells _ _ _ _, .map _, h => by cases h
  | .cells _ _ _ _, .iter _ _, h => by cases h
  | .cells _ _ _ _, .gone, h => by cases h
noncomputable def stageB (r : Option (Ex × List DV × Tr V × Heap)) (es : List (Nat × V)) (ks : List (Nat × O)) : Bool := match r with
  | some (.normal, [], e, H) => es.all (fun p => match e.get p.1 with | some v => V.beq v p.2 | none => false) && ks.all fun p => match H.get p.1 with | some o => O.beq o p.2 | none => false
  | _ => false
theorem stageB_spec {r : Option (Ex × List DV × Tr V × Heap)} {es : List (Nat × V)} {ks : List (Nat × O)} (h : stageB r es ks = true) : ∃ e H, r = some (.normal, [], e, H) ∧ (∀ p, p ∈ es → e.get p.1 = some p.2) ∧ ∀ p, p ∈ ks → H.get p.1 = some p.2 := by
  unfold stageB at h
  split at h <;> first | (cases h; done) | skip
  rename_i e H
  simp only [Bool.and_eq_true, List.all_eq_true] at h
  refine ⟨e, H, rfl, fun p hp => ?_, fun p hp => ?_⟩
  · have := h.1 p hp
    split at this <;> first | (cases this; done) | skip
    rename_i v hv
    rw [hv, V.beq_eq _ this]
  · have := h.2 p hp
    split at this <;> first | (cases this; done) | skip
    rename_i v hv
    rw [hv, O.beq_eq this]

section
variable {P : Program} {ng : Con} {h0 : Heap} (hC : Consts ng h0) (h00 : h0.nn = ng.n)
include hC h00
theorem cut_sat {g : G} {H : Heap} {w : World} {ks : List (Nat × O)} {nn : Nat} (hg : g.ng = ng) (s : Sat g H w) (hk : ksOK h0.nn nn ks = true) (hH : ∀ p, p ∈ ks → H.get p.1 = some p.2) :
    ∃ g' : G, g'.base = g.base ∧ g'.ng = ng ∧ Sat g' ⟨sets ks h0.t, nn⟩ w ∧ ∀ x v, RelV g x v → x.within (live h0.nn ks) = true → RelV g' x v := by
  simp only [ksOK, Bool.and_eq_true, List.all_eq_true, Nat.ble_eq, Nat.blt_eq] at hk
  obtain ⟨hnn, hks⟩ := hk
  have hcon : ∀ m x, ng.con m = some x → H.get m = some x := fun m x hx => s.con m x (by rw [hg]; exact hx)
  have hlow : ∀ m, m < ng.n → live h0.nn ks m = true := fun m hm => by simp [live, Nat.blt_eq, h00, hm]
  have hsub : ∀ m x, (sets ks h0.t).get m = some x → H.get m = some x := fun m x hx => by
    rcases get_sets _ _ _ _ hx with ⟨p, h1, rfl, rfl⟩ | h1
    · exact hH p h1
    · exact hcon m x (by rw [← hC.con]; exact h1)
  have hlive : ∀ m, live h0.nn ks m = true ↔ ∃ x, (sets ks h0.t).get m = some x := fun m => by
    constructor
    · intro h
      refine has_sets _ _ _ ?_
      simp only [live, Bool.or_eq_true, List.any_eq_true, Nat.blt_eq, h00] at h
      rcases h with h | ⟨p, h1, h2⟩
      · obtain ⟨x, hx⟩ := hC.has m h
        exact .inr ⟨x, by rw [← hC.con] at hx; exact hx⟩
      · exact .inl ⟨p, h1, Nat.eq_of_beq_eq_true h2⟩
    · rintro ⟨x, hx⟩
      simp only [live, Bool.or_eq_true, List.any_eq_true, Nat.blt_eq]
      rcases get_sets _ _ _ _ hx with ⟨p, h1, rfl, rfl⟩ | h1
      · exact .inr ⟨p, h1, Nat.beq_refl _⟩
      · rcases Nat.lt_or_ge m h0.nn with h2 | h2
        · exact .inl h2
        · have := hC.top m h2; rw [show h0.get m = h0.t.get m from rfl, h1] at this; cases this
  let g' : G := { base := g.base, ng := ng, bn := live h0.nn ks, nm := g.nm, vs := g.vs, gl := fun b hb => ⟨hlow b hb, (g.gl b (by rw [hg]; exact hb)).2⟩, hinv := hg ▸ g.hinv }
  have hp : ∀ n, live h0.nn ks n = true → g'.bn n = true ∧ g'.nm n = g.nm n ∧ g'.vs n = g.vs n := fun n hn => ⟨hn, rfl, rfl⟩
  have hin : ∀ m x, (sets ks h0.t).get m = some x → x.within (live h0.nn ks) = true := fun m x hx => by
    rcases get_sets _ _ _ _ hx with ⟨p, h1, rfl, rfl⟩ | h1
    · exact (hks p h1).2.2
    · have := hC.inn m x (by rw [← hC.con]; exact h1)
      have mono : ∀ n, (ng.con n).isSome = true → live h0.nn ks n = true := fun n hn => by
        obtain ⟨y, hy⟩ := Option.isSome_iff_exists.1 hn
        rcases Nat.lt_or_ge n h0.nn with h2 | h2
        · exact hlow n (by rw [← h00]; exact h2)
        · have := hC.top n h2; rw [hC.con, hy] at this; cases this
      cases x with
      | cells T cs ex ro => exact within_upL mono cs this
      | map es => exact this
      | iter s p => rfl
      | gone => rfl
  refine ⟨g', rfl, rfl, ?_, fun x v hx hw => hx.within hp hw⟩
  refine { keep := s.keep, fresh := fun n hn => ?_, dom := fun n x hx => ?_, bn := fun n hn => ?_, at_ := fun n x hx => ?_, own := fun n x hx ho => ?_, lt := fun n x hx => ?_, inj := fun n n' x x' hx hx' ho hz he => ?_, con := fun m x hm => ?_ }
  · show (sets ks h0.t).get n = none
    have hn : nn ≤ n := hn
    rw [other_sets _ _ _ fun p hp' e => by have := (hks p hp').2.1; omega]
    exact hC.top n (by omega)
  · exact (hlive n).2 ⟨x, hx⟩
  · exact (hlive n).1 hn
  · exact (s.at_ n x (hsub n x hx)).within hp ((hlive n).2 ⟨x, hx⟩) (hin n x hx)
  · exact s.own n x (hsub n x hx) ho
  · exact s.lt n x (hsub n x hx)
  · exact s.inj n n' x x' (hsub n x hx) (hsub n' x' hx') ho hz he
  · have hm' : ng.con m = some x := hm
    show (sets ks h0.t).get m = some x
    have hlt : m < h0.nn := by
      rcases Nat.lt_or_ge m h0.nn with h2 | h2
      · exact h2
      · have := hC.top m h2; rw [hC.con, hm'] at this; cases this
    rw [other_sets _ _ _ fun p hp' e => by have := (hks p hp').1; omega]
    rw [← hC.con] at hm'; exact hm'
variable (hm : P.follows .mixedOrders = true) {call : CallF} (hc : CallOK P ng call) (hx : CallExt call)
include hm hc hx
theorem stage {n F : Nat} {a b : Code} {es es' : List (Nat × V)} {ks ks' : List (Nat × O)} {nn nn' : Nat} (h : stageB (evC P (mkTy P) ng call n F a [] (sets es .leaf) ⟨sets ks h0.t, nn⟩) es' ks' = true)
    (hk : ksOK h0.nn nn' ks' = true) (he : esOK h0.nn ks' es' = true) {B : World} {Q : Exit → Act → World → Prop}
    (next : ∀ g c w, g.base = B → g.ng = ng → RelAct g n [] (sets es' .leaf).get c → Sat g ⟨sets ks' h0.t, nn'⟩ w → b.wp P Q c w) :
    ∀ g c w, g.base = B → g.ng = ng → RelAct g n [] (sets es .leaf).get c → Sat g ⟨sets ks h0.t, nn⟩ w → (Code.seq a b).wp P Q c w := by
  intro g c w hb hg hr hs
  obtain ⟨e, H, hev, h1, h2⟩ := stageB_spec h
  refine wp_seq (wp_mono ((evC_sound (mkTy_ok P) hm hc hx F).1 a [] _ _ _ _ _ _ hev g [] c w hg trivial hr hs) ?_)
  rintro ex c' w' ⟨rfl, g1, ds, hle, hD, hr1, hs1⟩
  have hds : ds = [] := by
    cases ds with
    | nil => rfl
    | cons => exact hD.elim
  subst hds
  obtain ⟨g', e1, e2, hs2, hrel⟩ := cut_sat hC h00 (hle.ng.trans hg) hs1 hk h2
  refine next g' c' w' (e1.trans (hle.base.trans hb)) e2 ⟨hr1.size, hr1.defers, ⟨fun t x hx => ?_⟩⟩ hs2
  rcases get_sets _ _ _ _ hx with ⟨p, q1, rfl, rfl⟩ | q1
  · obtain ⟨v, hv, hrv⟩ := hr1.rel.at_ p.1 p.2 (h1 p q1)
    simp only [esOK, List.all_eq_true] at he
    exact ⟨v, hv, hrel _ _ hrv (he p q1)⟩
  · cases q1
def seqL : Code → Code
  | .seq a _ => a
  | c => c
def seqR : Code → Code
  | .seq _ b => b
  | c => c
def isSeq : Code → Bool
  | .seq _ _ => true
  | _ => false
theorem stage_at {n F : Nat} {c : Code} {es es' : List (Nat × V)} {ks ks' : List (Nat × O)} {nn nn' : Nat} (hs : isSeq c = true) (h : stageB (evC P (mkTy P) ng call n F (seqL c) [] (sets es .leaf) ⟨sets ks h0.t, nn⟩) es' ks' = true)
    (hk : ksOK h0.nn nn' ks' = true) (he : esOK h0.nn ks' es' = true) {B : World} {Q : Exit → Act → World → Prop}
    (next : ∀ g a w, g.base = B → g.ng = ng → RelAct g n [] (sets es' .leaf).get a → Sat g ⟨sets ks' h0.t, nn'⟩ w → (seqR c).wp P Q a w) :
    ∀ g a w, g.base = B → g.ng = ng → RelAct g n [] (sets es .leaf).get a → Sat g ⟨sets ks h0.t, nn⟩ w → c.wp P Q a w := by
  cases c <;> first | (cases hs; done) | skip
  exact stage hC h00 hm hc hx h hk he next
noncomputable def lastB (r : Option (Ex × List DV × Tr V × Heap)) (x : V) : Bool := match r with
  | some (.ret, [], e, _) => (match e.get 0 with | some v => V.beq v x | none => false)
  | _ => false
omit hC h00 in
theorem last {n F : Nat} {b : Code} {es : List (Nat × V)} {ks : List (Nat × O)} {nn : Nat} {x : V} (h : lastB (evC P (mkTy P) ng call n F b [] (sets es .leaf) ⟨sets ks h0.t, nn⟩) x = true) {B : World} :
    ∀ g c w, g.base = B → g.ng = ng → RelAct g n [] (sets es .leaf).get c → Sat g ⟨sets ks h0.t, nn⟩ w → b.wp P (fun ex c' w' => ex = .ret ∧ ∃ g' e H, g'.base = B ∧ RelAct g' n [] e c' ∧ e 0 = some x ∧ Sat g' H w') c w := by
  intro g c w hb hg hr hs
  unfold lastB at h
  split at h <;> first | (cases h; done) | skip
  rename_i e H hev
  split at h <;> first | (cases h; done) | skip
  rename_i v hv
  refine wp_mono ((evC_sound (mkTy_ok P) hm hc hx F).1 b [] _ _ _ _ _ _ hev g [] c w hg trivial hr hs) ?_
  rintro ex c' w' ⟨rfl, g1, ds, hle, hD, hr1, hs1⟩
  have hds : ds = [] := by
    cases ds with
    | nil => rfl
    | cons => exact hD.elim
  subst hds
  exact ⟨rfl, g1, _, _, hle.base.trans hb, hr1, by rw [hv, V.beq_eq _ h], hs1⟩
omit h00 hm hc hx in
theorem staged (hn : NoNG P) {f : FuncId} {fn : Func} {b : Code} (hf : P.funcs[f]? = some fn) (hb : fn.body = some b) (hres : fn.results = #[.tmp 0]) {x : V} (hxw : x.within (fun _ => false) = true)
    (h : ∀ (B : World) g c w, g.base = B → g.ng = ng → RelAct g fn.ntmps [] (sets [] .leaf).get c → Sat g ⟨sets [] h0.t, h0.nn⟩ w → b.wp P (fun ex c' w' => ex = .ret ∧ ∃ g' e H, g'.base = B ∧ RelAct g' fn.ntmps [] e c' ∧ e 0 = some x ∧ Sat g' H w') c w) (H : Heap) : OCall P ng f [] H x H := by
  refine .inl ⟨fun g vs w hg hv s => ?_, enters hn hf hb⟩
  cases hv.nil
  have hs0 := alone_sat hC hg s
  refine calls_of_wp_defers hf hb (wp_mono (h w _ _ w rfl rfl ⟨by simp, rfl, ⟨fun t x hx => by cases hx⟩⟩ hs0) ?_)
  rintro ex c' w' ⟨rfl, g', e, H', hbase, hr, h0x, hs'⟩
  obtain ⟨v, hv, hrun⟩ := results_run (mkTy_ok P) (fn := fn) (xs := [x]) hr.rel hs' (by rw [hres]; simp [resL, resV, h0x])
  have hfin : Leaves P fn c'.tmps (fun en w' => ∃ v, en = .returned v ∧ ∃ g', g.le g' ∧ RelV g' x v ∧ Sat g' H w') [] .returning w' :=
    ⟨v, hrun, v, rfl, g, G.le.refl g, RelV.within (g := g') (g' := g) (p := fun _ => false) (fun n hn => by cases hn) hv hxw, s.grows (by have := hs'.keep; rw [hbase] at this; exact this)⟩
  rw [← hr.defers] at hfin
  exact hfin
end

end Go.Proofs.YtojblnldfdeefaaGreatDoor.Cc
