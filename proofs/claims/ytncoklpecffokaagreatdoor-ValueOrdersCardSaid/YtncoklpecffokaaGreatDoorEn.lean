/-
  The evaluator of closed calls, part 14: calls whose contracts are known: a list of them; the machine's own answers (bytes, numbers of 64 bits, atomic cells).
-/
import Derived.Test.YtncoklpecffokaaGreatDoorEm
import Derived.Lib.Bytealg
import Derived.Laws.Externs
import Derived.Laws.LoneSync
namespace Go.Proofs.YtncoklpecffokaaGreatDoor.Cc
open Go Go.RowKit

/-- A call whose contract is known. -/
structure Handler (P : Program) (ng : Con) where
  f : FuncId
  is : List V → Bool
  run : CallF → List V → Heap → Option (V × Heap)
  ok : ∀ call, CallOK P ng call → CallExt call → ∀ xs H r H', is xs = true → run call xs H = some (r, H') → OCall P ng f xs H r H'
  ext : ∀ call, CallExt call → ∀ xs H r H' X H2, is xs = true → run call xs H = some (r, H') → Ext X H H2 → ∃ H2', run call xs H2 = some (r, H2') ∧ Ext X H' H2'
def findH {P : Program} {ng : Con} (f : FuncId) (xs : List V) : List (Handler P ng) → Option (Handler P ng)
  | [] => none
  | h :: l => cond (Nat.beq h.f f && h.is xs) (some h) (findH f xs l)
def isH {P : Program} {ng : Con} (l : List (Handler P ng)) (f : FuncId) (xs : List V) : Bool := match findH f xs l with | some _ => true | none => false
def modH {P : Program} {ng : Con} (l : List (Handler P ng)) : CallF → CallF := fun call f xs H => match findH f xs l with | some h => h.run call xs H | none => none
theorem findH_spec {P : Program} {ng : Con} {f : FuncId} {xs : List V} : ∀ {l : List (Handler P ng)} {h : Handler P ng}, findH f xs l = some h → h.f = f ∧ h.is xs = true
  | [], h, e => by cases e
  | k :: l, h, e => by
    simp only [findH] at e
    cases hb : (Nat.beq k.f f && k.is xs) with
    | true =>
      rw [hb] at e
      cases e
      simp only [Bool.and_eq_true] at hb
      exact ⟨Nat.eq_of_beq_eq_true hb.1, hb.2⟩
    | false => rw [hb] at e; exact findH_spec e
theorem modH_ok {P : Program} {ng : Con} (l : List (Handler P ng)) : ModOK P ng (isH l) (modH l) := by
  intro call hc hx f xs H r H' _ h
  simp only [modH] at h
  split at h <;> first | (cases h; done) | skip
  rename_i k hk
  obtain ⟨rfl, h2⟩ := findH_spec hk
  exact k.ok call hc hx xs H r H' h2 h
theorem modH_ext {P : Program} {ng : Con} (l : List (Handler P ng)) : ModExt (isH l) (modH l) := by
  intro call hx f xs H r H' X H2 _ h e
  simp only [modH] at h ⊢
  split at h <;> first | (cases h; done) | skip
  rename_i k hk
  obtain ⟨rfl, h2⟩ := findH_spec hk
  exact k.ext call hx xs H r H' X H2 h2 h e

/-- f is answered by the machine's entry e. -/
def IsExt (P : Program) (f : FuncId) (e : Array Value → Sem Value) : Prop :=
  ∃ fn, P.funcs[f]? = some fn ∧ (fn.name == "runtime.NumGoroutine") = false ∧ fn.body.isNone = true ∧ Extern.findNext fn = none ∧ Extern.find fn = some e
theorem IsExt.run {P : Program} {f : FuncId} {e : Array Value → Sem Value} (h : IsExt P f e) (args : Array Value) (w : World) : (callFunc f args).run P w = ((e args).run P w).andThen fun v w' => .ok (.value v) w' := by
  obtain ⟨fn, h1, h2, h3, h4, h5⟩ := h
  exact run_callFunc_extern h1 h2 h3 h4 h5 args w
theorem RelVs.nil {g : G} {vs : List Value} (h : RelVs g [] vs) : vs = [] := by
  have := h.1
  cases vs with
  | nil => rfl
  | cons => simp at this
theorem RelVs.cons {g : G} {x : V} {xs : List V} {vs : List Value} (h : RelVs g (x :: xs) vs) : ∃ v us, vs = v :: us ∧ RelV g x v ∧ RelVs g xs us := by
  have h1 := h.1
  cases vs with
  | nil => simp at h1
  | cons v us => exact ⟨v, us, rfl, h.2 0 x v rfl rfl, by simpa using h1, fun i y u hy hu => h.2 (i + 1) y u (by simpa using hy) (by simpa using hu)⟩

section
variable {P : Program} {ng : Con}
/-- An entry that asks nothing of memory. -/
def Handler.value (f : FuncId) (run : List V → Option V) (e : Array Value → Sem Value) (he : IsExt P f e)
    (spec : ∀ xs r g vs w, run xs = some r → RelVs g xs vs → ∃ v, (e vs.toArray).run P w = .ok v w ∧ RelV g r v) : Handler P ng where
  f := f
  is _ := true
  run _ xs H := match run xs with | some r => some (r, H) | none => none
  ok call _ _ xs H r H' _ h := by
    split at h <;> first | (cases h; done) | skip
    rename_i y hy
    cases h
    refine .inr fun g vs w hg hr hs => ?_
    obtain ⟨v, hv, hrv⟩ := spec xs _ g vs w hy hr
    exact ⟨v, w, by rw [he.run, hv]; rfl, g, G.le.refl g, hrv, hs⟩
  ext call _ xs H r H' X H2 _ h k := by
    split at h <;> first | (cases h; done) | skip
    rename_i y hy
    cases h
    exact ⟨H2, rfl, k⟩

def runIndexByte : List V → Option V
  | [.str s, .int .u8 c] => some (.int .i64 (Lib.indexByte s c.toNat.toUInt8))
  | _ => none
def hIndexByte (f : FuncId) (he : IsExt P f Extern.BytealgIndexByte.indexByte) : Handler P ng := Handler.value f runIndexByte _ he <| by
  intro xs r g vs w h hr
  unfold runIndexByte at h
  split at h <;> first | (cases h; done) | skip
  cases h
  obtain ⟨v, us, rfl, h1, hr⟩ := hr.cons
  obtain ⟨u, us, rfl, h2, hr⟩ := hr.cons
  cases hr.nil
  cases h1 with
  | str s hs =>
  cases h2
  exact ⟨_, Lib.run_indexByteString _ _ _, .int _ _⟩
def runCount : List V → Option V
  | [.str s, .int .u8 c] => some (.int .i64 (Lib.countByte s c.toNat.toUInt8))
  | _ => none
def hCount (f : FuncId) (he : IsExt P f Extern.BytealgCount.count) : Handler P ng := Handler.value f runCount _ he <| by
  intro xs r g vs w h hr
  unfold runCount at h
  split at h <;> first | (cases h; done) | skip
  cases h
  obtain ⟨v, us, rfl, h1, hr⟩ := hr.cons
  obtain ⟨u, us, rfl, h2, hr⟩ := hr.cons
  cases hr.nil
  cases h1 with
  | str s hs =>
  cases h2
  exact ⟨_, Lib.run_countString _ _ _, .int _ _⟩
def runCmp : List V → Option V
  | [.str s, .str t] => some (.int .i64 (Lib.compareBytes s t))
  | _ => none
def hCmp (f : FuncId) (he : IsExt P f Extern.BytealgCompare.compare) : Handler P ng := Handler.value f runCmp _ he <| by
  intro xs r g vs w h hr
  unfold runCmp at h
  split at h <;> first | (cases h; done) | skip
  cases h
  obtain ⟨v, us, rfl, h1, hr⟩ := hr.cons
  obtain ⟨u, us, rfl, h2, hr⟩ := hr.cons
  cases hr.nil
  cases h1 with
  | str s hs =>
  cases h2 with
  | str t ht =>
  exact ⟨_, Lib.run_compareString _ _ _, .int _ _⟩
def runAdd64 : List V → Option V
  | [.int .u64 (.ofNat x), .int .u64 (.ofNat y), .int .u64 (.ofNat c)] => cond (Nat.ble c 1) (some (.tuple [.int .u64 (.ofNat (Nat.mod (x + y + c) 18446744073709551616)), .int .u64 (.ofNat (Nat.div (x + y + c) 18446744073709551616))])) none
  | _ => none
theorem RelV.two {g : G} {x y : V} {v u : Value} (h : RelV g x v) (k : RelV g y u) : RelV g (.tuple [x, y]) (.tuple #[v, u]) := by
  refine .tuple _ _ rfl fun i c z hc hz => ?_
  match i with
  | 0 => simp at hc hz; subst hc; subst hz; exact h
  | 1 => simp at hc hz; subst hc; subst hz; exact k
  | _ + 2 => simp at hc
def hAdd64 (f : FuncId) (he : IsExt P f add64Entry) : Handler P ng := Handler.value f runAdd64 _ he <| by
  intro xs r g vs w h hr
  unfold runAdd64 at h
  split at h <;> first | (cases h; done) | skip
  rename_i x y c
  obtain ⟨hb, h⟩ := cond_if h
  cases h
  obtain ⟨v, us, rfl, h1, hr⟩ := hr.cons
  obtain ⟨u, us, rfl, h2, hr⟩ := hr.cons
  obtain ⟨z, us, rfl, h3, hr⟩ := hr.cons
  cases hr.nil
  cases h1
  cases h2
  cases h3
  have hc := Nat.le_of_ble_eq_true hb
  have hrun := run_add64 (P := P) (Int.ofNat x) (Int.ofNat y) (Int.ofNat c) (Int.natCast_nonneg _) (Int.natCast_nonneg _) (Int.natCast_nonneg _) (by simp; omega) w
  refine ⟨_, hrun, RelV.two ?_ ?_⟩
  · exact RelV.int .u64 _
  · exact RelV.int .u64 _
def sub64E : Array Value → Sem Value := fun args => do
  let (x, y, b) ← Extern.MathBitsCarry.three "Sub64" args
  pure (Extern.MathBitsCarry.pair ((x + Extern.MathBitsCarry.m64 - y - b) % Extern.MathBitsCarry.m64) (if x < y + b then 1 else 0))
theorem run_sub64E (x y b : Nat) (hb : b ≤ 1) (w : World) :
    (sub64E #[.int .u64 x, .int .u64 y, .int .u64 b]).run P w = .ok (.tuple #[.int .u64 (((x + 18446744073709551616 - y - b) % 18446744073709551616 : Nat) : Int), .int .u64 ((if x < y + b then 1 else 0 : Nat) : Int)]) w := by
  have : b = 0 ∨ b = 1 := by omega
  rcases this with rfl | rfl <;> rfl
def runSub64 : List V → Option V
  | [.int .u64 (.ofNat x), .int .u64 (.ofNat y), .int .u64 (.ofNat c)] => cond (Nat.ble c 1) (some (.tuple [.int .u64 (.ofNat (Nat.mod (x + 18446744073709551616 - y - c) 18446744073709551616)), .int .u64 (.ofNat (if x < y + c then 1 else 0))])) none
  | _ => none
def hSub64 (f : FuncId) (he : IsExt P f sub64E) : Handler P ng := Handler.value f runSub64 _ he <| by
  intro xs r g vs w h hr
  unfold runSub64 at h
  split at h <;> first | (cases h; done) | skip
  rename_i x y c
  obtain ⟨hb, h⟩ := cond_if h
  cases h
  obtain ⟨v, us, rfl, h1, hr⟩ := hr.cons
  obtain ⟨u, us, rfl, h2, hr⟩ := hr.cons
  obtain ⟨z, us, rfl, h3, hr⟩ := hr.cons
  cases hr.nil
  cases h1
  cases h2
  cases h3
  have hc := Nat.le_of_ble_eq_true hb
  refine ⟨_, run_sub64E x y c hc w, RelV.two (RelV.int .u64 _) (RelV.int .u64 _)⟩
theorem RelV.none_ {g : G} : RelV g (.tuple []) (.tuple #[]) := .tuple [] #[] rfl fun i c v hc _ => by simp at hc
def runMark0 : List V → Option V
  | [] => some (.tuple [])
  | _ => none
def hMark0 (f : FuncId) (m : Mark) (he : IsExt P f (fun _ => do mark m; pure Extern.Race.none_)) : Handler P ng := Handler.value f runMark0 _ he <| by
  intro xs r g vs w h hr
  unfold runMark0 at h
  split at h <;> first | (cases h; done) | skip
  cases h
  cases hr.nil
  exact ⟨.tuple #[], rfl, RelV.none_⟩
def runMark1 : List V → Option V
  | [.ptr _ _] => some (.tuple [])
  | _ => none
def hMark1 (f : FuncId) (m : Addr → Mark) (he : IsExt P f (Extern.Race.marked m)) : Handler P ng := Handler.value f runMark1 _ he <| by
  intro xs r g vs w h hr
  unfold runMark1 at h
  split at h <;> first | (cases h; done) | skip
  cases h
  obtain ⟨v, us, rfl, h1, hr⟩ := hr.cons
  cases hr.nil
  cases h1
  exact ⟨.tuple #[], rfl, RelV.none_⟩
end

/-! ### atomic cells -/
section
variable {P : Program} {ng : Con}
theorem thaw_cell {w : World} {b o : Nat} {vs : Array Value} {T : TypeId} {fz : Nat × Nat} (h : w.heap[b]? = some (.cells vs T fz)) (ht : Thaw vs.size fz) (ho : o < vs.size) : w.frozen? ⟨b, o, none⟩ = false := by
  rcases ht with rfl | ht
  · simp [World.frozen?, h]
  · obtain ⟨lo, hi'⟩ := fz
    simp only [World.frozen?, h, Bool.and_eq_false_iff, decide_eq_false_iff_not]
    left
    simp only at ht
    omega
/-- One cell of an object is written. -/
theorem store1 {g : G} {H : Heap} {w : World} (s : Sat g H w) {n o : Nat} {T : TypeId} {cs : List V} {x : V} {v : Value} {ex : Bool} (hn : H.get n = some (.cells T cs ex false)) (hr : RelV g x v) (h1 : x.one = true) (ho : o < cs.length) :
    (∃ u, w.cell? ⟨g.nm n, o, none⟩ = some u ∧ ∀ y, cs[o]? = some y → RelV g y u) ∧ w.frozen? ⟨g.nm n, o, none⟩ = false ∧ Sat g (H.set n (.cells T (putRow cs o [x]) ex false)) (w.setCell ⟨g.nm n, o, none⟩ v) := by
  obtain ⟨vs, fz, ⟨T', a1, aT⟩, a2, a3, a4, a5, a6⟩ := s.at_ _ _ hn
  have hov : o < vs.size := by omega
  have hc : w.cell? ⟨g.nm n, o, none⟩ = some vs[o] := cell_of a1 (by simp [hov])
  have hf := thaw_cell a1 (a2 rfl) hov
  obtain ⟨w', hrun, s'⟩ := store_at (P := default) (o := o) s hn (RelCells.one hr) (by simp [h1]) (by simp; omega)
  have e : w' = w.setCell ⟨g.nm n, o, none⟩ v := by
    have hadd : (⟨g.nm n, o, none⟩ : Addr).add 0 = ⟨g.nm n, o, none⟩ := by unfold Addr.add; split <;> simp_all
    have hst : (storeCells ⟨g.nm n, o, none⟩ #[v].toList).run (default : Program) w = .ok () (w.setCell ⟨g.nm n, o, none⟩ v) := by
      simp [storeCells, hadd, run_store (default : Program) w _ v _ (hr.oneCell h1), hc, hf, Sem.run_pure, Result.andThen]
    rw [hst] at hrun
    cases hrun
    rfl
  subst e
  refine ⟨⟨vs[o], hc, fun y hy => ?_⟩, hf, s'⟩
  exact a6.2 o y _ hy (by simp only [Array.getElem?_extract]; rw [if_pos (by omega)]; simp [hov])

noncomputable def runLoad (k : IntKind) (xs : List V) (H : Heap) : Option (V × Heap) := match xs with
  | [.ptr n o] => (match objCells H n with
    | some cs => (match cs[o]? with
      | some (.int k' x) => cond (decide (k' = k)) (some (.int k x, H)) none
      | _ => none)
    | none => none)
  | _ => none
noncomputable def hLoad (f : FuncId) (k : IntKind) (he : IsExt P f (Extern.Atomic.loadT (.int k))) : Handler P ng where
  f := f
  is _ := true
  run _ xs H := runLoad k xs H
  ok call _ _ xs H r H' _ h := by
    unfold runLoad at h
    split at h <;> first | (cases h; done) | skip
    rename_i n o
    split at h <;> first | (cases h; done) | skip
    rename_i cs hn
    split at h <;> first | (cases h; done) | skip
    rename_i k' x hx
    obtain ⟨hb, h⟩ := cond_if h
    have hk : k' = k := of_decide_eq_true hb
    subst hk
    cases h
    refine .inr fun g vs w hg hr hs => ?_
    obtain ⟨v, us, rfl, h1, hr⟩ := hr.cons
    cases hr.nil
    cases h1 with
    | ptr n o hb =>
      obtain ⟨S', ex, ro, hgt, _, vs, fz, ⟨T', q1, _⟩, q2, q3, q4, q5, q6⟩ := objCells_spec hs hn
      have ho : o < cs.length := (List.getElem?_eq_some_iff.1 hx).1
      have hrv := q6.2 o _ (vs[o]'(by omega)) hx (by simp only [Array.getElem?_extract]; rw [if_pos (by omega)]; simp)
      have hc := cell_of (w := w) (o := o) (v := vs[o]'(by omega)) q1 (by simp)
      generalize vs[o]'(by omega) = u at hrv hc
      cases hrv
      obtain ⟨fn, e1, e2, e3, e4, e5⟩ := he
      exact ⟨_, w, run_call_load e1 e2 e3 e4 k' e5 hc, g, G.le.refl g, .int _ _, hs⟩
  ext call _ xs H r H' X H2 _ h k := by
    unfold runLoad at h ⊢
    split at h <;> first | (cases h; done) | skip
    split at h <;> first | (cases h; done) | skip
    rename_i cs hn
    rw [k.cells hn]
    simp only
    split at h <;> first | (cases h; done) | skip
    rename_i hx
    obtain ⟨hb, h⟩ := cond_if h
    cases h
    simp only [hb, cond_true]
    exact ⟨_, rfl, k⟩
noncomputable def runStore (xs : List V) (H : Heap) : Option (V × Heap) := match xs with
  | [.ptr n o, .int k y] => (match H.get n with
    | some (.cells S cs ex false) => cond (Nat.blt o cs.length) (some (.tuple [], H.set n (.cells S (putRow cs o [.int k y]) ex false))) none
    | _ => none)
  | _ => none
noncomputable def hStore (f : FuncId) (he : IsExt P f Extern.Atomic.storeT) : Handler P ng where
  f := f
  is _ := true
  run _ xs H := runStore xs H
  ok call _ _ xs H r H' _ h := by
    unfold runStore at h
    split at h <;> first | (cases h; done) | skip
    rename_i n o k y
    split at h <;> first | (cases h; done) | skip
    rename_i S cs ex hn
    obtain ⟨hb, h⟩ := cond_if h
    cases h
    refine .inr fun g vs w hg hr hs => ?_
    obtain ⟨v, us, rfl, h1, hr⟩ := hr.cons
    obtain ⟨u, us, rfl, h2, hr⟩ := hr.cons
    cases hr.nil
    cases h1 with
    | ptr n o hbn =>
    cases h2
    obtain ⟨⟨z, hz, _⟩, hf, s'⟩ := store1 (o := o) hs hn (RelV.int k y) rfl (by simpa [Nat.blt_eq] using hb)
    obtain ⟨fn, e1, e2, e3, e4, e5⟩ := he
    exact ⟨_, _, run_call_store e1 e2 e3 e4 e5 hz hf, g, G.le.refl g, RelV.none_, s'⟩
  ext call _ xs H r H' X H2 _ h k := by
    unfold runStore at h ⊢
    split at h <;> first | (cases h; done) | skip
    rename_i n o kk y
    split at h <;> first | (cases h; done) | skip
    rename_i S cs ex hn
    obtain ⟨hb, h⟩ := cond_if h
    cases h
    simp only [k.get hn, hb, cond_true]
    exact ⟨_, rfl, k.set (k.free hn) _⟩
noncomputable def runCas (k : IntKind) (xs : List V) (H : Heap) : Option (V × Heap) := match xs with
  | [.ptr n o, .int k1 x, .int k2 y] => (match H.get n with
    | some (.cells S cs ex false) => (match cs[o]? with
      | some (.int k' x') => cond (decide (k' = k) && (decide (k1 = k) && (decide (k2 = k) && decide (x' = x)))) (some (.bool true, H.set n (.cells S (putRow cs o [.int k y]) ex false))) none
      | _ => none)
    | _ => none)
  | _ => none
noncomputable def hCas (f : FuncId) (k : IntKind) (he : IsExt P f (Extern.Atomic.casT (.int k))) : Handler P ng where
  f := f
  is _ := true
  run _ xs H := runCas k xs H
  ok call _ _ xs H r H' _ h := by
    unfold runCas at h
    split at h <;> first | (cases h; done) | skip
    rename_i n o k1 x k2 y
    split at h <;> first | (cases h; done) | skip
    rename_i S cs ex hn
    split at h <;> first | (cases h; done) | skip
    rename_i k' x' hx
    obtain ⟨hb, h⟩ := cond_if h
    cases h
    simp only [Bool.and_eq_true, decide_eq_true_eq] at hb
    obtain ⟨rfl, rfl, rfl, rfl⟩ := hb
    refine .inr fun g vs w hg hr hs => ?_
    obtain ⟨v, us, rfl, h1, hr⟩ := hr.cons
    obtain ⟨u, us, rfl, h2, hr⟩ := hr.cons
    obtain ⟨z, us, rfl, h3, hr⟩ := hr.cons
    cases hr.nil
    cases h1 with
    | ptr n o hbn =>
    cases h2
    cases h3
    have ho : o < cs.length := (List.getElem?_eq_some_iff.1 hx).1
    obtain ⟨⟨z, hz, hzr⟩, hf, s'⟩ := store1 (o := o) hs hn (RelV.int _ y) rfl ho
    have := hzr _ hx
    cases this
    obtain ⟨fn, e1, e2, e3, e4, e5⟩ := he
    exact ⟨_, _, run_call_cas_hit e1 e2 e3 e4 _ e5 hz hf, g, G.le.refl g, .bool _, s'⟩
  ext call _ xs H r H' X H2 _ h k := by
    unfold runCas at h ⊢
    split at h <;> first | (cases h; done) | skip
    split at h <;> first | (cases h; done) | skip
    rename_i S cs ex hn
    split at h <;> first | (cases h; done) | skip
    rename_i hx
    obtain ⟨hb, h⟩ := cond_if h
    cases h
    simp only [k.get hn, hx, hb, cond_true]
    exact ⟨_, rfl, k.set (k.free hn) _⟩
/-- 1 less where 1 stands. -/
noncomputable def runDec (xs : List V) (H : Heap) : Option (V × Heap) := match xs with
  | [.ptr n o, .int .i32 d] => (match H.get n with
    | some (.cells S cs ex false) => (match cs[o]? with
      | some (.int .i32 x) => cond (decide (x = 1) && decide (d = -1)) (some (.int .i32 0, H.set n (.cells S (putRow cs o [.int .i32 0]) ex false))) none
      | _ => none)
    | _ => none)
  | _ => none
noncomputable def hDec (f : FuncId) (he : IsExt P f (Extern.Atomic.update (Op.intArith .add) .i32 true)) : Handler P ng where
  f := f
  is _ := true
  run _ xs H := runDec xs H
  ok call _ _ xs H r H' _ h := by
    unfold runDec at h
    split at h <;> first | (cases h; done) | skip
    rename_i n o d
    split at h <;> first | (cases h; done) | skip
    rename_i S cs ex hn
    split at h <;> first | (cases h; done) | skip
    rename_i x hx
    obtain ⟨hb, h⟩ := cond_if h
    simp only [Bool.and_eq_true, decide_eq_true_eq] at hb
    obtain ⟨rfl, rfl⟩ := hb
    cases h
    refine .inr fun g vs w hg hr hs => ?_
    obtain ⟨v, us, rfl, h1, hr⟩ := hr.cons
    obtain ⟨u, us, rfl, h2, hr⟩ := hr.cons
    cases hr.nil
    cases h1 with
    | ptr n o hbn =>
    cases h2
    have ho : o < cs.length := (List.getElem?_eq_some_iff.1 hx).1
    obtain ⟨⟨z, hz, hzr⟩, hf, s'⟩ := store1 (o := o) hs hn (RelV.int .i32 0) rfl ho
    have := hzr _ hx
    cases this
    obtain ⟨fn, e1, e2, e3, e4, e5⟩ := he
    exact ⟨_, _, run_call_add e1 e2 e3 e4 _ e5 hz hf rfl, g, G.le.refl g, .int _ _, s'⟩
  ext call _ xs H r H' X H2 _ h k := by
    unfold runDec at h ⊢
    split at h <;> first | (cases h; done) | skip
    split at h <;> first | (cases h; done) | skip
    rename_i S cs ex hn
    split at h <;> first | (cases h; done) | skip
    rename_i hx
    obtain ⟨hb, h⟩ := cond_if h
    cases h
    simp only [k.get hn, hx, hb, cond_true]
    exact ⟨_, rfl, k.set (k.free hn) _⟩
end

end Go.Proofs.YtncoklpecffokaaGreatDoor.Cc
