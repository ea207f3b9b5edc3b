/-
  Calls of the library that the machine's bodies are not asked for: HasPrefix, slices.Grow from nothing, Join, NoEscape, AddInt64, sheetio's Quote and Unquote, slices.Sorted over a map's keys.
-/
import Derived.Test.YtlhpnccdfgjifaaGreatDoorK1
import Derived.Test.YtlhpnccdfgjifaaGreatDoorL2
import Derived.Test.YtlhpnccdfgjifaaGreatDoorQ1
import Derived.IntWalk
import Derived.Test.YtlhpnccdfgjifaaGreatDoorE6
namespace Go.Proofs.YtlhpnccdfgjifaaGreatDoor.Cc
open Go Go.RowKit Go.Maps Go.Sort Go.Shelf

def runHP (xs : List V) (H : Heap) : Option (V × Heap) := match xs with
  | [.str s, .str p] => some (.bool (Lib.hasPrefix s p), H)
  | _ => none
theorem hp_ok {f : FuncId} (hc : ∀ (s p : ByteArray) (w : World), Calls P f #[.string s, .string p] w fun e w' => e = .returned (.bool (Lib.hasPrefix s.data.toList p.data.toList)) ∧ w' = w) (he : Enters P f)
    {xs : List V} {H H' : Heap} {r : V} (h : runHP xs H = some (r, H')) : OCall P ng0 f xs H r H' := by
  unfold runHP at h
  split at h <;> first | (cases h; done) | skip
  rename_i s p
  cases h
  refine .inl ⟨fun g vs w hg hr hs => ?_, he⟩
  obtain ⟨v1, us, rfl, r1, hr⟩ := hr.cons
  obtain ⟨v2, us, rfl, r2, hr⟩ := hr.cons
  cases hr.nil
  cases r1 with
  | str s q1 =>
  cases r2 with
  | str p q2 =>
  refine (hc ⟨s.toArray⟩ ⟨p.toArray⟩ w).mono ?_
  rintro e w' ⟨rfl, rfl⟩
  exact ⟨_, rfl, g, G.le.refl g, .bool _, hs⟩
def isHP (xs : List V) : Bool := match xs with
  | [.str _, .str _] => true
  | _ => false
noncomputable def hHP (f : FuncId) (hc : ∀ (s p : ByteArray) (w : World), Calls P f #[.string s, .string p] w fun e w' => e = .returned (.bool (Lib.hasPrefix s.data.toList p.data.toList)) ∧ w' = w) (he : Enters P f) : Handler P ng0 where
  f := f
  is := isHP
  run _ xs H := runHP xs H
  ok _ _ _ xs H r H' _ h := hp_ok hc he h
  ext _ _ xs H r H' X H2 _ h k := by
    unfold runHP at h
    split at h <;> first | (cases h; done) | skip
    cases h
    exact ⟨H2, rfl, k⟩

theorem info80 : (match P.info? 80 with | some i => i.size == 14 && (i.bytes == 120 && (match i.zero with | some z => z.cells.size == 14 | none => false)) | none => false) = true := by kernel_rfl
theorem info80_spec : ∃ i z, P.info? 80 = some i ∧ i.zero = some z ∧ i.size = 14 ∧ i.bytes = 120 ∧ z.cells.size = 14 := by
  have h := info80
  split at h
  · rename_i i hi
    simp only [Bool.and_eq_true, beq_iff_eq] at h
    obtain ⟨h1, h2, h3⟩ := h
    split at h3
    · rename_i z hz
      exact ⟨i, z, hi, hz, h1, h2, by simpa using h3⟩
    · cases h3
  · cases h
noncomputable def runGrow (xs : List V) (H : Heap) : Option (V × Heap) := match xs with
  | [.nilS, .int .i64 (.ofNat n)] => cond (Nat.beq n 0) (some (.nilS, H)) (cond (Nat.ble n 100000) (some (.sl 14 H.nn 0 0, H.new (.cells 80 [] false false))) none)
  | _ => none
theorem grow_ok {xs : List V} {H H' : Heap} {r : V} (h : runGrow xs H = some (r, H')) : OCall P ng0 204 xs H r H' := by
  unfold runGrow at h
  split at h <;> first | (cases h; done) | skip
  rename_i n
  refine .inl ⟨fun g vs w hg hr hs => ?_, enters noNG Tryz.func204 rfl⟩
  obtain ⟨v1, us, rfl, r1, hr⟩ := hr.cons
  obtain ⟨v2, us, rfl, r2, hr⟩ := hr.cons
  cases hr.nil
  cases r1 with
  | nilS =>
  cases r2 with
  | int =>
  cases hb : Nat.beq n 0 with
  | true =>
    rw [hb] at h
    cases h
    obtain rfl := Nat.eq_of_beq_eq_true hb
    refine (Any8.slices_Grow_room Tryz.growL none 0 0 0 w (Nat.le_refl _) (by omega) (by omega) (Nat.le_refl _)).mono ?_
    rintro e w' ⟨rfl, rfl⟩
    exact ⟨_, rfl, g, G.le.refl g, .nilS, hs⟩
  | false =>
  rw [hb] at h
  cases hc : Nat.ble n 100000 with
  | false => rw [hc] at h; cases h
  | true =>
  rw [hc] at h
  cases h
  have hn := Nat.le_of_ble_eq_true hc
  have hn0 : n ≠ 0 := fun e => by subst e; cases hb
  obtain ⟨i0, z, hi, hz, hsz, hby, hzs⟩ := info80_spec
  refine (Any8.slices_Grow_grow Tryz.growL i0 z hi hz (by omega) none 0 0 n [] w (Nat.le_refl _) (by omega) (by rw [hby]; omega) (by omega) (by simp) (fun _ => rfl) (fun a _ j v hj => by simp at hj)).mono ?_
  rintro e w' ⟨rfl, rfl⟩
  obtain ⟨nc, hnc⟩ : ∃ nc, nc = grownCap w (0 + n) 0 (Tryz.growL_ren.t 25) := ⟨_, rfl⟩
  have hcap : nc ≤ maxLen := by
    have := grownCap_le_maxLen w (0 + n) 0 (Tryz.growL_ren.t 25) (by unfold maxLen; omega)
    rwa [← hnc] at this
  have hge : 0 + n ≤ nc := by rw [hnc]; exact grownCap_ge w _ _ _
  rw [← hnc]
  obtain ⟨row, hrow⟩ : ∃ row, row = ([] : List Value).toArray ++ Builtin.zeroCells z.cells (0 + n - 0) ++ Builtin.zeroCells z.cells (nc - (0 + n)) := ⟨_, rfl⟩
  have hrs : row.size = nc * 14 := by
    rw [hrow]
    simp only [Array.size_append, Builtin.zeroCells, Array.size_map, Array.size_range, hzs, List.size_toArray, List.length_nil]
    omega
  rw [← hrow]
  have hb := hs.nn_not_bn
  have hle := G.le_name g H.nn w.heap.size row.size hb
  have hbn : (g.name H.nn w.heap.size row.size hb).bn H.nn = true := by simp [G.name]
  have hnm : (g.name H.nn w.heap.size row.size hb).nm H.nn = w.heap.size := by simp [G.name]
  have hvs : (g.name H.nn w.heap.size row.size hb).vs H.nn = row.size := by simp [G.name]
  refine ⟨_, rfl, _, hle, ?_, hs.drew.new (x := .cells 80 [] false false) row.size (by simp) hb ⟨row, (0, 0), ⟨80, ?_, fun _ => rfl⟩, fun _ => ?_, hvs.symm, Nat.zero_le _, fun h => (by cases h), ⟨by simp, fun i c v h1 _ => by simp at h1⟩⟩⟩
  · have := RelV.sl (g := g.name H.nn w.heap.size row.size hb) 14 H.nn 0 0 nc hbn (by rw [hvs, hrs]; omega) (Nat.zero_le _) hcap
    rwa [hnm] at this
  · show (w.drew.alloc (.cells row 80 (0, 0))).heap[(g.name H.nn w.heap.size row.size hb).nm H.nn]? = _
    rw [hnm]; exact heap_alloc_new _ _
  · exact .inl rfl
def isGrow (xs : List V) : Bool := match xs with
  | [.nilS, .int .i64 (.ofNat _)] => true
  | _ => false
noncomputable def hGrow : Handler P ng0 where
  f := 204
  is := isGrow
  run _ xs H := runGrow xs H
  ok _ _ _ xs H r H' _ h := grow_ok h
  ext _ _ xs H r H' X H2 _ h k := by
    unfold runGrow at h ⊢
    split at h <;> first | (cases h; done) | skip
    rename_i n h9
    cases hb : Nat.beq n 0 with
    | true => rw [hb] at h; cases h; exact ⟨H2, by simp, k⟩
    | false =>
      rw [hb] at h
      cases hc : Nat.ble n 100000 with
      | false => rw [hc] at h; cases h
      | true => rw [hc] at h; cases h; exact ⟨H2.new (.cells 80 [] false false), by simp [k.nn], k.new _⟩

def runNE (xs : List V) (H : Heap) : Option (V × Heap) := match xs with
  | [x] => some (x, H)
  | _ => none
noncomputable def hNE (f : FuncId) (he : IsExt P f Extern.AbiNoEscape.same) : Handler P ng0 where
  f := f
  is _ := true
  run _ xs H := runNE xs H
  ok call _ _ xs H r H' _ h := by
    unfold runNE at h
    split at h <;> first | (cases h; done) | skip
    rename_i x
    cases h
    refine .inr fun g vs w hg hr hs => ?_
    obtain ⟨v, us, rfl, h1, hr⟩ := hr.cons
    cases hr.nil
    obtain ⟨fn, e1, e2, e3, e4, e5⟩ := he
    exact ⟨v, w, by rw [run_callFunc_extern e1 e2 e3 e4 e5, show (Extern.AbiNoEscape.same [v].toArray).run P w = .ok v w from rfl]; rfl, g, G.le.refl g, h1, hs⟩
  ext call _ xs H r H' X H2 _ h k := by
    unfold runNE at h ⊢
    split at h <;> first | (cases h; done) | skip
    cases h
    exact ⟨_, rfl, k⟩
noncomputable def runAdd (xs : List V) (H : Heap) : Option (V × Heap) := match xs with
  | [.ptr n o, .int .i64 (.ofNat d)] => (match H.get n with
    | some (.cells S cs ex false) => (match cs[o]? with
      | some (.int .i64 (.ofNat x)) => cond (Nat.blt (x + d) 4294967296) (some (.int .i64 (.ofNat (x + d)), H.set n (.cells S (putRow cs o [.int .i64 (.ofNat (x + d))]) ex false))) none
      | _ => none)
    | _ => none)
  | _ => none
noncomputable def hAdd (f : FuncId) (he : IsExt P f (Extern.Atomic.update (Op.intArith .add) .i64 true)) : Handler P ng0 where
  f := f
  is _ := true
  run _ xs H := runAdd xs H
  ok call _ _ xs H r H' _ h := by
    unfold runAdd at h
    split at h <;> first | (cases h; done) | skip
    rename_i n o d
    split at h <;> first | (cases h; done) | skip
    rename_i S cs ex hn
    split at h <;> first | (cases h; done) | skip
    rename_i x hx
    obtain ⟨hb, h⟩ := cond_if h
    cases h
    have hlt : x + d < 4294967296 := by simpa [Nat.blt_eq] using hb
    refine .inr fun g vs w hg hr hs => ?_
    obtain ⟨v, us, rfl, h1, hr⟩ := hr.cons
    obtain ⟨u, us, rfl, h2, hr⟩ := hr.cons
    cases hr.nil
    cases h1 with
    | ptr n o hbn =>
    cases h2
    have ho : o < cs.length := (List.getElem?_eq_some_iff.1 hx).1
    obtain ⟨⟨z, hz, hzr⟩, hf, s'⟩ := store1 (o := o) hs hn (RelV.int .i64 (.ofNat (x + d))) rfl ho
    have := hzr _ hx
    cases this
    obtain ⟨fn, e1, e2, e3, e4, e5⟩ := he
    have hw : IntKind.i64.wrap (Int.ofNat x + Int.ofNat d) = Int.ofNat (x + d) := by
      rw [IntWalk.i64_in] <;> simp only [Int.ofNat_eq_natCast] <;> omega
    exact ⟨_, _, run_call_add e1 e2 e3 e4 _ e5 hz hf (by show Sem.run P (pure (Value.int .i64 (IntKind.i64.wrap (Int.ofNat x + Int.ofNat d)))) w = _; rw [hw]; rfl), g, G.le.refl g, .int _ _, s'⟩
  ext call _ xs H r H' X H2 _ h k := by
    unfold runAdd at h ⊢
    split at h <;> first | (cases h; done) | skip
    split at h <;> first | (cases h; done) | skip
    rename_i S cs ex hn
    split at h <;> first | (cases h; done) | skip
    rename_i hx
    obtain ⟨hb, h⟩ := cond_if h
    cases h
    simp only [k.get hn, hx, hb, cond_true]
    exact ⟨_, rfl, k.set (k.free hn) _⟩
def runQt (xs : List V) (H : Heap) : Option (V × Heap) := match xs with
  | [.str s] => cond (Nat.ble s.length 100000) (some (.str (quoteS s), H)) none
  | _ => none
theorem quoteS_len (s : List UInt8) : (quoteS s).length ≤ 4 * s.length + 2 := by
  have : (bodyS s).length ≤ 4 * s.length := by
    induction s with
    | nil => exact Nat.le_refl _
    | cons c s ih =>
      have := (q1_len c).2
      simp only [bodyS, List.length_append, List.length_cons]
      omega
  simp only [quoteS, List.length_cons, List.length_append, List.length_nil]
  omega
theorem qt_ok {xs : List V} {H H' : Heap} {r : V} (h : runQt xs H = some (r, H')) : OCall P ng0 7 xs H r H' := by
  unfold runQt at h
  split at h <;> first | (cases h; done) | skip
  rename_i s
  obtain ⟨hb, h⟩ := cond_if h
  cases h
  have hl := Nat.le_of_ble_eq_true hb
  refine .inl ⟨fun g vs w hg hr hs => ?_, enters noNG Tryz.func7 rfl⟩
  obtain ⟨v1, us, rfl, r1, hr⟩ := hr.cons
  cases hr.nil
  cases r1 with
  | str s q1 =>
  refine (quote_walk s w hl).mono ?_
  rintro e w' ⟨rfl, hbl⟩
  refine ⟨_, rfl, g, G.le.refl g, .str _ ?_, hs.grows ⟨hbl.os, hbl.tape, hbl.output, hbl.size, hbl.block⟩⟩
  have := quoteS_len s
  unfold maxLen
  omega
noncomputable def hQt : Handler P ng0 where
  f := 7
  is _ := true
  run _ xs H := runQt xs H
  ok _ _ _ xs H r H' _ h := qt_ok h
  ext _ _ xs H r H' X H2 _ h k := by
    unfold runQt at h ⊢
    split at h <;> first | (cases h; done) | skip
    obtain ⟨hb, h⟩ := cond_if h
    cases h
    exact ⟨H2, by simp [hb], k⟩
def unqV (s : List UInt8) : V := match unqS s with
  | some t => .tuple [.str t, .bool true]
  | none => .tuple [.str [], .bool false]
def runUq (xs : List V) (H : Heap) : Option (V × Heap) := match xs with
  | [.str s] => cond (Nat.ble s.length 100000) (some (unqV s, H)) none
  | _ => none
theorem unqV_rel {g : G} {s : List UInt8} (hl : s.length ≤ 100000) : RelV g (unqV s) (unqR s) := by
  unfold unqV unqR
  split
  · rename_i t ht
    rw [ht]
    have hq := (unqS_iff s t).1 ht
    have : t.length ≤ s.length := by
      rw [← hq]
      have : t.length ≤ (bodyS t).length := by
        clear ht hq
        induction t with
        | nil => exact Nat.le_refl _
        | cons c t ih =>
          have := (q1_len c).1
          simp only [bodyS, List.length_append, List.length_cons]
          omega
      simp only [quoteS, List.length_cons, List.length_append, List.length_nil]
      omega
    exact RelV.two (.str t (by unfold maxLen; omega)) (.bool true)
  · rename_i ht
    rw [ht]
    exact RelV.two (.str [] (by simp)) (.bool false)
theorem uq_ok {xs : List V} {H H' : Heap} {r : V} (h : runUq xs H = some (r, H')) : OCall P ng0 5 xs H r H' := by
  unfold runUq at h
  split at h <;> first | (cases h; done) | skip
  rename_i s
  obtain ⟨hb, h⟩ := cond_if h
  cases h
  have hl := Nat.le_of_ble_eq_true hb
  refine .inl ⟨fun g vs w hg hr hs => ?_, enters noNG Tryz.func5 rfl⟩
  obtain ⟨v1, us, rfl, r1, hr⟩ := hr.cons
  cases hr.nil
  cases r1 with
  | str s q1 =>
  have hi := hs.inv
  rw [hg] at hi
  obtain ⟨te, pe, he⟩ := Inv.errs hi 2 (.inl rfl)
  refine (unquote_walk s w hl ⟨_, he, .inr ⟨te, pe, rfl⟩⟩).mono ?_
  rintro e w' ⟨rfl, hbl⟩
  exact ⟨_, rfl, g, G.le.refl g, unqV_rel hl, hs.grows ⟨hbl.os, hbl.tape, hbl.output, hbl.size, hbl.block⟩⟩
noncomputable def hUq : Handler P ng0 where
  f := 5
  is _ := true
  run _ xs H := runUq xs H
  ok _ _ _ xs H r H' _ h := uq_ok h
  ext _ _ xs H r H' X H2 _ h k := by
    unfold runUq at h ⊢
    split at h <;> first | (cases h; done) | skip
    obtain ⟨hb, h⟩ := cond_if h
    cases h
    exact ⟨H2, by simp [hb], k⟩
end Go.Proofs.YtlhpnccdfgjifaaGreatDoor.Cc

namespace Go.Proofs.YtlhpnccdfgjifaaGreatDoor.Cc
open Go Go.RowKit Go.Maps Go.Sort Go.Shelf

theorem Sat.newRow {g : G} {H : Heap} {w w' : World} (h : Sat g H w) (hk : Grow w w') {x : O} (b k : Nat) (hb : g.bn H.nn = false) (hxg : x ≠ .gone) (h1 : w.heap.size ≤ b) (h2 : b < w'.heap.size)
    (hx : ObjAt (g.name H.nn b k hb) w' H.nn x) : Sat (g.name H.nn b k hb) (H.new x) w' := by
  refine h.put (g.le_name H.nn b k hb) hk.os hk.tape hk.output hk.size (Nat.le_trans h.keep.size h1) h2 (fun j hj _ => hk.block j hj) (fun m hm => ?_) (fun m hm => ?_) hx (if_pos rfl) (by simp [G.name]) hxg (fun m z hm => ?_) (fun m hm => ?_) (fun m z hm => ?_)
  · have hm : H.nn + 1 ≤ m := hm
    rw [Heap.get_new, if_neg (by omega)]; exact h.fresh m (by omega)
  · simp only [G.name, Bool.or_eq_true] at hm
    exact hm.imp (fun e => Nat.eq_of_beq_eq_true e) id
  · rw [Heap.get_new] at hm
    by_cases e : m = H.nn
    · rw [if_pos e] at hm; exact .inl ⟨e, (Option.some.inj hm).symm⟩
    · rw [if_neg e] at hm
      refine .inr (.inl ⟨e, hm, fun hz => ?_⟩)
      have := (h.lt m z hm).resolve_left hz
      omega
  · rw [Heap.get_new]
    by_cases e : m = H.nn
    · exact ⟨x, if_pos e⟩
    · rw [if_neg e]; exact hm.resolve_left e
  · have hz := h.con m z hm
    rw [Heap.get_new, if_neg (by rintro rfl; rw [h.fresh _ (Nat.le_refl _)] at hz; cases hz)]; exact hz

def strsOf : List V → Option (List (List UInt8))
  | [] => some []
  | .str s :: r => (match strsOf r with | some l => some (s :: l) | none => none)
  | _ => none
noncomputable def runJoin (xs : List V) (H : Heap) : Option (V × Heap) := match xs with
  | [.sl 1 m o k, .str sep] => (match objCells H m with
    | some cs => (match strsOf ((cs.drop o).take k) with
      | some l => cond (Nat.beq l.length k && (Nat.ble k 1000000 && Nat.ble (Lib.join l sep).length 1000000)) (some (.str (Lib.join l sep), H)) none
      | none => none)
    | none => none)
  | _ => none
theorem strsOf_get : ∀ {cs : List V} {l : List (List UInt8)}, strsOf cs = some l → ∀ (i : Nat) (s : List UInt8), l[i]? = some s → cs[i]? = some (V.str s)
  | [], l, h, i, s, hi => by cases h; cases hi
  | .str t :: r, l, h, i, s, hi => by
    simp only [strsOf] at h
    split at h <;> first | (cases h; done) | skip
    rename_i l' hl
    cases h
    cases i with
    | zero => cases hi; rfl
    | succ i => exact strsOf_get hl i s hi
theorem join_ok {xs : List V} {H H' : Heap} {r : V} (h : runJoin xs H = some (r, H')) : OCall P ng0 84 xs H r H' := by
  unfold runJoin at h
  split at h <;> first | (cases h; done) | skip
  rename_i m o k sep
  split at h <;> first | (cases h; done) | skip
  rename_i cs hn
  split at h <;> first | (cases h; done) | skip
  rename_i l hl
  obtain ⟨hb, h⟩ := cond_if h
  cases h
  simp only [Bool.and_eq_true] at hb
  obtain ⟨b1, b2, b3⟩ := hb
  have b1 := Nat.eq_of_beq_eq_true b1
  have b2 := Nat.le_of_ble_eq_true b2
  have b3 := Nat.le_of_ble_eq_true b3
  refine .inl ⟨fun g vs w hg hr hs => ?_, enters noNG Tryz.func84 rfl⟩
  obtain ⟨v1, us, rfl, r1, hr⟩ := hr.cons
  obtain ⟨v2, us, rfl, r2, hr⟩ := hr.cons
  cases hr.nil
  cases r2 with
  | str sep q2 =>
  cases r1 with
  | sl _ _ _ _ cap hbn hv hlen hcap =>
  obtain ⟨S', ex, ro, hgt, _, vs, fz, ⟨T', q1, _⟩, q2', q3, q4, q5, q6⟩ := objCells_spec hs hn
  have hlt : g.nm m < w.heap.size := by
    have := (Array.getElem?_eq_some_iff.1 q1).1
    exact this
  have hxl : (l.map fun s => (⟨s.toArray⟩ : ByteArray)).length = k := by simpa using b1
  have hmap : (l.map fun s => (⟨s.toArray⟩ : ByteArray)).map (·.data.toList) = l := by rw [List.map_map]; exact List.map_id' l
  have key := Tryz.strings_Join (g.nm m) o cap (l.map fun s => ⟨s.toArray⟩) ⟨sep.toArray⟩ w (fun j x hj => ?_) hlt (by omega) (by omega) (by rw [hmap]; show (Lib.join l sep).length ≤ _; omega)
  · rw [hxl, hmap] at key
    refine key.mono ?_
    rintro e w' ⟨rfl, hbl⟩
    exact ⟨_, rfl, g, G.le.refl g, .str (Lib.join l sep) (by unfold maxLen; omega), hs.grows ⟨hbl.os, hbl.tape, hbl.output, hbl.size, hbl.block⟩⟩
  · rw [List.getElem?_map] at hj
    cases hls : l[j]? with
    | none => rw [hls] at hj; cases hj
    | some s =>
      rw [hls] at hj
      cases hj
      have h1 := strsOf_get hl j s hls
      have hjk : j < k := by have := (List.getElem?_eq_some_iff.1 hls).1; omega
      rw [List.getElem?_take_of_lt hjk, List.getElem?_drop] at h1
      have ho : o + j < cs.length := (List.getElem?_eq_some_iff.1 h1).1
      have hrv := q6.2 (o + j) _ (vs[o + j]'(by omega)) h1 (by simp only [Array.getElem?_extract]; rw [if_pos (by omega)]; simp)
      have hc := cell_of (w := w) (o := o + j) (v := vs[o + j]'(by omega)) q1 (by simp)
      generalize vs[o + j]'(by omega) = u at hrv hc
      cases hrv
      exact hc
def isJoin (xs : List V) : Bool := match xs with
  | [.sl _ _ _ _, .str _] => true
  | _ => false
noncomputable def hJoin : Handler P ng0 where
  f := 84
  is := isJoin
  run _ xs H := runJoin xs H
  ok _ _ _ xs H r H' _ h := join_ok h
  ext _ _ xs H r H' X H2 _ h k := by
    unfold runJoin at h ⊢
    split at h <;> first | (cases h; done) | skip
    split at h <;> first | (cases h; done) | skip
    rename_i cs hn
    rw [k.cells hn]
    simp only
    split at h <;> first | (cases h; done) | skip
    rename_i l hl
    obtain ⟨hb, h⟩ := cond_if h
    cases h
    simp only [hb, cond_true]
    exact ⟨_, rfl, k⟩

theorem sortsA (m : Nat) : AnyZI.SortsIn Tryz.prog Tryz.sortedA_ren Fence.wide m :=
  ⟨fun blk off cap ss W hH hblk hsz => callsIn_wide.2 (AnyM.slices_Sort_int Tryz.sortA blk off cap ss W hH hblk hsz),
   fun p cap W => callsIn_wide.2 (AnyM.slices_Sort_int_none Tryz.sortA p cap W)⟩
theorem insert_perm {H : Type} (x : Lit × DataW H) : ∀ l : List (Lit × DataW H), (DataW.insert x l).Perm (x :: l)
  | [] => .refl _
  | y :: r => by
    unfold DataW.insert
    split
    · exact .refl _
    · exact ((insert_perm x r).cons y).trans (.swap x y r)
theorem foldr_insert_perm {H : Type} : ∀ l : List (Lit × DataW H), (l.foldr DataW.insert []).Perm l
  | [] => .refl _
  | x :: r => (insert_perm x _).trans ((foldr_insert_perm r).cons x)
theorem rg_of {H : Type} {P : Program} {k : TypeId} {R : Value → Option (DataW H × List MemPlace)} {x : MapEntry} {y : Lit × DataW H} (h : Go.WideElems.rd P k R x = some y) : Go.WideElems.rg P k R x = y := by
  unfold Go.WideElems.rg; rw [h]; rfl
def noR : Value → Option (DataW Unit × List MemPlace) := fun _ => some (.nil, [])
theorem keyOf3 {c : Int} (hc : -9223372036854775808 ≤ c ∧ c ≤ 9223372036854775807) : keyOf Tryz.prog 3 (.int .i64 c) = some (.int .i64 c) := by
  have hw : (Lit.int .i64 c).wf = true := by
    simp [Lit.wf, IntKind.min, IntKind.max, IntKind.bits, IntKind.signed]; omega
  unfold keyOf
  simp only [Tryz.underlying3]
  unfold mapKey
  simp only [Tryz.underlying3]
  simp [hw]
def insI (x : Int) : List Int → List Int
  | [] => [x]
  | y :: r => cond (decide (x ≤ y)) (x :: y :: r) (y :: insI x r)
def sortI : List Int → List Int
  | [] => []
  | x :: r => insI x (sortI r)
theorem insI_perm (x : Int) : ∀ l, (insI x l).Perm (x :: l)
  | [] => .refl _
  | y :: r => by
    unfold insI
    cases decide (x ≤ y) with
    | true => exact .refl _
    | false => exact ((insI_perm x r).cons y).trans (.swap x y r)
theorem sortI_perm : ∀ l, (sortI l).Perm l
  | [] => .refl _
  | x :: r => (insI_perm x _).trans ((sortI_perm r).cons x)
theorem insI_sorted (x : Int) : ∀ {l : List Int}, l.Pairwise (· ≤ ·) → (insI x l).Pairwise (· ≤ ·)
  | [], _ => by simp [insI]
  | y :: r, h => by
    unfold insI
    obtain ⟨h1, h2⟩ := List.pairwise_cons.1 h
    by_cases hxy : x ≤ y
    · rw [decide_eq_true hxy]
      refine List.pairwise_cons.2 ⟨fun z hz => ?_, h⟩
      rcases List.mem_cons.1 hz with rfl | hz
      · exact hxy
      · exact Int.le_trans hxy (h1 z hz)
    · rw [decide_eq_false hxy]
      refine List.pairwise_cons.2 ⟨fun z hz => ?_, insI_sorted x h2⟩
      rcases List.mem_cons.1 ((insI_perm x r).mem_iff.1 hz) with rfl | hz
      · omega
      · exact h1 z hz
theorem sortI_sorted : ∀ l, (sortI l).Pairwise (· ≤ ·)
  | [] => .nil
  | x :: r => insI_sorted x (sortI_sorted r)
theorem mergeSort_sortI {l l' : List Int} (h : l.Perm l') : l.mergeSort (fun x y => decide (x ≤ y)) = sortI l' := by
  have tr : ∀ a b c : Int, decide (a ≤ b) = true → decide (b ≤ c) = true → decide (a ≤ c) = true := fun a b c h1 h2 => by simp only [decide_eq_true_eq] at *; omega
  have tot : ∀ a b : Int, (decide (a ≤ b) || decide (b ≤ a)) = true := fun a b => by simp only [Bool.or_eq_true, decide_eq_true_eq]; omega
  refine List.Perm.eq_of_pairwise (le := fun a b => a ≤ b) (fun a b _ _ h1 h2 => by omega) ((List.pairwise_mergeSort tr tot l).imp (fun h => by simpa using h)) (sortI_sorted l') (((List.mergeSort_perm l _).trans h).trans (sortI_perm l').symm)

def freshN (n : Nat) : List (Int × Nat × V) → Bool
  | [] => true
  | q :: r => cond (Nat.beq q.2.1 n) false (freshN n r)
def freshI (c : Int) : List (Int × Nat × V) → Bool
  | [] => true
  | q :: r => cond (decide (q.1 = c)) false (freshI c r)
def mapOK (clock : Nat) : List (Int × Nat × V) → Bool
  | [] => true
  | q :: r => Nat.blt q.2.1 clock && (freshN q.2.1 r && (freshI q.1 r && (decide (-9223372036854775808 ≤ q.1) && (decide (q.1 ≤ 9223372036854775807) && mapOK clock r))))
theorem freshN_spec {n : Nat} : ∀ {l}, freshN n l = true → ∀ q ∈ l, q.2.1 ≠ n
  | q :: r, h, p, hp => by
    unfold freshN at h
    cases hb : Nat.beq q.2.1 n with
    | true => rw [hb] at h; cases h
    | false =>
      rw [hb] at h
      rcases List.mem_cons.1 hp with rfl | hp
      · intro e; rw [e, Nat.beq_refl] at hb; cases hb
      · exact freshN_spec h p hp
theorem freshI_spec {c : Int} : ∀ {l}, freshI c l = true → ∀ q ∈ l, q.1 ≠ c
  | q :: r, h, p, hp => by
    unfold freshI at h
    by_cases hb : q.1 = c
    · rw [decide_eq_true hb] at h; cases h
    · rw [decide_eq_false hb] at h
      rcases List.mem_cons.1 hp with rfl | hp
      · exact hb
      · exact freshI_spec h p hp
theorem RelM.keys {g : G} {es : List (Int × Nat × V)} {l : List MapEntry} (h : RelM g es l) : l.map (·.key) = es.map (fun q => Value.int .i64 q.1) ∧ l.map (·.born) = es.map (fun q => q.2.1) := by
  induction h with
  | nil => exact ⟨rfl, rfl⟩
  | @cons c b x es e l h hb hv r ih => simp only [List.map_cons, ih.1, ih.2, h, hb, and_self]
theorem mapOK_spec {clock : Nat} : ∀ {es}, mapOK clock es = true → (∀ q ∈ es, q.2.1 < clock) ∧ (es.map (fun q => q.2.1)).Nodup ∧ (es.map (fun q => Value.int .i64 q.1)).Nodup ∧ ∀ q ∈ es, -9223372036854775808 ≤ q.1 ∧ q.1 ≤ 9223372036854775807
  | [], _ => ⟨by simp, by simp, by simp, by simp⟩
  | q :: r, h => by
    simp only [mapOK, Bool.and_eq_true, decide_eq_true_eq] at h
    obtain ⟨h1, h2, h3, h4, h5, h6⟩ := h
    obtain ⟨i1, i2, i3, i4⟩ := mapOK_spec h6
    refine ⟨fun p hp => ?_, ?_, ?_, fun p hp => ?_⟩
    · rcases List.mem_cons.1 hp with rfl | hp
      · simpa [Nat.blt_eq] using h1
      · exact i1 p hp
    · rw [List.map_cons, List.nodup_cons]
      refine ⟨fun hm => ?_, i2⟩
      obtain ⟨p, hp, e⟩ := List.mem_map.1 hm
      exact freshN_spec h2 p hp e
    · rw [List.map_cons, List.nodup_cons]
      refine ⟨fun hm => ?_, i3⟩
      obtain ⟨p, hp, e⟩ := List.mem_map.1 hm
      exact freshI_spec h3 p hp (by injection e)
    · rcases List.mem_cons.1 hp with rfl | hp
      · exact ⟨h4, h5⟩
      · exact i4 p hp
theorem owns_of {g : G} {w : World} {m clock : Nat} {es : List (Int × Nat × V)} (h : ObjAt g w m (.map es clock)) (hl : es.length ≤ 200000) (hk : mapOK clock es = true) :
    ∃ D : DataW Unit, w.ownsMap Tryz.prog 3 noR (g.nm m) es.length D ∧ Maps.size D = es.length ∧ (intKeys D).Perm (es.map (·.1)) := by
  obtain ⟨ents, hw, hr⟩ := h
  obtain ⟨k1, k2, k3, k4⟩ := mapOK_spec hk
  obtain ⟨e1, e2⟩ := hr.keys
  have hlen : ents.size = es.length := by
    have := congrArg List.length e1
    simpa using this
  have hkey : ∀ x ∈ ents.toList, ∃ c, x.key = .int .i64 c ∧ (-9223372036854775808 ≤ c ∧ c ≤ 9223372036854775807) := by
    intro x hx
    have : x.key ∈ ents.toList.map (·.key) := List.mem_map.2 ⟨x, hx, rfl⟩
    rw [e1] at this
    obtain ⟨q, hq, e⟩ := List.mem_map.1 this
    exact ⟨q.1, e.symm, k4 q hq⟩
  have hst : Go.MapKept.Stamped ents clock := by
    refine ⟨fun x hx => ?_, by rw [e2]; exact k2, by rw [e1]; exact k3⟩
    have : x.born ∈ ents.toList.map (·.born) := List.mem_map.2 ⟨x, hx, rfl⟩
    rw [e2] at this
    obtain ⟨q, hq, e⟩ := List.mem_map.1 this
    rw [← e]; exact k1 q hq
  have hrd : ∀ x ∈ ents.toList, ∃ c, x.key = .int .i64 c ∧ Go.WideElems.rd Tryz.prog 3 noR x = some (.int .i64 c, .nil) := by
    intro x hx
    obtain ⟨c, hk, hc⟩ := hkey x hx
    refine ⟨c, hk, ?_⟩
    unfold Go.WideElems.rd
    rw [hk, keyOf3 hc]; rfl
  refine ⟨.map ((ents.toList.map (Go.WideElems.rg Tryz.prog 3 noR)).foldr DataW.insert []), ⟨ents, clock, hw, ⟨by unfold maxLen; omega, hst, fun x hx => ?_⟩, by omega, rfl⟩, ?_, ?_⟩
  · obtain ⟨c, _, h⟩ := hrd x hx; exact ⟨_, h⟩
  · show (List.foldr DataW.insert [] _).length = _
    rw [(foldr_insert_perm _).length_eq, List.length_map, Array.length_toList, hlen]
  · show ((List.foldr DataW.insert [] (ents.toList.map (Go.WideElems.rg Tryz.prog 3 noR))).map fun (p : Lit × DataW Unit) => Go.intOf p.1).Perm _
    refine ((foldr_insert_perm _).map _).trans ?_
    rw [List.map_map]
    have e3 : ents.toList.map ((fun (p : Lit × DataW Unit) => Go.intOf p.1) ∘ Go.WideElems.rg Tryz.prog 3 noR) = es.map (·.1) := by
      have : (ents.toList.map ((fun (p : Lit × DataW Unit) => Go.intOf p.1) ∘ Go.WideElems.rg Tryz.prog 3 noR)).map (fun c => Value.int .i64 c) = ents.toList.map (·.key) := by
        rw [List.map_map]
        refine List.map_congr_left fun x hx => ?_
        obtain ⟨c, hk', hc⟩ := hrd x hx
        have e1 := rg_of hc
        rw [hk']
        generalize Go.WideElems.rg Tryz.prog 3 noR = F at e1 ⊢
        simp only [Function.comp_apply, e1]
        rfl
      rw [e1] at this
      have inj : ∀ {a b : List Int}, a.map (fun c => Value.int .i64 c) = b.map (fun c => Value.int .i64 c) → a = b := by
        intro a
        induction a with
        | nil => intro b h; cases b with
          | nil => rfl
          | cons => simp at h
        | cons x a ih => intro b h; cases b with
          | nil => simp at h
          | cons y b =>
            rw [List.map_cons, List.map_cons] at h
            injection h with h1 h2
            injection h1 with _ h3
            rw [h3, ih h2]
      refine inj ?_
      rw [this, List.map_map]; rfl
    rw [e3]
noncomputable def runSorted (xs : List V) (H : Heap) : Option (V × Heap) := match xs with
  | [.func f [.ptr q 0]] => cond (Nat.beq f 165 || (Nat.beq f 217 || Nat.beq f 362)) (match objCells H q with
    | some (.map m :: _) => (match H.get m with
      | some (.map es clock) => cond (Nat.ble es.length 100000 && mapOK clock es) (match es with
        | [] => some (.nilS, H)
        | _ => some (.sl 1 H.nn 0 es.length, H.new (.cells 3 ((sortI (es.map (·.1))).map (.int .i64)) false false))) none
      | _ => none)
    | _ => none) none
  | _ => none
end Go.Proofs.YtlhpnccdfgjifaaGreatDoor.Cc

namespace Go.Proofs.YtlhpnccdfgjifaaGreatDoor.Cc
open Go Go.RowKit Go.Maps Go.Sort Go.Shelf

set_option maxHeartbeats 1000000 in
theorem sorted_calls (f q m N : Nat) (D : DataW Unit) (w : World) (hf : f = 165 ∨ f = 217 ∨ f = 362) (hl : N ≤ 200000) (hq : q < w.heap.size) (hc : w.cell? ⟨q, 0, none⟩ = some (.map (some m))) (hown : w.ownsMap Tryz.prog 3 noR m N D) (hsz : Maps.size D = N) :
    Calls Tryz.prog 85 #[.func (.func f) #[] #[.pointer (some ⟨q, 0, none⟩)]] w fun e w' => ∃ (v : Value) (ss : List Int), e = .returned v ∧ ss.Perm (intKeys D) ∧
      w'.ownsRow w.heap.size 3 1 v ss.length ((ss.mergeSort (fun x y => decide (x ≤ y))).map encZ) ∧ (v = .slice none 0 0 ↔ ss = []) ∧ Below w.heap.size w w' := by
  have key : ∀ e85, CallsIn Fence.wide 5 Tryz.prog 85 #[.func (.func f) #[] #[.pointer (some ⟨q, 0, none⟩)]] w e85 → Calls Tryz.prog 85 #[.func (.func f) #[] #[.pointer (some ⟨q, 0, none⟩)]] w e85 := fun _ h => callsIn_wide.1 h
  refine key _ ?_
  rcases hf with rfl | rfl | rfl
  · have hseq : SeqGives Fence.wide 2 Tryz.prog 165 #[.pointer (some ⟨q, 0, none⟩)] encZ (fun ss => ss.Perm (intKeys D)) (Maps.size D) w :=
      AnyZI.keys_gives (ρ := Tryz.keysA_ren) { Tryz.keysA with } Fence.wide _ trivial rfl (by omega) q m N D w hq hc hown
    exact AnyZI.sorted_in Tryz.sortedA Fence.wide 5 trivial trivial trivial trivial rfl (by omega) (sortsA _) (enters noNG Tryz.func164 rfl) 165 #[.pointer (some ⟨q, 0, none⟩)] trivial (enters noNG Tryz.func165 rfl) _ _ (by rw [hsz]; unfold maxLen; omega) (by rw [hsz]; omega) w hseq
  · have hseq : SeqGives Fence.wide 2 Tryz.prog 217 #[.pointer (some ⟨q, 0, none⟩)] encZ (fun ss => ss.Perm (intKeys D)) (Maps.size D) w :=
      AnyZI.keys_gives (ρ := Tryz.keysB_ren) { Tryz.keysB with } Fence.wide _ trivial rfl (by omega) q m N D w hq hc hown
    exact AnyZI.sorted_in Tryz.sortedA Fence.wide 5 trivial trivial trivial trivial rfl (by omega) (sortsA _) (enters noNG Tryz.func164 rfl) 217 #[.pointer (some ⟨q, 0, none⟩)] trivial (enters noNG Tryz.func217 rfl) _ _ (by rw [hsz]; unfold maxLen; omega) (by rw [hsz]; omega) w hseq
  · have hseq : SeqGives Fence.wide 2 Tryz.prog 362 #[.pointer (some ⟨q, 0, none⟩)] encZ (fun ss => ss.Perm (intKeys D)) (Maps.size D) w :=
      AnyZI.keys_gives (ρ := Tryz.keysC_ren) { Tryz.keysC with } Fence.wide _ trivial rfl (by omega) q m N D w hq hc hown
    exact AnyZI.sorted_in Tryz.sortedA Fence.wide 5 trivial trivial trivial trivial rfl (by omega) (sortsA _) (enters noNG Tryz.func164 rfl) 362 #[.pointer (some ⟨q, 0, none⟩)] trivial (enters noNG Tryz.func362 rfl) _ _ (by rw [hsz]; unfold maxLen; omega) (by rw [hsz]; omega) w hseq

theorem rel_ints {g : G} : ∀ {l : List Int} (i : Nat) (c : V) (v : Value), (l.map (V.int .i64))[i]? = some c → (l.map encZ)[i]? = some v → RelV g c v
  | [], i, c, v, h, _ => by simp at h
  | x :: l, 0, c, v, h, k => by cases h; cases k; exact .int _ _
  | x :: l, i + 1, c, v, h, k => rel_ints (l := l) i c v h k
theorem sorted_ok {xs : List V} {H H' : Heap} {r : V} (h : runSorted xs H = some (r, H')) : OCall P ng0 85 xs H r H' := by
  unfold runSorted at h
  split at h <;> first | (cases h; done) | skip
  rename_i f q
  obtain ⟨hf, h⟩ := cond_if h
  have hf : f = 165 ∨ f = 217 ∨ f = 362 := by
    simp only [Bool.or_eq_true] at hf
    rcases hf with e | e | e
    · exact .inl (Nat.eq_of_beq_eq_true e)
    · exact .inr (.inl (Nat.eq_of_beq_eq_true e))
    · exact .inr (.inr (Nat.eq_of_beq_eq_true e))
  split at h <;> first | (cases h; done) | skip
  rename_i m r' hn
  split at h <;> first | (cases h; done) | skip
  rename_i es clock hm
  obtain ⟨hb, h⟩ := cond_if h
  simp only [Bool.and_eq_true] at hb
  have hl := Nat.le_of_ble_eq_true hb.1
  refine .inl ⟨fun g vs w hg hr hs => ?_, enters noNG Tryz.func85 rfl⟩
  obtain ⟨v1, us, rfl, r1, hr⟩ := hr.cons
  cases hr.nil
  cases r1 with
  | func f cs us hn' hr' =>
  match us, hn' with
  | ⟨[u]⟩, _ =>
  have hu := hr' 0 _ u rfl rfl
  cases hu with
  | ptr q o hbq =>
  obtain ⟨S', ex, ro, hgt, _, vs, fz, ⟨T', q1, _⟩, q2, q3, q4, q5, q6⟩ := objCells_spec hs hn
  have hlen : 0 < vs.size := Nat.lt_of_lt_of_le (by simp) q4
  have hrv := q6.2 0 _ (vs[0]'hlen) rfl (by simp only [Array.getElem?_extract]; rw [if_pos (by simp only [List.length_cons]; omega)]; simp)
  have hc := cell_of (w := w) (o := 0) (v := vs[0]'hlen) q1 (by simp)
  generalize vs[0]'hlen = u at hrv hc
  cases hrv with
  | map m hbm =>
  have hqlt : g.nm q < w.heap.size := (Array.getElem?_eq_some_iff.1 q1).1
  obtain ⟨D, hown, hsz, hperm⟩ := owns_of (hs.at_ _ _ hm) (by omega) hb.2
  refine (sorted_calls f (g.nm q) (g.nm m) es.length D w hf (by omega) hqlt hc hown hsz).mono ?_
  rintro e w' ⟨v, ss, rfl, hp, hrow, hnil, hbl⟩
  have hgrow : Grow w w' := ⟨hbl.os, hbl.tape, hbl.output, hbl.size, hbl.block⟩
  have hpp : ss.Perm (es.map (·.1)) := hp.trans hperm
  have hsl : ss.length = es.length := by rw [hpp.length_eq, List.length_map]
  rw [mergeSort_sortI hpp] at hrow
  cases es with
  | nil =>
    cases h
    have : ss = [] := List.eq_nil_of_length_eq_zero hsl
    refine ⟨_, rfl, g, G.le.refl g, ?_, hs.grows hgrow⟩
    rw [hnil.2 this]
    exact .nilS
  | cons e1 es =>
    have h : some (V.sl 1 H.nn 0 (e1 :: es).length, H.new (.cells 3 ((sortI ((e1 :: es).map (·.1))).map (.int .i64)) false false)) = some (r, H') := h
    rcases hrow.2 with ⟨_, hz⟩ | ⟨gb, cap, cur, rfl, hbase, hgb, r1, r2, r3, r4⟩
    · rw [hsl] at hz; simp at hz
    have hslen := hrow.1
    rw [hsl] at r1 r4 hslen
    generalize hL : e1 :: es = L at *
    cases h
    have hb := hs.nn_not_bn
    have hle := G.le_name g H.nn gb cur.size hb
    have hbn : (g.name H.nn gb cur.size hb).bn H.nn = true := by simp [G.name]
    have hnm : (g.name H.nn gb cur.size hb).nm H.nn = gb := by simp [G.name]
    have hvs : (g.name H.nn gb cur.size hb).vs H.nn = cur.size := by simp [G.name]
    have hlt : gb < w'.heap.size := (Array.getElem?_eq_some_iff.1 hgb).1
    refine ⟨_, rfl, _, hle, ?_, hs.newRow hgrow gb cur.size hb (by simp) hbase hlt ⟨cur, (0, 0), ⟨3, by rw [hnm]; exact hgb, fun _ => rfl⟩, fun _ => .inl rfl, hvs.symm, ?_, fun h => (by cases h), ?_, ?_⟩⟩
    · have := RelV.sl (g := g.name H.nn gb cur.size hb) 1 H.nn 0 L.length cap hbn (by rw [hvs, r3]; omega) r1 r2
      rw [hnm] at this
      rwa [hsl]
    · rw [List.length_map] at hslen ⊢
      omega
    · rw [List.length_map] at hslen ⊢
      simp only [Array.size_extract]
      omega
    · intro i c v h1 h2
      refine rel_ints (l := sortI (L.map (·.1))) i c v h1 ?_
      have hi : i < (sortI (L.map (·.1))).length := by
        have := (List.getElem?_eq_some_iff.1 h1).1
        simpa using this
      rw [List.length_map] at hslen
      rw [← r4, List.getElem?_take_of_lt (by omega)]
      rw [Array.getElem?_extract] at h2
      split at h2
      · rw [Array.getElem?_toList]; simpa using h2
      · cases h2
def isSorted (xs : List V) : Bool := match xs with
  | [.func _ [.ptr _ _]] => true
  | _ => false
noncomputable def hSorted : Handler P ng0 where
  f := 85
  is := isSorted
  run _ xs H := runSorted xs H
  ok _ _ _ xs H r H' _ h := sorted_ok h
  ext _ _ xs H r H' X H2 _ h k := by
    unfold runSorted at h ⊢
    split at h <;> first | (cases h; done) | skip
    rename_i f q
    obtain ⟨hf, h⟩ := cond_if h
    simp only [hf, cond_true]
    split at h <;> first | (cases h; done) | skip
    rename_i m r' hn
    rw [k.cells hn]
    simp only
    split at h <;> first | (cases h; done) | skip
    rename_i es clock hm
    rw [k.get hm]
    simp only
    obtain ⟨hb, h⟩ := cond_if h
    simp only [hb, cond_true]
    cases es with
    | nil => cases h; exact ⟨H2, rfl, k⟩
    | cons e1 es =>
      have h : some (V.sl 1 H.nn 0 (e1 :: es).length, H.new (.cells 3 ((sortI ((e1 :: es).map (·.1))).map (.int .i64)) false false)) = some (r, H') := h
      cases h
      exact ⟨H2.new (.cells 3 ((sortI ((e1 :: es).map (·.1))).map (.int .i64)) false false), by rw [k.nn], k.new _⟩
noncomputable def hs1 : List (Handler P ng0) := hHP 17 Tryz.strings_HasPrefix (enters noNG Tryz.func17 rfl) :: hHP 51 Tryz.stringslite_HasPrefix (enters noNG Tryz.func51 rfl) :: hGrow :: hJoin :: hQt :: hUq :: hSorted ::
  hNE 104 (ext_of Tryz.func104 ⟨by kernel_rfl, by kernel_rfl, by kernel_rfl, by kernel_rfl⟩) ::
  hStore 75 (ext_of Tryz.func75 ⟨by kernel_rfl, by kernel_rfl, by kernel_rfl, by kernel_rfl⟩) ::
  hAdd 214 (ext_of Tryz.func214 ⟨by kernel_rfl, by kernel_rfl, by kernel_rfl, by kernel_rfl⟩) :: hs0
end Go.Proofs.YtlhpnccdfgjifaaGreatDoor.Cc

namespace Go.Proofs.YtlhpnccdfgjifaaGreatDoor.Cc
open Go Go.RowKit

theorem isH_of {l : List (Handler P ng0)} {call : CallF} {f : FuncId} {xs : List V} {H H' : Heap} {r : V} (h : modH l call f xs H = some (r, H')) : isH l f xs = true := by
  unfold modH at h
  unfold isH
  cases hk : findH f xs l with
  | none => rw [hk] at h; cases h
  | some k => rfl
def mask (l : Nat) (f : Nat) : Bool := Nat.beq (Nat.land (Nat.shiftRight l f) 1) 1
noncomputable def isMk (m : Nat) (l : List (Handler P ng0)) : FuncId → List V → Bool := fun f xs => cond (mask m f) (isH l f xs) false
noncomputable abbrev runM (m : Nat) (l : List (Handler P ng0)) (n : Nat) : CallF := evF P (mkTy P) ng0 idl0 (isMk m l) (modH l) n
theorem runM_ok (m : Nat) (l : List (Handler P ng0)) (n : Nat) : CallOK P ng0 (runM m l n) := evF_sound mixed noNG idl0_ok (fun call hc hx f xs H r H' _ e => modH_ok l call hc hx f xs H r H' (isH_of e) e) (fun call hx f xs H r H' X H2 _ e k => modH_ext l call hx f xs H r H' X H2 (isH_of e) e k) n
theorem runM_ext (m : Nat) (l : List (Handler P ng0)) (n : Nat) : CallExt (runM m l n) := evF_ext (fun call hx f xs H r H' X H2 _ e k => modH_ext l call hx f xs H r H' X H2 (isH_of e) e k) n
theorem pureM {m : Nat} {l : List (Handler P ng0)} {n : Nat} {f : FuncId} {xs : List V} {r : V} (h : comes (runM m l n f xs h0) r = true) (hx : V.withinL (fun _ => false) xs = true) (hr : r.within (fun _ => false) = true) (hf : f < YB := by decide) : ∀ H, OCall P ng0 f xs H r H := by
  obtain ⟨H', h⟩ := comes_spec h
  exact pure_call consts ((runM_ok m l n).1 f xs h0 r H' hf h) ((within_mono (fun _ h => by cases h)).2 xs hx) ((within_mono (fun _ h => by cases h)).1 r hr)

noncomputable def bodyF (f : FuncId) : Code := match P.funcs[f]? with
  | some g => g.body.getD .skip
  | none => .skip
noncomputable def restF (f : FuncId) : Nat → Code
  | 0 => bodyF f
  | k + 1 => seqR (restF f k)
def loopBodyB : Code → Code
  | .block _ (.loop b) => b
  | c => c
def isBLB (id : Nat) : Code → Bool
  | .block i (.loop _) => Nat.beq i id
  | _ => false
theorem inner_at {c : Code} (hs : isSeq c = true) {B : World} {Q : Exit → Act → World → Prop} {n : Nat} {e : Nat → Option V} {H : Heap}
    (h : ∀ g a w, g.base = B → g.ng = ng0 → RelAct g n [] e a → Sat g H w → (seqL c).wp P (Exit.then ((seqR c).wp P Q) Q) a w) :
    ∀ g a w, g.base = B → g.ng = ng0 → RelAct g n [] e a → Sat g H w → c.wp P Q a w := by
  cases c <;> first | (cases hs; done) | skip
  exact fun g a w hb hg hr hs => wp_seq (h g a w hb hg hr hs)
theorem enter_at {c : Code} {id : Nat} (hb : isBLB id c = true) {B : World} {Q : Exit → Act → World → Prop} {n : Nat} {e : Nat → Option V} {H : Heap}
    (h : ∀ g a w, g.base = B → g.ng = ng0 → RelAct g n [] e a → Sat g H w → LoopWP none 0 P (loopBodyB c) (Exit.inBlock id Q) a w) :
    ∀ g a w, g.base = B → g.ng = ng0 → RelAct g n [] e a → Sat g H w → c.wp P Q a w := by
  intro g a w hbb hg hr hs
  unfold isBLB at hb
  split at hb <;> first | (cases hb; done) | skip
  rename_i _ i b
  have h := h g a w hbb hg hr hs
  have := Nat.eq_of_beq_eq_true hb
  subst this
  have hl : (Code.loop b).wpIn .wide 0 P (Exit.inBlock i Q) a w := by
    intro fr k cs hro hF hroom
    obtain ⟨ex, a', w', hq, harr⟩ := h fr k cs hro
    exact ⟨ex, a', w', hq, .of_steps (.one (FW_fenced none _ _) stepR_loop) harr⟩
  exact wp_block (wpIn_wide.1 hl)
noncomputable def evRs (call : CallF) (n F : Nat) (b : Code) : Nat → Tr V → Heap → Option (Ex × List DV × Tr V × Heap)
  | 0, e, H => some (.normal, [], e, H)
  | k + 1, e, H => match evC P (mkTy P) ng0 call n F b [] e H with
    | some (.normal, [], e1, H1) => evRs call n F b k e1 H1
    | _ => none
section
variable {call : CallF} (hc : CallOK P ng0 call) (hx : CallExt call)
include hc hx
theorem rounds {n F : Nat} {b : Code} {B : World} {Q : Exit → Act → World → Prop} : ∀ {k : Nat} {e0 e : Tr V} {H0 H : Heap}, evRs call n F b k e0 H0 = some (.normal, [], e, H) →
    (∀ g c w, g.base = B → g.ng = ng0 → RelAct g n [] e.get c → Sat g H w → LoopWP none 0 P b Q c w) →
    ∀ g c w, g.base = B → g.ng = ng0 → RelAct g n [] e0.get c → Sat g H0 w → LoopWP none 0 P b Q c w
  | 0, e0, e, H0, H, h, next => by cases h; exact next
  | k + 1, e0, e, H0, H, h, next => by
    simp only [evRs] at h
    split at h <;> first | (cases h; done) | skip
    rename_i e1 H1 hev
    intro g c w hb hg hr hs
    refine LoopWP.go (wpIn_mono ((evC_sound (rn := none) (r := none) (m := 0) (mkTy_ok P) mixed hc hx noNG F).1 b [] _ _ _ _ _ _ hev g [] c w hg rfl trivial hr hs) ?_)
    rintro ex c' w' ⟨rfl, g1, ds, hle, hD, hr1, hs1⟩
    have hds : ds = [] := by
      cases ds with
      | nil => rfl
      | cons => exact hD.elim
    subst hds
    exact ⟨rfl, rounds h next g1 c' w' (hle.base.trans hb) (hle.ng.trans hg) hr1 hs1⟩
theorem stage_rounds {n F k : Nat} {b : Code} {es es' : List (Nat × V)} {ks ks' : List (Nat × O)} {nn nn' : Nat} (h : stageB (evRs call n F b k (sets es .leaf) ⟨sets ks h0.t, nn⟩) es' ks' = true)
    (hk : ksOK h0.nn nn' ks' = true) (he : esOK h0.nn ks' es' = true) {B : World} {Q : Exit → Act → World → Prop}
    (next : ∀ g c w, g.base = B → g.ng = ng0 → RelAct g n [] (sets es' .leaf).get c → Sat g ⟨sets ks' h0.t, nn'⟩ w → LoopWP none 0 P b Q c w) :
    ∀ g c w, g.base = B → g.ng = ng0 → RelAct g n [] (sets es .leaf).get c → Sat g ⟨sets ks h0.t, nn⟩ w → LoopWP none 0 P b Q c w := by
  intro g c w hb hg hr hs
  obtain ⟨e, H, hev, h1, h2⟩ := stageB_spec h
  refine rounds hc hx hev (fun g1 c1 w1 hb1 hg1 hr1 hs1 => ?_) g c w hb hg hr hs
  obtain ⟨g', e1, e2, hs2, hrel⟩ := cut_sat consts rfl hg1 hs1 hk h2
  refine next g' c1 w1 (e1.trans hb1) e2 ⟨hr1.size, hr1.defers, ⟨fun t x hx => ?_⟩⟩ hs2
  rcases get_sets _ _ _ _ hx with ⟨p, q1, rfl, rfl⟩ | q1
  · obtain ⟨v, hv, hrv⟩ := hr1.rel.at_ p.1 p.2 (h1 p q1)
    simp only [esOK, List.all_eq_true] at he
    exact ⟨v, hv, hrel _ _ hrv (he p q1)⟩
  · cases q1
theorem end_at {fn : Func} {F : Nat} {b : Code} {es : List (Nat × V)} {ks0 ks : List (Nat × O)} {nn : Nat} {x : V} (h : lastK (mkTy P) fn.results.toList (evC P (mkTy P) ng0 call fn.ntmps F b [] (sets es .leaf) ⟨sets ks0 h0.t, nn⟩) x ks = true) {B : World} :
    ∀ g c w, g.base = B → g.ng = ng0 → RelAct g fn.ntmps [] (sets es .leaf).get c → Sat g ⟨sets ks0 h0.t, nn⟩ w → b.wp P (EndK P ng0 fn B x ks) c w :=
  fun g c w hb hg hr hs => wpIn_wide.1 (last_of mixed hc hx noNG h g c w hb hg hr hs)
theorem end_loop {fn : Func} {F id : Nat} {b : Code} {es : List (Nat × V)} {ks0 ks : List (Nat × O)} {nn : Nat} {x : V} (h : lastK (mkTy P) fn.results.toList (evC P (mkTy P) ng0 call fn.ntmps F b [] (sets es .leaf) ⟨sets ks0 h0.t, nn⟩) x ks = true) {B : World} :
    ∀ g c w, g.base = B → g.ng = ng0 → RelAct g fn.ntmps [] (sets es .leaf).get c → Sat g ⟨sets ks0 h0.t, nn⟩ w → LoopWP none 0 P b (Exit.inBlock id (EndK P ng0 fn B x ks)) c w := by
  intro g c w hb hg hr hs
  refine LoopWP.ret (wpIn_mono (last_of mixed hc hx noNG h g c w hb hg hr hs) ?_)
  rintro ex c' w' ⟨rfl, h2⟩
  exact ⟨rfl, rfl, h2⟩
end
end Go.Proofs.YtlhpnccdfgjifaaGreatDoor.Cc
