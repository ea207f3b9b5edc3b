/-
  The evaluator of closed calls, part 7: texts out of bytes, ranging over a text, append, copy, calls; one operation is sound.
-/
import Derived.Test.YtfkeflcdadlmdaaGreatDoorEy
import Derived.Laws.BytesString
import Derived.Laws.IdiomStrings
import Derived.Laws.LoneSync
namespace Go.Proofs.YtfkeflcdadlmdaaGreatDoor.Cc
open Go Go.RowKit

section
variable {P : Program} {ti : TI} (ok : TIok P ti) {ng : Con} {e : Lk} {dst : Option Tmp} {ty : TypeId} {pos : String} {af : Array Edge} {gd : Option (Nat × Bool)}

theorem ajC {g : G} : ∀ {cs : List V} {s : List UInt8} {vs : List Value}, bytesV cs = some s → cs.length = vs.length → (∀ (i : Nat) c v, cs[i]? = some c → vs[i]? = some v → RelV g c v) → ∃ ns : List Nat, vs = ns.map (fun (n : Nat) => Value.int .u8 n) ∧ s = ns.map UInt8.ofNat
 | [], s, vs, h, hl, _ => by cases h; cases vs with | nil => exact ⟨[], rfl, rfl⟩ | cons => simp at hl
 | c :: cs, s, vs, h, hl, hr => by
  cases vs with
  | nil => simp at hl
  | cons v vs =>
   unfold bytesV at h
   split at h
   ·cases ‹_ :: _ = []›
   ·rename_i n cs' heq
    cases heq
    split at h
    ·rename_i s' hs'
     cases h
     obtain ⟨ns, h1, h2⟩ := ajC (vs := vs) hs' (by simpa using hl) (fun i c v hc hv => hr (i + 1) c v (by simpa using hc) (by simpa using hv))
     have hv := hr 0 _ v rfl rfl
     cases hv
     exact ⟨n :: ns, by rw [h1]; rfl, by rw [h2]; rfl⟩
    ·cases h
   ·cases h
include ok
theorem m_text {S D E : TypeId} {i i' j : TyI} {x : Operand} {n o len : Nat} {cs : List V} {s : List UInt8} {H : Heap} (hS : ti S = some i) (hD : ti D = some i') (hu : i.und = .slice E) (hu' : i'.und = .string) (hE : ti E = some j) (hju : j.und = .int .u8) (hx : evO ng e x = some (.sl 1 n o len))
  (hn : objCells H n = some cs) (ho : o + len ≤ cs.length) (hs : bytesV ((cs.drop o).take len) = some s) : AStep P ng ⟨dst, .convert S D x, ty, pos, af, gd⟩ e H (.str s) H := by
 refine AStep.of fun g a w hg k st => ?_
 subst hg
 obtain ⟨v, he, hv⟩ := yQ hx k
 cases hv with
 | sl sz n o len cap hb hvs hl hc =>
  obtain ⟨S', ex, ro, hg, _, vs, fz, ⟨T', h1, _⟩, h2, h3, h4, h5, h6⟩ := aaL st hn
  have hp := RelCells.sub h4 h6 ho
  obtain ⟨ns, hns, rfl⟩ := ajC (vs := (vs.extract o (o + len)).toList) hs (by rw [Array.length_toList]; exact hp.1) (fun i c v hc hv => hp.2 i c v hc (by rwa [Array.getElem?_toList] at hv))
  have hlen : ns.length = len := by
   have : ((cs.drop o).take len).length = (vs.extract o (o + len)).size := hp.1
   have h7 := congrArg List.length hns
   simp at this h7
   omega
  have u1 := ok.run_underlying hS
  have u2 := ok.run_underlying hD
  have u3 := ok.run_underlying hE
  rw [hu] at u1
  rw [hu'] at u2
  rw [hju] at u3
  have hrun : (Conv.bytesToString (.slice (some ⟨g.nm n, o, none⟩) len cap)).run P w = .ok (.string ⟨(ns.map UInt8.ofNat).toArray⟩) w := by
   have hl2 : (loadCells ⟨g.nm n, o, none⟩ len).run P w = .ok ((ns.map fun (n : Nat) => (n : Int)).map (Value.int .u8)).toArray w := by
    rw [acN (P := P) h1 (show o + len ≤ vs.size by omega)]
    congr 1
    rw [List.map_map]
    apply Array.toList_inj.1
    rw [hns]
    rfl
   rw [run_bytesToString w _ len cap (ns.map fun (n : Nat) => (n : Int)) hl2]
   congr 2
   have key : ∀ (l : List Nat) (r : ByteArray), (l.map fun (n : Nat) => (n : Int)).foldl (fun r n => r.push (UInt8.ofNat n.toNat)) r = ⟨(r.data.toList ++ l.map UInt8.ofNat).toArray⟩ := by
    intro l
    induction l with
    | nil => intro r; simp
    | cons m l ih =>
     intro r
     simp only [List.map_cons, List.foldl_cons]
     rw [ih]
     simp [ByteArray.push]
   rw [key]
   rfl
  refine ⟨_, w, g, ?_, G.le.refl g, .str (ns.map UInt8.ofNat) (by simp [hlen]; omega), st⟩
  simp [execOp, he, convert, u1, u2, u3, hrun]
theorem m_range {T : TypeId} {i : TyI} {x : Operand} {s : List UInt8} {H : Heap} (hT : ti T = some i) (hu : i.und = .string) (hx : evO ng e x = some (.str s)) : AStep P ng ⟨dst, .range T x, ty, pos, af, gd⟩ e H (.ptr H.nn 0) (H.new (.iter s 0)) := by
 refine AStep.of fun g a w hg k st => ?_
 subst hg
 obtain ⟨v, he, hv⟩ := yQ hx k
 cases hv
 have u1 := ok.run_underlying hT
 rw [hu] at u1
 have hb := st.nn_not_bn
 have nm : (g.name H.nn w.heap.size 0 hb).nm H.nn = w.heap.size := if_pos rfl
 refine ⟨.pointer (some ⟨w.heap.size, 0, none⟩), w.alloc (.stringIter ⟨s.toArray⟩ 0), g.name H.nn w.heap.size 0 hb, ?_, g.le_name _ _ _ _, ?_, st.new 0 (by simp) hb ?_⟩
 ·simp [execOp, he, Instr.range, u1]
 ·have := RelV.ptr (g := g.name H.nn w.heap.size 0 hb) H.nn 0 (by simp [G.name])
  rwa [nm] at this
 ·show (w.heap.push _)[_]? = _
  rw [nm]; simp
omit ok in
theorem run_getIter {w : World} {r p : Nat} {s : ByteArray} (h : w.heap[r]? = some (.stringIter s p)) : (getObj r).run P w = .ok (.stringIter s p) w := by simp [getObj, Sem.run, h]
omit ok in
theorem run_setIter {w : World} {r p : Nat} {s : ByteArray} (o : Obj) (h : w.heap[r]? = some (.stringIter s p)) : (setObj r o).run P w = .ok () { w with heap := w.heap.setIfInBounds r o } := by simp [setObj, Sem.run, h]
omit ok in
theorem m_next {x : Operand} {n p : Nat} {s : List UInt8} {H : Heap} (hx : evO ng e x = some (.ptr n 0)) (hn : H.get n = some (.iter s p)) :
  (p < s.length → AStep P ng ⟨dst, .next x true, ty, pos, af, gd⟩ e H (.tuple [.bool true, .int .i64 p, .int .i32 (Utf8.decode ⟨s.toArray⟩ p).1]) (H.set n (.iter s (p + (Utf8.decode ⟨s.toArray⟩ p).2)))) ∧
  (¬ p < s.length → AStep P ng ⟨dst, .next x true, ty, pos, af, gd⟩ e H (.tuple [.bool false]) H) := by
 have hsz : (ByteArray.mk s.toArray).size = s.length := by unfold ByteArray.size; simp
 constructor
 ·intro hp
  refine AStep.of fun g a w hg k st => ?_
  subst hg
  obtain ⟨v, he, hv⟩ := yQ hx k
  cases hv with
  | ptr n o hb =>
   have hw : w.heap[g.nm n]? = some (.stringIter ⟨s.toArray⟩ p) := st.at_ _ _ hn
   have hlt : g.nm n < w.heap.size := (Array.getElem?_eq_some_iff.1 hw).1
   refine ⟨.tuple #[.bool true, goInt p, .int .i32 (Utf8.decode ⟨s.toArray⟩ p).1], { w with heap := w.heap.setIfInBounds (g.nm n) (.stringIter ⟨s.toArray⟩ (p + (Utf8.decode ⟨s.toArray⟩ p).2)) }, g, ?_, G.le.refl g, ?_, st.turn hn rfl (by simp) rfl rfl rfl (by simp) (fun j hj => ?_) ?_⟩
   ·simp [execOp, he, Instr.next, run_getIter hw, run_setIter _ hw, hsz, hp]
   ·refine .tuple _ _ rfl fun i c u hc hu => ?_
    match i with
    | 0 => simp at hc hu; subst hc; subst hu; exact .bool _
    | 1 => simp at hc hu; subst hc; subst hu; exact .int _ _
    | 2 => simp at hc hu; subst hc; subst hu; exact .int _ _
    | i + 3 => simp at hc
   ·simp only [Array.getElem?_setIfInBounds]; rw [if_neg (Ne.symm hj)]
   ·show _ = _
    simp [hlt]
 ·intro hp
  refine AStep.of fun g a w hg k st => ?_
  subst hg
  obtain ⟨v, he, hv⟩ := yQ hx k
  cases hv with
  | ptr n o hb =>
   have hw : w.heap[g.nm n]? = some (.stringIter ⟨s.toArray⟩ p) := st.at_ _ _ hn
   refine ⟨.tuple #[.bool false], w, g, ?_, G.le.refl g, .tuple _ _ rfl fun i c u hc hu => ?_, st⟩
   ·simp [execOp, he, Instr.next, run_getIter hw, hsz, hp]
   ·match i with
    | 0 => simp at hc hu; subst hc; subst hu; exact .bool _
    | i + 1 => simp at hc

/-! append, copy -/
omit ok in
theorem apV {g : G} {H : Heap} {w : World} (s : Sat g H w) {sz : Nat} {y : V} {v : Value} {ys : List V} (h : srcCells H sz y = some ys) (hv : RelV g y v) :
  ∃ us n, Builtin.lenOf v = (pure n : Sem Nat) ∧ ys.length = n * sz ∧ RelCells g ys us ∧ ∀ m, m ≤ n → ∀ w', w'.heap = w.heap → (Builtin.firstCells sz m v).run P w' = .ok (us.extract 0 (m * sz)) w' := by
 cases hv <;> simp only [srcCells] at h <;> first | (cases h; done) | skip
 case str s hs =>
  obtain ⟨hb, rfl⟩ := yK h
  have hb := Nat.eq_of_beq_eq_true hb
  subst hb
  refine ⟨(s.map fun (b : UInt8) => Value.int .u8 b.toNat).toArray, s.length, ?_, by simp, ⟨by simp, fun i c u hc hu => ?_⟩, fun m hm w' _ => ?_⟩
  ·show (pure (ByteArray.mk s.toArray).size : Sem Nat) = _
   unfold ByteArray.size; simp
  ·simp only [List.getElem?_map, Option.map_eq_some_iff] at hc
   obtain ⟨b, hb, rfl⟩ := hc
   have : u = .int .u8 b.toNat := by simpa [hb] using hu.symm
   subst this; exact .int _ _
  ·simp only [Builtin.firstCells, Nat.mul_one]
   rw [Sem.run_pure]
   congr 1
   apply Array.toList_inj.1
   rw [ByteArray.data_extract]
   simp
 case nilS =>
  cases h
  exact ⟨#[], 0, rfl, by simp, RelCells.nil g, fun m hm w' _ => by
    have : m = 0 := by omega
    subst this; simp [Builtin.firstCells]⟩
 case voidS a =>
  cases h
  exact ⟨#[], 0, rfl, by simp, RelCells.nil g, fun m hm w' _ => by
    have : m = 0 := by omega
    subst this; simp [Builtin.firstCells, loadCells, loadCellsFrom]⟩
 case viewS a c hc =>
  cases h
  exact ⟨#[], 0, rfl, by simp, RelCells.nil g, fun m hm w' _ => by
    have : m = 0 := by omega
    subst this; cases a <;> simp [Builtin.firstCells, loadCells, loadCellsFrom]⟩
 case sl sz' n o len cap hb hvs hl hc =>
  obtain ⟨hb1, h⟩ : Nat.beq sz' sz = true ∧ _ := by
   cases hq : Nat.beq sz' sz with
   | true => rw [hq] at h; exact ⟨rfl, h⟩
   | false => rw [hq] at h; cases h
  have hb1 := Nat.eq_of_beq_eq_true hb1
  subst hb1
  simp only [cond] at h
  split at h <;> first | (cases h; done) | skip
  rename_i cs hn
  obtain ⟨hk, rfl⟩ := yK h
  have hk := Nat.le_of_ble_eq_true hk
  obtain ⟨T, ex, ro, hg, _, vs, fz, ⟨T', h1, _⟩, h2, h3, h4, h5, h6⟩ := aaL s hn
  refine ⟨vs.extract o (o + len * sz'), len, rfl, by simp; omega, RelCells.sub h4 h6 hk, fun m hm w' hw => ?_⟩
  have hmz : m * sz' ≤ len * sz' := Nat.mul_le_mul_right _ hm
  show (loadCells ⟨g.nm n, o, none⟩ (m * sz')).run P w' = _
  rw [acN (P := P) (w := w') (by rw [hw]; exact h1) (show o + m * sz' ≤ vs.size by omega)]
  rw [Array.extract_extract, Nat.add_zero, Nat.min_eq_left (by omega)]

theorem abY {T T' E : TypeId} {i i' j : TyI} {x y : Operand} {a : Act} {w w' : World} {base : Option Addr} {L C n : Nat} {us : Array Value} (hT : ti T = some i) (hu : i.und = .slice E) (hT' : ti T' = some i') (hu' : listy i'.und = true) (hj : ti E = some j)
  (hx : a.eval x = .slice base L C) (hlen : Builtin.lenOf (a.eval y) = (pure n : Sem Nat)) (hfirst : (Builtin.firstCells j.size n (a.eval y)).run P w = .ok us w) (hC : L + n ≤ C)
  (hst : ∀ b, base = some b → (storeCells (b.add (L * j.size)) us.toList).run P w = .ok () w') (hn0 : base = none → w' = w) :
  (execOp a.eval ⟨dst, .call { callee := .builtin .append, args := #[x, y], argTypes := #[T, T'] }, ty, pos, af, gd⟩).run P w = .ok (.value (.slice base (L + n) C)) w' := by
 have u1 := ok.run_underlying hT
 have u2 := ok.run_underlying hT'
 rw [hu] at u1
 simp only [execCall_builtin, builtin, Builtin.append_]
 cases hd : i'.und <;> first | (rw [hd] at hu'; cases hu'; done) | skip
 all_goals
  rw [hd] at u2
  simp [hx, u1, u2, ok.run_sizeOf hj, hlen, hC, hfirst]
  cases base with
  | none => simp [hn0 rfl]
  | some b => simp [hst b rfl]
theorem abF {T T' E : TypeId} {i i' j : TyI} {x y : Operand} {a : Act} {w : World} {base : Option Addr} {L C n : Nat} {os us : Array Value} (hT : ti T = some i) (hu : i.und = .slice E) (hT' : ti T' = some i') (hu' : listy i'.und = true) (hj : ti E = some j)
  (hx : a.eval x = .slice base L C) (hlen : Builtin.lenOf (a.eval y) = (pure n : Sem Nat)) (hfirst : ∀ w', w'.heap = w.heap → (Builtin.firstCells j.size n (a.eval y)).run P w' = .ok us w')
  (hold : ∀ w', w'.heap = w.heap → (Builtin.firstCells j.size L (.slice base L C)).run P w' = .ok os w') (hC : C < L + n) (hb0 : j.bytes ≠ 0) (hfit : (L + n) * j.bytes ≤ roomy) (hzl : j.zero.lays = true) (hzc : j.zero.cells.length = j.size) :
  ∃ nc vs, L + n ≤ nc ∧ nc ≤ maxLen ∧ vs.size = nc * j.size - (L + n) * j.size ∧
  (execOp a.eval ⟨dst, .call { callee := .builtin .append, args := #[x, y], argTypes := #[T, T'] }, ty, pos, af, gd⟩).run P w = .ok (.value (.slice (some ⟨w.heap.size, 0, none⟩) (L + n) nc)) (w.drew.alloc (.cells (os ++ us ++ vs) E)) := by
 have u1 := ok.run_underlying hT
 have u2 := ok.run_underlying hT'
 rw [hu] at u1
 obtain ⟨f, hf1, _, hf3, _⟩ := ok.run_typeInfo hj
 obtain ⟨z, hz1, hz2⟩ := ok.run_zeroValue hj
 have hzs : z.cells.size = j.size := by
  have := (((hz1 ⟨default, ⟨0, fun _ => none, fun _ _ h => (by cases h), fun _ => True, fun _ _ _ _ => trivial⟩, fun _ => false, fun _ => 0, fun _ => 0, fun b hb => absurd hb (Nat.not_lt_zero b), trivial⟩).rcells hzl).1).1
  omega
 have hgrow := growslice_fits (bytes := j.bytes) hC hfit
 let nc := (Question.appendCap (L + n) C E).cut (w.tape w.drawn (.appendCap (L + n) C E))
 have hneed : L + n ≤ roomy := Nat.le_trans (Nat.le_mul_of_pos_right _ (Nat.pos_of_ne_zero hb0)) hfit
 have hnc : L + n ≤ nc ∧ nc ≤ maxLen := by
  show L + n ≤ L + n + _ % (2 ^ 63 - (L + n)) ∧ _
  refine ⟨Nat.le_add_right _ _, ?_⟩
  show L + n + w.tape w.drawn (.appendCap (L + n) C E) % (2 ^ 63 - (L + n)) ≤ maxLen
  have : w.tape w.drawn (.appendCap (L + n) C E) % (2 ^ 63 - (L + n)) < 2 ^ 63 - (L + n) := Nat.mod_lt _ (by unfold roomy at hneed; omega)
  unfold maxLen
  unfold roomy at hneed
  omega
 refine ⟨nc, Builtin.zeroCells z.cells (nc - (L + n)), hnc.1, hnc.2, ?_, ?_⟩
 ·simp only [Builtin.zeroCells, Array.size_map, Array.size_range, hzs, Nat.sub_mul]
 ·have hforced : (Question.appendCap (L + n) C E).forced = false := rfl
  have hnot1 : ¬ (L + n ≤ C) := by omega
  have hnot2 : ¬ (Builtin.nextslicecap (L + n) C * j.bytes > 2 ^ 48) := by simpa using hgrow
  have i1 := hold w.drew rfl
  have i2 := hfirst w.drew rfl
  simp only [execCall_builtin, builtin, Builtin.append_]
  cases hd : i'.und <;> first | (rw [hd] at hu'; cases hu'; done) | skip
  all_goals
   rw [hd] at u2
   simp [hx, u1, u2, ok.run_sizeOf hj, hlen, hnot1, hf1, hf3, hb0, hforced, hz2, newRow]
   rw [if_neg (by simpa using hnot2)]
   rw [i1]
   simp only [Result.andThen_ok]
   rw [i2]
   simp only [Result.andThen_ok]
   rw [← Array.append_assoc]
   rfl
end

end Go.Proofs.YtfkeflcdadlmdaaGreatDoor.Cc

namespace Go.Proofs.YtfkeflcdadlmdaaGreatDoor.Cc
open Go Go.RowKit

section
variable {P : Program} {ti : TI} (ok : TIok P ti) {ng : Con} {e : Lk} {dst : Option Tmp} {ty : TypeId} {pos : String} {af : Array Edge} {gd : Option (Nat × Bool)}
include ok
theorem m_bytes {S D E : TypeId} {i i' j : TyI} {x : Operand} {s : List UInt8} {H : Heap} (hS : ti S = some i) (hD : ti D = some i') (hu : i.und = .string) (hu' : i'.und = .slice E) (hE : ti E = some j) (hju : j.und = .int .u8) (hx : evO ng e x = some (.str s))
  (hl : s.length ≤ 16777216) : AStep P ng ⟨dst, .convert S D x, ty, pos, af, gd⟩ e H (.sl 1 H.nn 0 s.length) (H.new (.cells E (s.map fun b => .int .u8 b.toNat) false false)) := by
 refine AStep.of fun g a w hg k st => ?_
 subst hg
 obtain ⟨v, he, hv⟩ := yQ hx k
 cases hv with
 | str s hs =>
  have u1 := ok.und _ _ hS
  have u2 := ok.und _ _ hD
  have u3 := ok.und _ _ hE
  rw [hu] at u1
  rw [hu'] at u2
  rw [hju] at u3
  have hrun := run_bytes_of_string (P := P) w S D E ⟨s.toArray⟩ u1 u2 u3
  have hss : (⟨s.toArray⟩ : ByteArray).size = s.length := rfl
  rw [hss] at hrun
  have hnb := st.nn_not_bn
  let nc := grownCap w s.length 0 E
  have hnc : s.length ≤ nc ∧ nc ≤ maxLen := by
   show s.length ≤ s.length + _ % (2 ^ 63 - s.length) ∧ _
   refine ⟨Nat.le_add_right _ _, ?_⟩
   show s.length + w.tape w.drawn (.appendCap s.length 0 E) % (2 ^ 63 - s.length) ≤ maxLen
   have : w.tape w.drawn (.appendCap s.length 0 E) % (2 ^ 63 - s.length) < 2 ^ 63 - s.length := Nat.mod_lt _ (by omega)
   unfold maxLen
   omega
  have hsz : (bytesRow ⟨s.toArray⟩ nc).size = nc := by
   unfold bytesRow
   rw [Array.size_append, Array.size_map, Array.size_replicate]
   show s.length + (nc - s.length) = nc
   omega
  have nm : (g.name H.nn w.heap.size nc hnb).nm H.nn = w.heap.size := if_pos rfl
  refine ⟨.slice (some ⟨w.heap.size, 0, none⟩) s.length nc, _, g.name H.nn w.heap.size nc hnb, ?_, g.le_name _ _ _ _, ?_, st.drew.new (k := nc) (o := .cells (bytesRow ⟨s.toArray⟩ nc) E ((bytesRow ⟨s.toArray⟩ nc).size, (bytesRow ⟨s.toArray⟩ nc).size + 1)) (by simp) hnb ?_⟩
  ·simp [execOp, he, hrun]
   exact ⟨rfl, rfl⟩
  ·have := RelV.sl (g := g.name H.nn w.heap.size nc hnb) 1 H.nn 0 s.length nc (by simp [G.name]) (by rw [Nat.zero_add, Nat.mul_one]; exact (if_pos rfl).symm) hnc.1 hnc.2
   rwa [nm] at this
  ·refine ⟨bytesRow ⟨s.toArray⟩ nc, ((bytesRow ⟨s.toArray⟩ nc).size, (bytesRow ⟨s.toArray⟩ nc).size + 1), ⟨E, ?_, fun _ => rfl⟩, fun _ => .inr (Nat.le_refl _), ?_, ?_, (fun h => by cases h), ?_⟩
   ·show (w.heap.push _)[(g.name H.nn w.heap.size nc hnb).nm H.nn]? = _
    rw [nm]; simp
   ·rw [hsz]; exact (if_pos rfl).symm
   ·rw [hsz]; simpa using hnc.1
   ·refine ⟨by simp [hsz]; omega, fun q c v hc hv => ?_⟩
    rw [List.getElem?_map] at hc
    obtain ⟨b, hb, rfl⟩ := Option.map_eq_some_iff.1 hc
    have hq : q < s.length := (List.getElem?_eq_some_iff.1 hb).1
    have : (bytesRow ⟨s.toArray⟩ nc)[q]? = some (.int .u8 b.toNat) := by
     unfold bytesRow
     rw [Array.getElem?_append, if_pos (by simpa using hq)]
     simp [hb]
    simp only [Array.getElem?_extract] at hv
    split at hv
    ·rw [Nat.zero_add] at hv
     rw [this] at hv
     cases hv
     exact .int _ _
    ·cases hv
theorem m_unsafe {S D t : TypeId} {i i' j : TyI} {x : Operand} {n o : Nat} {cs : List V} {H : Heap} (hS : ti S = some i) (hD : ti D = some i') (hu : i.und = .pointer t) (hu' : i'.und = .unsafePointer) (hE : ti t = some j) (hj : 0 < j.size) (hx : evO ng e x = some (.ptr n o))
  (hn : objCells H n = some cs) (ho : o < cs.length) : AStep P ng ⟨dst, .convert S D x, ty, pos, af, gd⟩ e H (.ptr n o) H := by
 refine AStep.of fun g a w hg k st => ?_
 subst hg
 obtain ⟨v, he, hv⟩ := yQ hx k
 cases hv with
 | ptr n o hb =>
  obtain ⟨S', ex, ro, hg, _, vs, fz, ⟨T', h1, _⟩, h2, h3, h4, h5, h6⟩ := aaL st hn
  have u1 := ok.und _ _ hS
  have u2 := ok.und _ _ hD
  rw [hu] at u1
  rw [hu'] at u2
  obtain ⟨f, f1, f2, _⟩ := ok.info _ _ hE
  have hc := ahI (w := w) (o := o) (v := vs[o]'(by omega)) h1 (by simp)
  have hrun := run_convert_to_unsafe (P := P) u1 u2 (by rw [f1]; simp; omega) hc
  exact ⟨_, w, g, by simp [execOp, he, hrun], G.le.refl g, .ptr n o hb, st⟩
theorem aqP {S D E : TypeId} {i i' j : TyI} {x : Operand} {y : V} {H : Heap} (hS : ti S = some i) (hD : ti D = some i') (hu : i.und = .slice E) (hu' : i'.und = .string) (hE : ti E = some j) (hju : j.und = .int .u8) (hx : evO ng e x = some y) (hy : y = .voidS ∨ y = .nilS) :
  AStep P ng ⟨dst, .convert S D x, ty, pos, af, gd⟩ e H (.str []) H := by
 refine AStep.of fun g a w hg k st => ?_
 subst hg
 obtain ⟨v, he, hv⟩ := yQ hx k
 have u1 := ok.und _ _ hS
 have u2 := ok.und _ _ hD
 have u3 := ok.und _ _ hE
 rw [hu] at u1
 rw [hu'] at u2
 rw [hju] at u3
 refine ⟨.string ⟨[].toArray⟩, w, g, ?_, G.le.refl g, .str [] (by simp), st⟩
 rcases hy with rfl | rfl
 ·cases hv with
  | voidS a =>
   have hrun := run_convert_bytes_string (P := P) w S D E (some a) 0 0 u1 u3 u2
   have h2 : (Conv.bytesToString (.slice (some a) 0 0)).run P w = .ok (.string ⟨[].toArray⟩) w := by
    exact run_bytesToString (P := P) w a 0 0 [] rfl
   simp [execOp, he, hrun, h2]
 ·cases hv with
  | nilS =>
   have hrun := run_convert_bytes_string (P := P) w S D E none 0 0 u1 u3 u2
   have h2 : (Conv.bytesToString (.slice none 0 0)).run P w = .ok (.string ⟨[].toArray⟩) w := rfl
   simp [execOp, he, hrun, h2]
theorem apC {S D : TypeId} {y : Operand} {x : V} {H H' : Heap} (h : evM_conv2 ti ng e H S D y = some (x, H')) : AStep P ng ⟨dst, .convert S D y, ty, pos, af, gd⟩ e H x H' := by
 unfold evM_conv2 at h
 split at h <;> first | (cases h; done) | skip
 rename_i i i' hS hD
 split at h <;> first | (cases h; done) | skip
 ·rename_i E s hu hu' hy
  split at h <;> first | (cases h; done) | skip
  rename_i j hE
  split at h <;> first | (cases h; done) | skip
  rename_i hju
  obtain ⟨hb, h⟩ := yK h
  cases h
  exact m_bytes ok hS hD hu hu' hE hju hy (Nat.le_of_ble_eq_true hb)
 ·rename_i t n o hu hu' hy
  split at h <;> first | (cases h; done) | skip
  rename_i k cs hk hn
  obtain ⟨hb, h⟩ := yK h
  cases h
  simp only [Bool.and_eq_true] at hb
  exact m_unsafe ok hS hD hu hu' hk (by simpa [Nat.blt_eq] using hb.1) hy hn (by simpa [Nat.blt_eq] using hb.2)
 ·rename_i E hu hu' hy
  split at h <;> first | (cases h; done) | skip
  rename_i j hE
  split at h <;> first | (cases h; done) | skip
  rename_i hju
  cases h
  exact aqP ok hS hD hu hu' hE hju hy (.inl rfl)
 ·rename_i E hu hu' hy
  split at h <;> first | (cases h; done) | skip
  rename_i j hE
  split at h <;> first | (cases h; done) | skip
  rename_i hju
  cases h
  exact aqP ok hS hD hu hu' hE hju hy (.inr rfl)
end

end Go.Proofs.YtfkeflcdadlmdaaGreatDoor.Cc

namespace Go.Proofs.YtfkeflcdadlmdaaGreatDoor.Cc
open Go Go.RowKit

def RelVs (g : G) (xs : List V) (vs : List Value) : Prop := xs.length = vs.length ∧ ∀ (i : Nat) x v, xs[i]? = some x → vs[i]? = some v → RelV g x v
theorem RelVs.append {g : G} {xs ys : List V} {vs us : List Value} (h : RelVs g xs vs) (k : RelVs g ys us) : RelVs g (xs ++ ys) (vs ++ us) := by
 refine ⟨by simp [h.1, k.1], fun i x v hx hv => ?_⟩
 rw [List.getElem?_append] at hx hv
 rw [h.1] at hx
 split at hx
 ·rename_i hlt; rw [if_pos hlt] at hv; exact h.2 i x v hx hv
 ·rename_i hlt; rw [if_neg hlt] at hv; exact k.2 _ x v hx hv
def ACall (P : Program) (ng : Con) (f : FuncId) (xs : List V) (H : Heap) (r : V) (H' : Heap) : Prop :=
 ∀ g vs w, g.ng = ng → RelVs g xs vs → Sat g H w → Calls P f vs.toArray w (fun e w' => ∃ v, e = .returned v ∧ ∃ g', g.le g' ∧ RelV g' r v ∧ Sat g' H' w')
def VCall (P : Program) (ng : Con) (f : FuncId) (xs : List V) (H : Heap) (r : V) (H' : Heap) : Prop :=
 ∀ g vs w, g.ng = ng → RelVs g xs vs → Sat g H w → ∃ v w', (callFunc f vs.toArray).run P w = .ok (.value v) w' ∧ ∃ g', g.le g' ∧ RelV g' r v ∧ Sat g' H' w'
def Enters (P : Program) (f : FuncId) : Prop := ∀ args w, (callFunc f args).run P w = .ok (.enter f args) w
def OCall (P : Program) (ng : Con) (f : FuncId) (xs : List V) (H : Heap) (r : V) (H' : Heap) : Prop :=
 (ACall P ng f xs H r H' ∧ Enters P f) ∨ VCall P ng f xs H r H'
def CallOK (P : Program) (ng : Con) (call : CallF) : Prop :=
 ∀ f xs H r H', call f xs H = some (r, H') → OCall P ng f xs H r H'

section
variable {P : Program} {ti : TI} (ok : TIok P ti) {ng : Con} {e : Lk} {dst : Option Tmp} {ty : TypeId} {pos : String} {af : Array Edge} {gd : Option (Nat × Bool)}

theorem akI {α : Type} (A B : Array α) : (A ++ B).extract 0 A.size = A := by
 apply Array.toList_inj.1
 simp
theorem take_all {α : Type} {us : Array α} {k : Nat} (h : us.size = k) : us.extract 0 k = us := by subst h; simp
include ok
theorem m_append {T T' E : TypeId} {i i' j : TyI} {x y : Operand} {vx vy r : V} {ys : List V} {H H' : Heap} (hT : ti T = some i) (hu : i.und = .slice E) (hT' : ti T' = some i') (hu' : listy i'.und = true) (hj : ti E = some j)
  (hx : evO ng e x = some vx) (hy : evO ng e y = some vy) (hs : srcCells H j.size vy = some ys) (hzl : j.zero.lays = true) (hzc : j.zero.cells.length = j.size) (h : evAppend H E j vx ys = some (r, H')) :
  AStep P ng ⟨dst, .call { callee := .builtin .append, args := #[x, y], argTypes := #[T, T'] }, ty, pos, af, gd⟩ e H r H' := by
 refine AStep.of fun g a w hg k st => ?_
 subst hg
 obtain ⟨v, hex, hv⟩ := yQ hx k
 obtain ⟨u, hey, hu2⟩ := yQ hy k
 obtain ⟨us, n, hl1, hl2, hus, hfirst⟩ := apV (P := P) st hs hu2
 have husz : us.size = n * j.size := by rw [← hus.1]; exact hl2
 have hfirst' : ∀ w', w'.heap = w.heap → (Builtin.firstCells j.size n (a.eval y)).run P w' = .ok us w' := fun w' hw => by
  rw [hey, hfirst n (Nat.le_refl _) w' hw, take_all husz]
 have hlen : Builtin.lenOf (a.eval y) = (pure n : Sem Nat) := by rw [hey]; exact hl1
 unfold evAppend at h
 split at h
 ·-- nothing is appended
  have hn0 : n * j.size = 0 := by rw [← hl2]; rfl
  cases hs0 : Nat.blt 0 j.size with
  | false => rw [hs0] at h; cases h
  | true =>
   rw [hs0] at h
   have hs0 : 0 < j.size := by simpa [Nat.blt_eq] using hs0
   have hn : n = 0 := by
    rcases Nat.eq_zero_or_pos n with h1 | h1
    ·exact h1
    ·have := Nat.mul_pos h1 hs0; omega
   subst hn
   have hz : us = #[] := by apply Array.eq_empty_of_size_eq_zero; omega
   subst hz
   have same : ∀ base L C, v = .slice base L C → L ≤ C → (execOp a.eval ⟨dst, .call { callee := .builtin .append, args := #[x, y], argTypes := #[T, T'] }, ty, pos, af, gd⟩).run P w = .ok (.value v) w := by
    intro base L C hv0 hLC
    subst hv0
    have := abY (dst := dst) (ty := ty) (pos := pos) (af := af) (gd := gd) (w' := w) ok hT hu hT' hu' hj hex hlen (hfirst' w rfl) (show L + 0 ≤ C from hLC) (fun b _ => rfl) (fun _ => rfl)
    simpa using this
   have hv' := hv
   simp only [cond] at h
   cases hv <;> simp only at h <;> first | (cases h; done) | skip
   ·cases h; exact ⟨_, w, g, same _ _ _ rfl (Nat.le_refl _), G.le.refl g, hv', st⟩
   ·cases h; exact ⟨_, w, g, same _ _ _ rfl (Nat.le_refl _), G.le.refl g, hv', st⟩
   ·rename_i hl _ _ _; cases h; exact ⟨_, w, g, same _ _ _ rfl (by assumption), G.le.refl g, hv', st⟩
 ·-- something is
  rename_i hne
  cases hb : (Nat.blt 0 j.size && (Nat.blt 0 j.bytes && (Nat.beq (Nat.mod ys.length j.size) 0 && ys.all V.one))) with
  | false => rw [hb] at h; cases h
  | true =>
   rw [hb] at h
   simp only [cond] at h
   simp only [Bool.and_eq_true] at hb
   have hs0 : 0 < j.size := by simpa [Nat.blt_eq] using hb.1
   have hb0 : 0 < j.bytes := by simpa [Nat.blt_eq] using hb.2.1
   have hone := hb.2.2.2
   have hdiv : Nat.div ys.length j.size = n := by
    show ys.length / j.size = n
    rw [hl2]; exact Nat.mul_div_cancel _ hs0
   rw [hdiv] at h
   have hnpos : 0 < n := by
    rcases Nat.eq_zero_or_pos n with h1 | h1
    ·rw [h1] at hl2
     exfalso
     apply hne
     exact List.eq_nil_of_length_eq_zero (by simpa using hl2)
    ·exact h1
   -- out of nothing
   have fresh : ∀ base, v = .slice base 0 0 → (∀ w', (Builtin.firstCells j.size 0 (.slice base 0 0)).run P w' = .ok #[] w') → Nat.ble (n * j.bytes) roomy = true →
     ∃ v w' g', (execOp a.eval ⟨dst, .call { callee := .builtin .append, args := #[x, y], argTypes := #[T, T'] }, ty, pos, af, gd⟩).run P w = .ok (.value v) w' ∧ g.le g' ∧ RelV g' (.sl j.size H.nn 0 n) v ∧ Sat g' (H.new (.cells E ys false false)) w' := by
    intro base hv0 hf0 hroom
    subst hv0
    obtain ⟨nc, vs, c1, c2, c3, hrun⟩ := abF (dst := dst) (ty := ty) (pos := pos) (af := af) (gd := gd) ok (L := 0) (C := 0) (os := #[]) hT hu hT' hu' hj hex hlen hfirst' (fun w' _ => hf0 w') (by omega) (by omega) (by rw [Nat.zero_add]; exact Nat.le_of_ble_eq_true hroom) hzl hzc
    rw [Nat.zero_add] at c1 c3 hrun
    have hsz : (#[] ++ us ++ vs : Array Value).size = nc * j.size := by
     simp [husz, c3]
     have : n * j.size ≤ nc * j.size := Nat.mul_le_mul_right _ c1
     omega
    have hnb := st.nn_not_bn
    have nm : (g.name H.nn w.heap.size (nc * j.size) hnb).nm H.nn = w.heap.size := if_pos rfl
    refine ⟨_, _, g.name H.nn w.heap.size (nc * j.size) hnb, hrun, g.le_name _ _ _ _, ?_, st.drew.new _ (by simp) hnb ?_⟩
    ·have := RelV.sl (g := g.name H.nn w.heap.size (nc * j.size) hnb) j.size H.nn 0 n nc (by simp [G.name]) (by rw [Nat.zero_add]; exact (if_pos rfl).symm) c1 c2
     rwa [nm] at this
    ·refine ⟨#[] ++ us ++ vs, (0, 0), ⟨_, ?_, fun _ => rfl⟩, fun _ => .inl rfl, ?_, ?_, by simp, ?_⟩
     ·rw [show (g.name H.nn w.drew.heap.size (nc * j.size) hnb).nm H.nn = w.heap.size from if_pos rfl]
      show (w.heap.push _)[w.heap.size]? = _
      simp
     ·rw [hsz]; exact (if_pos rfl).symm
     ·rw [hsz, hl2]; exact Nat.mul_le_mul_right _ c1
     ·have : (#[] ++ us ++ vs : Array Value).extract 0 ys.length = us := by
       rw [hl2, ← husz]
       simp
      rw [this]
      exact hus.mono (g.le_name _ _ _ _)
   cases hv <;> simp only at h <;> first | (cases h; done) | skip
   case nilS =>
    obtain ⟨hr, h⟩ := yK h
    cases h
    exact fresh none rfl (fun w' => by simp [Builtin.firstCells]) hr
   case voidS p =>
    obtain ⟨hr, h⟩ := yK h
    cases h
    exact fresh (some p) rfl (fun w' => by simp [Builtin.firstCells, loadCells, loadCellsFrom]) hr
   case sl sz m o len cap hbn hvs hlc hcm =>
    cases hq : (Nat.beq sz j.size && Nat.ble ((len + Nat.div ys.length sz) * j.bytes) roomy) with
    | false => rw [hq] at h; cases h
    | true =>
     rw [hq] at h
     simp only [] at h
     simp only [Bool.and_eq_true] at hq
     have hszj := Nat.eq_of_beq_eq_true hq.1
     subst hszj
     rw [hdiv] at hq h
     have hroom := Nat.le_of_ble_eq_true hq.2
     split at h <;> first | (cases h; done) | skip
     rename_i S cs ex ro hm
     obtain ⟨vs, fz, ⟨T1, a1, aT⟩, a2, a3, a4, a5, a6⟩ := st.at_ _ _ hm
     rw [hl2] at h
     have hmul : (len + n) * j.size = len * j.size + n * j.size := Nat.add_mul _ _ _
     cases hfitc : Nat.ble (o + len * j.size + n * j.size) cs.length with
     | true =>
      rw [hfitc] at h
      have hfitc := Nat.le_of_ble_eq_true hfitc
      cases ro with
      | true => cases h
      | false =>
       cases h
       have hcap : len + n ≤ cap := by
        have : (len + n) * j.size ≤ cap * j.size := by omega
        exact Nat.le_of_mul_le_mul_right this hs0
       obtain ⟨w', hrun, st'⟩ := afM (P := P) (o := o + len * j.size) st hm hus hone (by omega)
       refine ⟨_, w', g, abY ok hT hu hT' hu' hj hex hlen (hfirst' w rfl) hcap (fun b hbb => ?_) (fun hbb => by cases hbb), G.le.refl g, .sl j.size m o (len + n) cap hbn hvs hcap hcm, st'⟩
       cases hbb
       rw [Addr.add_off]; exact hrun
     | false =>
      rw [hfitc] at h
      have hfitc : ¬ (o + len * j.size + n * j.size ≤ cs.length) := fun hh => by rw [Nat.ble_eq_true_of_le hh] at hfitc; cases hfitc
      simp only [] at h
      cases ex with
      | true =>
       simp only at h
       obtain ⟨ho, h⟩ := yK h
       cases h
       have ho := Nat.le_of_ble_eq_true ho
       have hcl := a5 rfl
       have hC : cap < len + n := by
        rcases Nat.lt_or_ge cap (len + n) with h1 | h1
        ·exact h1
        ·have := Nat.mul_le_mul_right j.size h1
         omega
       have hold : ∀ w', w'.heap = w.heap → (Builtin.firstCells j.size len (.slice (some ⟨g.nm m, o, none⟩) len cap)).run P w' = .ok (vs.extract o (o + len * j.size)) w' := fun w' hw => acN (w := w') (by rw [hw]; exact a1) (by omega)
       obtain ⟨nc, us2, c1, c2, c3, hrun⟩ := abF (dst := dst) (ty := ty) (pos := pos) (af := af) (gd := gd) ok hT hu hT' hu' hj hex hlen hfirst' hold hC (by omega) hroom hzl hzc
       have hos : (vs.extract o (o + len * j.size)).size = len * j.size := by simp; omega
       have hsz : (vs.extract o (o + len * j.size) ++ us ++ us2 : Array Value).size = nc * j.size := by
        rw [Array.size_append, Array.size_append, hos, husz, c3]
        have : (len + n) * j.size ≤ nc * j.size := Nat.mul_le_mul_right _ c1
        omega
       have hnb := st.nn_not_bn
       have nm : (g.name H.nn w.heap.size (nc * j.size) hnb).nm H.nn = w.heap.size := if_pos rfl
       have hcells := (RelCells.sub a4 a6 ho).append hus
       refine ⟨_, _, g.name H.nn w.heap.size (nc * j.size) hnb, hrun, g.le_name _ _ _ _, ?_, st.drew.new _ (by simp) hnb ?_⟩
       ·have := RelV.sl (g := g.name H.nn w.heap.size (nc * j.size) hnb) j.size H.nn 0 (len + n) nc (by simp [G.name]) (by rw [Nat.zero_add]; exact (if_pos rfl).symm) c1 c2
        rwa [nm] at this
       ·have hcl2 : ((cs.drop o).take (len * j.size) ++ ys).length = (vs.extract o (o + len * j.size) ++ us).size := hcells.1
        refine ⟨vs.extract o (o + len * j.size) ++ us ++ us2, (0, 0), ⟨_, ?_, fun _ => rfl⟩, fun _ => .inl rfl, ?_, ?_, by simp, ?_⟩
        ·rw [show (g.name H.nn w.drew.heap.size (nc * j.size) hnb).nm H.nn = w.heap.size from if_pos rfl]
         show (w.heap.push _)[w.heap.size]? = _
         simp
        ·rw [hsz]; exact (if_pos rfl).symm
        ·rw [hcl2]; simp
        ·rw [hcl2]
         have : (vs.extract o (o + len * j.size) ++ us ++ us2 : Array Value).extract 0 (vs.extract o (o + len * j.size) ++ us).size = vs.extract o (o + len * j.size) ++ us := by
          exact akI _ _
         rw [this]
         exact hcells.mono (g.le_name _ _ _ _)
      | false =>
       simp only at h
       obtain ⟨hc0, h⟩ := yK h
       cases h
       simp only [Bool.and_eq_true, Bool.not_eq_true'] at hc0
       obtain ⟨ho0, hl0, hro, hSE⟩ := hc0
       have hSE := Nat.eq_of_beq_eq_true hSE
       subst hSE
       have ho0 := Nat.eq_of_beq_eq_true ho0
       have hl0 := Nat.eq_of_beq_eq_true hl0
       subst hro
       subst ho0
       have hfz := a2 rfl
       obtain rfl := aT rfl
       have hnb := st.nn_not_bn
       have hmn : m ≠ H.nn := by rintro rfl; rw [st.fresh _ (Nat.le_refl _)] at hm; cases hm
       have hcl : cs.length ≤ vs.size := a4
       have h00 : RelCells g cs (vs.extract 0 (len * j.size)) := by rw [hl0]; exact a6
       by_cases hC : cap < len + n
       ·have hold : ∀ w', w'.heap = w.heap → (Builtin.firstCells j.size len (.slice (some ⟨g.nm m, 0, none⟩) len cap)).run P w' = .ok (vs.extract 0 (0 + len * j.size)) w' := fun w' hw => acN (w := w') (by rw [hw]; exact a1) (by omega)
        rw [Nat.zero_add] at hold
        obtain ⟨nc, us2, c1, c2, c3, hrun⟩ := abF (dst := dst) (ty := ty) (pos := pos) (af := af) (gd := gd) ok hT hu hT' hu' hj hex hlen hfirst' hold hC (by omega) hroom hzl hzc
        have hos : (vs.extract 0 (len * j.size)).size = len * j.size := by simp; omega
        have hsz : (vs.extract 0 (len * j.size) ++ us ++ us2 : Array Value).size = nc * j.size := by
         rw [Array.size_append, Array.size_append, hos, husz, c3]
         have : (len + n) * j.size ≤ nc * j.size := Nat.mul_le_mul_right _ c1
         omega
        have nm : (g.name H.nn w.heap.size (nc * j.size) hnb).nm H.nn = w.heap.size := if_pos rfl
        have hcells := h00.append hus
        have hcl2 : (cs ++ ys).length = (vs.extract 0 (len * j.size) ++ us).size := hcells.1
        refine ⟨_, _, g.name H.nn w.heap.size (nc * j.size) hnb, hrun, g.le_name _ _ _ _, ?_, st.drew.moveAt (b := w.heap.size) (k := nc * j.size) hm rfl (by simp) hnb rfl rfl rfl (by simp) (.inr (Nat.le_refl _)) (by simp) (fun q hq _ => Below.heap_alloc w.drew _ q hq) ?_⟩
        ·have := RelV.sl (g := g.name H.nn w.heap.size (nc * j.size) hnb) j.size H.nn 0 (len + n) nc (by simp [G.name]) (by rw [Nat.zero_add]; exact (if_pos rfl).symm) c1 c2
         rwa [nm] at this
        ·refine ⟨vs.extract 0 (len * j.size) ++ us ++ us2, (0, 0), ⟨_, ?_, fun _ => rfl⟩, fun _ => .inl rfl, ?_, ?_, by simp, ?_⟩
         ·rw [nm]
          show (w.heap.push _)[w.heap.size]? = _
          simp
         ·rw [hsz]; exact (if_pos rfl).symm
         ·rw [hcl2]; simp
         ·rw [hcl2]
          have : (vs.extract 0 (len * j.size) ++ us ++ us2 : Array Value).extract 0 (vs.extract 0 (len * j.size) ++ us).size = vs.extract 0 (len * j.size) ++ us := akI _ _
          rw [this]
          exact hcells.mono (g.le_name _ _ _ _)
       ·have hcap : len + n ≤ cap := by omega
        have hcapm : (len + n) * j.size ≤ cap * j.size := Nat.mul_le_mul_right _ hcap
        have hrun := run_storeCells_th (P := P) (g.nm m) (len * j.size) _ fz us.toList 0 vs w a1 hfz (by simp; omega) (hus.one_cells hone)
        simp only [Nat.add_zero] at hrun
        have nm : (g.name H.nn (g.nm m) (g.vs m) hnb).nm H.nn = g.nm m := if_pos rfl
        have hlt : g.nm m < w.heap.size := (Array.getElem?_eq_some_iff.1 a1).1
        refine ⟨_, w.setRow (g.nm m) (vs.toList.take (len * j.size) ++ us.toList ++ vs.toList.drop (len * j.size + us.toList.length)).toArray, g.name H.nn (g.nm m) (g.vs m) hnb, abY ok hT hu hT' hu' hj hex hlen (hfirst' w rfl) hcap (fun b hbb => ?_) (fun hbb => by cases hbb), g.le_name _ _ _ _, ?_,
          st.moveAt (b := g.nm m) (k := g.vs m) hm rfl (by simp) hnb rfl rfl rfl (by simp) (.inl rfl) (by simpa using hlt) (fun q _ hq => setRow_other w _ q _ hq) ?_⟩
        ·cases hbb
         rw [Addr.add_off, Nat.zero_add]
         exact hrun
        ·have := RelV.sl (g := g.name H.nn (g.nm m) (g.vs m) hnb) j.size H.nn 0 (len + n) cap (by simp [G.name]) (by rw [hvs]; exact (if_pos rfl).symm) hcap hcm
         rwa [nm] at this
        ·have hrow : RelCells g (cs ++ ys) (vs.extract 0 (len * j.size) ++ us) := h00.append hus
         have hcl2 : (cs ++ ys).length = (vs.extract 0 (len * j.size) ++ us).size := hrow.1
         have hos : (vs.extract 0 (len * j.size)).size = len * j.size := by simp; omega
         refine ⟨_, fz, ⟨_, by rw [nm]; exact setRow_heap w _ vs _ _ fz a1, fun _ => rfl⟩, fun _ => (by
           have e : (vs.toList.take (len * j.size) ++ us.toList ++ vs.toList.drop (len * j.size + us.toList.length)).toArray.size = vs.size := by simp; omega
           rw [e]; exact hfz), ?_, ?_, by simp, ?_⟩
         ·rw [show (g.name H.nn (g.nm m) (g.vs m) hnb).vs H.nn = g.vs m from if_pos rfl, ← a3]
          simp; omega
         ·rw [hcl2, Array.size_append, hos, husz]; simp; omega
         ·have e1 : (vs.toList.take (len * j.size) ++ us.toList ++ vs.toList.drop (len * j.size + us.toList.length)).toArray.extract 0 (cs ++ ys).length = vs.extract 0 (len * j.size) ++ us := by
           have e2 : (vs.toList.take (len * j.size) ++ us.toList ++ vs.toList.drop (len * j.size + us.toList.length)).toArray = (vs.extract 0 (len * j.size) ++ us) ++ (vs.toList.drop (len * j.size + us.toList.length)).toArray := by
            apply Array.toList_inj.1
            simp
           rw [e2, hcl2]
           exact akI _ _
          rw [e1]
          exact hrow.mono (g.le_name _ _ _ _)

theorem m_copy {T E : TypeId} {ts : Array TypeId} {i j : TyI} {x y : Operand} {sz n o len : Nat} {vy : V} {ys : List V} {S : TypeId} {cs : List V} {ex : Bool} {H : Heap} (hT : ti T = some i) (ht : ts[0]? = some T) (hu : i.und = .slice E) (hj : ti E = some j)
  (hx : evO ng e x = some (.sl sz n o len)) (hy : evO ng e y = some vy) (hs : srcCells H sz vy = some ys) (hn : H.get n = some (.cells S cs ex false)) (hs0 : 0 < sz) (hsz : j.size = sz) (ho : o + len * sz ≤ cs.length) (hone : ys.all V.one = true) :
  AStep P ng ⟨dst, .call { callee := .builtin .copy, args := #[x, y], argTypes := ts }, ty, pos, af, gd⟩ e H (.int .i64 (Nat.min (Nat.div ys.length sz) len)) (H.set n (.cells S (putRow cs o (ys.take (Nat.min (Nat.div ys.length sz) len * sz))) ex false)) := by
 refine AStep.of fun g a w hg k st => ?_
 subst hg
 obtain ⟨v, hex, hv⟩ := yQ hx k
 obtain ⟨u, hey, hu2⟩ := yQ hy k
 obtain ⟨us, q, hl1, hl2, hus, hfirst⟩ := apV (P := P) st hs hu2
 have husz : us.size = q * sz := by rw [← hus.1]; exact hl2
 have hdiv : Nat.div ys.length sz = q := by
  show ys.length / sz = q
  rw [hl2]; exact Nat.mul_div_cancel _ hs0
 rw [hdiv]
 have hmin : Nat.min q len ≤ q := Nat.min_le_left _ _
 have hmin2 : Nat.min q len ≤ len := Nat.min_le_right _ _
 have hm1 : Nat.min q len * sz ≤ q * sz := Nat.mul_le_mul_right _ hmin
 have hm2 : Nat.min q len * sz ≤ len * sz := Nat.mul_le_mul_right _ hmin2
 cases hv with
 | sl sz n o len cap hbn hvs hlc hcm =>
  have hpiece : RelCells g (ys.take (Nat.min q len * sz)) (us.extract 0 (Nat.min q len * sz)) := by
   have := hus.piece (o := 0) (k := Nat.min q len * sz) (by omega)
   simpa using this
  have hlen2 : (ys.take (Nat.min q len * sz)).length = Nat.min q len * sz := by simp; omega
  have h1 : (ys.take (Nat.min q len * sz)).all V.one = true := List.all_eq_true.2 fun x hx => List.all_eq_true.1 hone x (List.mem_of_mem_take hx)
  obtain ⟨w', hrun, st'⟩ := afM (P := P) (o := o) st hn hpiece h1 (by omega)
  have u1 := ok.run_underlying hT
  rw [hu] at u1
  have hf := hfirst _ hmin w rfl
  refine ⟨.int .i64 (Nat.min q len), w', g, ?_, G.le.refl g, .int _ _, st'⟩
  simp only [execCall_builtin, builtin, Builtin.copy_]
  simp [ht, hex, hey, u1, hl1, ok.run_sizeOf hj, hsz, goInt]
  rw [hf]
  simp only [Result.andThen_ok]
  rw [hrun]
  rfl
omit ok in
theorem m_call {call : CallF} (hc : CallOK P ng call) {f : Operand} {as : Array Operand} {ts : Array TypeId} {fid : FuncId} {cap xs : List V} {r : V} {H H' : Heap} (hf : evO ng e f = some (.func fid cap)) (hx : evL ng e as.toList = some xs) (h : call fid (xs ++ cap) H = some (r, H')) :
  AStep P ng ⟨dst, .call { callee := .value f, args := as, argTypes := ts }, ty, pos, af, gd⟩ e H r H' := by
 intro g a w hg k st
 subst hg
 obtain ⟨v, hev, hv⟩ := yQ hf k
 cases hv with
 | func f cap us hn hr =>
  obtain ⟨h1, h2⟩ := akJ k hx
  have hargs : RelVs g (xs ++ cap) (as.toList.map a.eval ++ us.toList) := RelVs.append ⟨by rw [h1]; simp, h2⟩ ⟨by simpa using hn, fun i c v hc hv => hr i c v hc (by simpa using hv)⟩
  have e : (as.toList.map a.eval ++ us.toList).toArray = as.map a.eval ++ us := by
   apply Array.ext'; simp
  rcases hc _ _ _ _ _ h with ⟨hcall, hent⟩ | hval
  ·have hent : ∀ args w, (callFunc fid args).run P w = .ok (.enter fid args) w := hent
   have : (execOp a.eval ⟨dst, .call { callee := .value f, args := as, argTypes := ts }, ty, pos, af, gd⟩).run P w = .ok (.enter fid (as.map a.eval ++ us)) w := by
    simp [execOp, resolve, hev, Deferred.ofValue, invoke, hent]
   rw [this]
   have hc := hcall g _ w rfl hargs st
   rw [e] at hc
   exact hc
  ·obtain ⟨v, w', hrun, g', q1, q2, q3⟩ := hval g _ w rfl hargs st
   rw [e] at hrun
   have : (execOp a.eval ⟨dst, .call { callee := .value f, args := as, argTypes := ts }, ty, pos, af, gd⟩).run P w = .ok (.value v) w' := by
    simp [execOp, resolve, hev, Deferred.ofValue, invoke, hrun]
   rw [this]
   exact ⟨g', q1, q2, q3⟩

theorem amS {call : CallF} (hc : CallOK P ng call) {o : Oper} {x : V} {H H' : Heap} (h : evM ti ng call e H o = some (x, H')) : AStep P ng o e H x H' := by
 obtain ⟨dst, op, ty, pos, af, gd⟩ := o
 cases op with
 | load T p =>
  simp only [evM, evM_load] at h
  split at h <;> first | (cases h; done) | skip
  rename_i n o i hp hT
  split at h <;> first | (cases h; done) | skip
  rename_i cs hn
  split at h <;> first | (cases h; done) | skip
  rename_i v hv
  cases h
  exact m_load ok hT hp hn hv
 | store T p y =>
  simp only [evM, evM_store] at h
  split at h <;> first | (cases h; done) | skip
  rename_i n o v i hp hy hT
  split at h <;> first | (cases h; done) | skip
  rename_i S cs ex hn
  obtain ⟨hb, h⟩ := yK h
  cases h
  simp only [Bool.and_eq_true] at hb
  exact m_store ok hT hp hy hn hb.1 (Nat.eq_of_beq_eq_true hb.2.1) (Nat.le_of_ble_eq_true hb.2.2)
 | slice T y lo hi mx =>
  cases mx with
  | some m => simp [evM, evM_slice] at h
  | none =>
   simp only [evM, evM_slice] at h
   split at h <;> first | (cases h; done) | skip
   rename_i i hT
   split at h <;> first | (cases h; done) | skip
   rename_i N E n o hu hy
   split at h <;> first | (cases h; done) | skip
   rename_i l hh j S cs ro hlo hhi hj hn
   obtain ⟨hb, h⟩ := yK h
   cases h
   simp only [Bool.and_eq_true] at hb
   exact m_sliceA ok hT hu hj hy hlo hhi hn (Nat.eq_of_beq_eq_true hb.1) (Nat.le_of_ble_eq_true hb.2.1) (Nat.le_of_ble_eq_true hb.2.2.1) (by simpa [Nat.blt_eq] using hb.2.2.2.1) (Nat.le_of_ble_eq_true hb.2.2.2.2)
 | convert S D y =>
  simp only [evM] at h
  cases hsl : isSl (evO ng e y) with
  | false => rw [hsl] at h; exact apC ok h
  | true =>
  rw [hsl] at h
  simp only [evM_convert, cond_true] at h
  split at h <;> first | (cases h; done) | skip
  rename_i i i' sz n o len hS hD hy
  split at h <;> first | (cases h; done) | skip
  rename_i E hu hu'
  split at h <;> first | (cases h; done) | skip
  rename_i j cs hE hn
  split at h <;> first | (cases h; done) | skip
  rename_i hju
  cases hb : (Nat.beq sz 1 && Nat.ble (o + len) cs.length) with
  | false => rw [hb] at h; cases h
  | true =>
   rw [hb] at h
   simp only [Bool.and_eq_true] at hb
   have hsz := Nat.eq_of_beq_eq_true hb.1
   subst hsz
   simp only [cond] at h
   split at h <;> first | (cases h; done) | skip
   rename_i s hs
   cases h
   exact m_text ok hS hD hu hu' hE hju hy hn (Nat.le_of_ble_eq_true hb.2) hs
 | range T y =>
  simp only [evM, evM_range] at h
  split at h <;> first | (cases h; done) | skip
  rename_i i s hT hy
  split at h <;> first | (cases h; done) | skip
  rename_i hu
  cases h
  exact m_range ok hT hu hy
 | next y b =>
  cases b with
  | false => simp [evM, evM_next] at h
  | true =>
   simp only [evM, evM_next] at h
   split at h <;> first | (cases h; done) | skip
   rename_i n hy
   split at h <;> first | (cases h; done) | skip
   rename_i s p hn
   cases hb : Nat.blt p s.length with
   | true =>
    rw [hb] at h
    cases h
    exact (m_next hy hn).1 (by simpa [Nat.blt_eq] using hb)
   | false =>
    rw [hb] at h
    cases h
    exact (m_next hy hn).2 (fun hlt => by
      have : Nat.blt p s.length = true := by simpa [Nat.blt_eq] using hlt
      rw [this] at hb; cases hb)
 | call c =>
  obtain ⟨cal, as, ts⟩ := c
  cases cal with
  | value f =>
   simp only [evM, evM_call, evM_value] at h
   split at h <;> first | (cases h; done) | skip
   rename_i g cap xs hf hx
   exact m_call hc hf hx h
  | builtin b =>
   simp only [evM, evM_call, evM_builtin] at h
   split at h
   ·rename_i b' as' ts' y z T T' has hts
    have e1 : as = #[y, z] := Array.toList_inj.1 (by simpa using has)
    have e2 : ts = #[T, T'] := Array.toList_inj.1 (by simpa using hts)
    subst e1
    subst e2
    split at h <;> first | (cases h; done) | skip
    rename_i i i' vx vy hT hT' hx hy
    split at h <;> first | (cases h; done) | skip
    rename_i E hu
    cases hl : listy i'.und with
    | false => rw [hl] at h; cases h
    | true =>
     rw [hl] at h
     simp only [cond] at h
     split at h <;> first | (cases h; done) | skip
     rename_i j hj
     split at h <;> first | (cases h; done) | skip
     rename_i ys hs
     cases hb : (j.zero.lays && Nat.beq j.zero.cells.length j.size) with
     | false => rw [hb] at h; cases h
     | true =>
      rw [hb] at h
      simp only [Bool.and_eq_true] at hb
      exact m_append ok hT hu hT' hl hj hx hy hs hb.1 (Nat.eq_of_beq_eq_true hb.2) h
   ·rename_i b' as' ts' y z T r has hts
    have e1 : as = #[y, z] := Array.toList_inj.1 (by simpa using has)
    have e2 : ts[0]? = some T := by
     have : ts.toList[0]? = some T := by rw [hts]; rfl
     simpa using this
    subst e1
    split at h <;> first | (cases h; done) | skip
    rename_i i sz n o len vy hT hx hy
    split at h <;> first | (cases h; done) | skip
    rename_i E hu
    split at h <;> first | (cases h; done) | skip
    rename_i j ys S cs ex hj hs hn
    obtain ⟨hb, h⟩ := yK h
    cases h
    simp only [Bool.and_eq_true] at hb
    exact m_copy ok hT e2 hu hj hx hy hs hn (by simpa [Nat.blt_eq] using hb.1) (Nat.eq_of_beq_eq_true hb.2.1) (Nat.le_of_ble_eq_true hb.2.2.2.1) hb.2.2.2.2
   ·cases h
  | _ => simp [evM, evM_call] at h
 | _ => simp [evM] at h
theorem amQ {call : CallF} (hc : CallOK P ng call) {o : Oper} {x : V} {H H' : Heap} (h : evStep P ti ng call e H o = some (x, H')) : AStep P ng o e H x H' := by
 unfold evStep at h
 split at h
 ·rename_i y hy
  cases h
  exact (amR ok hy).step H
 ·cases ha : isA o.op with
  | true =>
   rw [ha] at h
   simp only [cond] at h
   split at h <;> first | (cases h; done) | skip
   rename_i y b hb
   cases h
   exact evA_new ok hb
  | false =>
   rw [ha] at h
   exact amS ok hc h
end

end Go.Proofs.YtfkeflcdadlmdaaGreatDoor.Cc
