/-
  The frame of the walks: package variables that are arrays, loaded whole; a slice of an array that never turns.
-/
import Derived.Test.YtifoddpbmlajfaaGreatDoorS6
import Derived.Test.YtifoddpbmlajfaaGreatDoorHbk
import Derived.Test.YtifoddpbmlajfaaGreatDoorK2
namespace Go.Proofs.YtifoddpbmlajfaaGreatDoor
open Go Go.RowKit

section
variable {P : Program} {env : Env} {H : Heap} {dst : Option Tmp} {ty : TypeId} {pos : String} {af : Array Edge} {gd : Option (Nat × Bool)}
theorem pure_sliceA {T E : TypeId} {x : Operand} {N : Nat} {cs : List AV} (hu : P.underlying T = some (.array N E)) (hs : ∀ w, (sizeOf E).run P w = .ok 1 w) (hx : Ev env x (.iptr cs)) (hl : cs.length = N) (hN : N ≤ maxLen)
    (hc : ∀ c, c ∈ cs → c.cells = [c] ∧ c.one = true) : APure P ⟨dst, .slice T x none none none, ty, pos, af, gd⟩ env (.slice 1 cs .full) := by
  intro g n a ka
  obtain ⟨v, he, hv⟩ := ev1 hx ka
  cases hv with
  | iptr cs b off vs hi hr =>
    subst hl
    refine ⟨.slice (some ⟨b, off, none⟩) cs.length cs.length, ?_, fun w hw => ?_⟩
    · refine .slice 1 cs .full b off cs.length vs (fun c h => ?_) (fun i h => hi i (by omega)) (fun i j x c hx hj => ?_) (Nat.le_refl _) hN (by show (cs.length - cs.length) * 1 = 0; omega)
      · obtain ⟨h1, h2⟩ := hc c h
        exact ⟨by rw [h1]; rfl, by rw [h1]; simp [h2]⟩
      · obtain ⟨h1, _⟩ := hc x (List.mem_of_getElem? hx)
        rw [h1] at hj
        cases j with
        | zero =>
          simp only [List.getElem?_cons_zero, Option.some.injEq] at hj
          subst hj
          rw [show i * 1 + 0 = i by omega]
          exact hr i _ hx
        | succ j => simp at hj
    · simp [execOp, he, Instr.sliceAt, Instr.sureAddr, Instr.sliceBounds, underlying, hu, hs, Addr.add_off]
theorem step_loadKN {T : TypeId} {x : Operand} {b k : Nat} {cs : List AV} (ha : ∀ w, (isAgg T).run P w = .ok true w) (hs : ∀ w, (sizeOf T).run P w = .ok k w) (hx : Ev env x (.ptr (some ⟨b, 0, none⟩))) (hl : cs.length = k) (_ : 0 < k)
    (hk : ∀ W, Inv W → ∃ vs : List Value, vs.length = k ∧ (∀ (i : Nat) v, vs[i]? = some v → W.cell? ⟨b, i, none⟩ = some v) ∧ ∀ g (i : Nat) c v, cs[i]? = some c → vs[i]? = some v → RelV g c v) :
    AStep P ⟨dst, .load T x, ty, pos, af, gd⟩ env H (fun y H' => y = .agg cs ∧ H' = H) := by
  intro g n a w ka s
  obtain ⟨v, he, hv⟩ := ev1 hx ka
  cases hv
  obtain ⟨vs, h1, h2, h3⟩ := hk _ g.hinv
  have hcell : ∀ (j : Nat) v, vs[j]? = some v → w.cell? ((⟨b, 0, none⟩ : Addr).add j) = some v := fun j v hj => by
    have h4 := h2 j v hj
    have hlt : b < g.base.heap.size := World.block_lt_of_cell? _ (a := ⟨b, j, none⟩) h4
    have e : (⟨b, 0, none⟩ : Addr).add j = ⟨b, j, none⟩ := by rw [Addr.add_off, Nat.zero_add]
    rw [e, World.cell?_of_block (w := g.base) (s.below.block b hlt)]; exact h4
  have hrun := run_loadCells_list (P := P) (w := w) ⟨b, 0, none⟩ vs hcell
  rw [h1] at hrun
  have : (execOp a.eval ⟨dst, .load T x, ty, pos, af, gd⟩).run P w = .ok (.value (.agg vs.toArray)) w := by simp [execOp, he, Instr.loadAt, Instr.sureAddr, loadVar, ha, hs, hrun]
  rw [this]
  exact ⟨g, _, H, .id, .agg _ _ (by simp; omega) (fun i c v hc hv => h3 g i c v hc (by simpa using hv)), s, rfl, rfl⟩
end
end Go.Proofs.YtifoddpbmlajfaaGreatDoor

namespace Go.Proofs.YtifoddpbmlajfaaGreatDoor
open Go Go.RowKit Go.Shelf

def bsAt (ss : List (List UInt8)) (x : List UInt8) : Nat := Lib.bsGo (fun t => Op.bytesLess (ss.getD t []) x) ss.length 0 ss.length
def bsHas (ss : List (List UInt8)) (x : List UInt8) : Bool := decide (bsAt ss x < ss.length ∧ ss.getD (bsAt ss x) [] = x)
theorem BS_calls (ss : List (List UInt8)) (tl : Tail) (x : List UInt8) (h0 : 0 < ss.length) (hn : ss.length < 1000) (H : Heap) : ACall Tryz.prog 32 [.slice 1 (ss.map .str) tl, .str x] H (fun y H' => y = .tuple [.int .i64 (bsAt ss x), .bool (bsHas ss x)] ∧ H' = H) := by
  intro g vs w hr hs
  obtain ⟨v, u, rfl, hv, hu⟩ : ∃ v u, vs = [v, u] ∧ RelV g (.slice 1 (ss.map .str) tl) v ∧ RelV g (.str x) u := by
    obtain ⟨hl, hr⟩ := hr
    match vs, hl with
    | [v, u], _ => exact ⟨v, u, rfl, hr 0 _ _ rfl rfl, hr 1 _ _ rfl rfl⟩
  cases hu with
  | str x hx =>
  generalize hxs : ss.map AV.str = xs at hv
  have hlen : xs.length = ss.length := by rw [← hxs, List.length_map]
  cases hv with
  | nilSlice => simp at hlen; omega
  | voidSlice => simp at hlen; omega
  | slice sz xs tl b off cap us hsz hi hrr hl1 hl2 htl =>
    have hcell : ∀ j, j < ss.length → w.cell? ⟨b, off + j, none⟩ = some (.string ⟨(ss.getD j []).toArray⟩) := fun j hj => by
      have h1 : xs[j]? = some (.str (ss.getD j [])) := by
        rw [← hxs, List.getElem?_map, List.getD_eq_getElem?_getD, List.getElem?_eq_getElem hj]; rfl
      have h2 := hrr j 0 _ _ h1 (show (AV.str (ss.getD j [])).cells[0]? = some (.str (ss.getD j [])) from rfl)
      have h3 := hi j (by omega)
      have h4 := hs.imm b (off + j) _ h3
      rw [show j * 1 + 0 = j by omega] at h2
      generalize us j = z at *
      generalize ss.getD j [] = q at *
      cases h2
      exact h4
    rw [hlen]
    refine Calls.mono (Go.Proofs.Any2.slices_BinarySearch_string Cc.searchL b off ss.length cap (fun j => ⟨(ss.getD j []).toArray⟩) ⟨x.toArray⟩ w (by omega) hcell) ?_
    rintro e w' ⟨rfl, k, rfl⟩
    simp only [Lib.toList_data]
    have eq1 : ∀ a b : List UInt8, ((⟨a.toArray⟩ : ByteArray) = ⟨b.toArray⟩) = (a = b) := fun a b => by simp
    simp only [eq1]
    exact ⟨_, rfl, g, _, H, G.le.refl g, .tuple _ _ rfl (fun i c v hc hv => by
      match i with
      | 0 => cases hc; cases hv; exact .int _ _
      | 1 => cases hc; cases hv; exact .bool _
      | i + 2 => simp at hc), hs.grow (below_drawn _ _ _), rfl, rfl⟩
theorem closed_two {f : FuncId} {fn : Func} {c : Code} {k : Nat} {s : List UInt8} {a b : Int} (hf : Tryz.prog.funcs[f]? = some fn) (hb : fn.body = some c) (h : Cc.comes (Cc.run0 k f [.str s] Cc.h0) (.tuple [.int .i64 a, .int .i64 b]) = true) (H : Heap) :
    ACall Tryz.prog f [.str s] H (fun y H' => y = .tuple [.int .i64 a, .int .i64 b] ∧ H' = H) := by
  intro g vs w hr hs
  have hI : Inv w := g.hinv.grow hs.below.size hs.below.block
  obtain ⟨gc, h1, h2⟩ := ev_of hI
  obtain ⟨v, rfl, hv⟩ : ∃ v, vs = [v] ∧ RelV g (.str s) v := by
    obtain ⟨hl, hr⟩ := hr
    match vs, hl with
    | [v], _ => exact ⟨v, rfl, hr 0 _ _ rfl rfl⟩
  cases hv with
  | str s hlen =>
  obtain ⟨H', hrun⟩ := Cc.comes_spec h
  have hvs : Cc.RelVs (gc.alone Cc.consts w h1 (h1 ▸ h2.inv)) [.str s] [.string ⟨s.toArray⟩] := ⟨rfl, fun i x v hx hv => by
    match i with
    | 0 => cases hx; cases hv; exact .str s hlen
    | i + 1 => simp at hx⟩
  rcases Cc.run0_ok k f _ Cc.h0 _ H' hrun with ⟨hc, _⟩ | hv
  · refine (hc _ _ w rfl hvs (Cc.alone_sat Cc.consts h1 h2)).mono ?_
    rintro e w' ⟨v, rfl, g', q1, q2, q3⟩
    have hg : Cc.Grow w w' := by have := q3.keep; rw [q1.base] at this; exact this
    have hs' : Sat g H w' := hs.grow ⟨hg.os, hg.tape, hg.output, hg.size, hg.block⟩
    cases q2 with
    | tuple cs us hn hrr =>
    refine ⟨_, rfl, g, _, H, G.le.refl g, .tuple _ us hn (fun i c v hc hv => ?_), hs', rfl, rfl⟩
    match i with
    | 0 =>
      cases hc
      have := hrr 0 _ v rfl hv
      cases this; exact .int _ _
    | 1 =>
      cases hc
      have := hrr 1 _ v rfl hv
      cases this; exact .int _ _
    | i + 2 => simp at hc
  · obtain ⟨v, w', hrun, _⟩ := hv _ _ w rfl hvs (Cc.alone_sat Cc.consts h1 h2)
    rw [Cc.enters Cc.noNG hf hb _ w] at hrun
    cases hrun

end Go.Proofs.YtifoddpbmlajfaaGreatDoor
