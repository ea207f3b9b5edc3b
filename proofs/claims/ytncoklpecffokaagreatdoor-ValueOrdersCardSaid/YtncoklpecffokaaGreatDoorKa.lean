/-
  The constants of memory (written by the maker's own program out of the row's list), and the calls that the machine answers.
-/
import Derived.Test.YtncoklpecffokaaGreatDoorEo
import Derived.Test.YtncoklpecffokaaGreatDoorLs
import Derived.Test.YtncoklpecffokaaGreatDoorProg
import Derived.KernelRfl
namespace Go.Proofs.YtncoklpecffokaaGreatDoor.Cc
open Go Go.RowKit

noncomputable abbrev P : Program := Tryz.prog
def k0 : O := .cells 47 [.str [99, 104], .str [100, 101], .str [101, 110], .str [102, 114], .str [104, 105], .str [115, 118]] true true
def k1 : O := .cells 49 [.str [46], .str [226, 128, 153], .str [59], .str [45], .str [67, 72, 70], .str [44], .str [46], .str [59], .str [45], .str [226, 130, 172], .str [46], .str [44], .str [44], .str [45], .str [36], .str [44], .str [226, 128, 175], .str [59], .str [45], .str [226, 130, 172], .str [46], .str [44], .str [44], .str [45], .str [226, 130, 185], .str [44], .str [194, 160], .str [59], .str [226, 136, 146], .str [107, 114]] true true
def k2 : O := .gone
def k3 : O := .gone
def k4 : O := .gone
def k5 : O := .cells 246 [.int .u64 (.ofNat 1), .int .u64 (.ofNat 10), .int .u64 (.ofNat 100), .int .u64 (.ofNat 1000), .int .u64 (.ofNat 10000), .int .u64 (.ofNat 100000), .int .u64 (.ofNat 1000000), .int .u64 (.ofNat 10000000), .int .u64 (.ofNat 100000000), .int .u64 (.ofNat 1000000000), .int .u64 (.ofNat 10000000000), .int .u64 (.ofNat 100000000000), .int .u64 (.ofNat 1000000000000), .int .u64 (.ofNat 10000000000000), .int .u64 (.ofNat 100000000000000), .int .u64 (.ofNat 1000000000000000), .int .u64 (.ofNat 10000000000000000), .int .u64 (.ofNat 100000000000000000), .int .u64 (.ofNat 1000000000000000000), .int .u64 (.ofNat 10000000000000000000)] true true
def k6 : O := .cells 249 [.int .u8 (.ofNat 240), .int .u8 (.ofNat 240), .int .u8 (.ofNat 240), .int .u8 (.ofNat 240), .int .u8 (.ofNat 240), .int .u8 (.ofNat 240), .int .u8 (.ofNat 240), .int .u8 (.ofNat 240), .int .u8 (.ofNat 240), .int .u8 (.ofNat 240), .int .u8 (.ofNat 240), .int .u8 (.ofNat 240), .int .u8 (.ofNat 240), .int .u8 (.ofNat 240), .int .u8 (.ofNat 240), .int .u8 (.ofNat 240), .int .u8 (.ofNat 240), .int .u8 (.ofNat 240), .int .u8 (.ofNat 240), .int .u8 (.ofNat 240), .int .u8 (.ofNat 240), .int .u8 (.ofNat 240), .int .u8 (.ofNat 240), .int .u8 (.ofNat 240), .int .u8 (.ofNat 240), .int .u8 (.ofNat 240), .int .u8 (.ofNat 240), .int .u8 (.ofNat 240), .int .u8 (.ofNat 240), .int .u8 (.ofNat 240), .int .u8 (.ofNat 240), .int .u8 (.ofNat 240), .int .u8 (.ofNat 240), .int .u8 (.ofNat 240), .int .u8 (.ofNat 240), .int .u8 (.ofNat 240), .int .u8 (.ofNat 240), .int .u8 (.ofNat 240), .int .u8 (.ofNat 240), .int .u8 (.ofNat 240), .int .u8 (.ofNat 240), .int .u8 (.ofNat 240), .int .u8 (.ofNat 240), .int .u8 (.ofNat 240), .int .u8 (.ofNat 240), .int .u8 (.ofNat 240), .int .u8 (.ofNat 240), .int .u8 (.ofNat 240), .int .u8 (.ofNat 240), .int .u8 (.ofNat 240), .int .u8 (.ofNat 240), .int .u8 (.ofNat 240), .int .u8 (.ofNat 240), .int .u8 (.ofNat 240), .int .u8 (.ofNat 240), .int .u8 (.ofNat 240), .int .u8 (.ofNat 240), .int .u8 (.ofNat 240), .int .u8 (.ofNat 240), .int .u8 (.ofNat 240), .int .u8 (.ofNat 240), .int .u8 (.ofNat 240), .int .u8 (.ofNat 240), .int .u8 (.ofNat 240), .int .u8 (.ofNat 240), .int .u8 (.ofNat 240), .int .u8 (.ofNat 240), .int .u8 (.ofNat 240), .int .u8 (.ofNat 240), .int .u8 (.ofNat 240), .int .u8 (.ofNat 240), .int .u8 (.ofNat 240), .int .u8 (.ofNat 240), .int .u8 (.ofNat 240), .int .u8 (.ofNat 240), .int .u8 (.ofNat 240), .int .u8 (.ofNat 240), .int .u8 (.ofNat 240), .int .u8 (.ofNat 240), .int .u8 (.ofNat 240), .int .u8 (.ofNat 240), .int .u8 (.ofNat 240), .int .u8 (.ofNat 240), .int .u8 (.ofNat 240), .int .u8 (.ofNat 240), .int .u8 (.ofNat 240), .int .u8 (.ofNat 240), .int .u8 (.ofNat 240), .int .u8 (.ofNat 240), .int .u8 (.ofNat 240), .int .u8 (.ofNat 240), .int .u8 (.ofNat 240), .int .u8 (.ofNat 240), .int .u8 (.ofNat 240), .int .u8 (.ofNat 240), .int .u8 (.ofNat 240), .int .u8 (.ofNat 240), .int .u8 (.ofNat 240), .int .u8 (.ofNat 240), .int .u8 (.ofNat 240), .int .u8 (.ofNat 240), .int .u8 (.ofNat 240), .int .u8 (.ofNat 240), .int .u8 (.ofNat 240), .int .u8 (.ofNat 240), .int .u8 (.ofNat 240), .int .u8 (.ofNat 240), .int .u8 (.ofNat 240), .int .u8 (.ofNat 240), .int .u8 (.ofNat 240), .int .u8 (.ofNat 240), .int .u8 (.ofNat 240), .int .u8 (.ofNat 240), .int .u8 (.ofNat 240), .int .u8 (.ofNat 240), .int .u8 (.ofNat 240), .int .u8 (.ofNat 240), .int .u8 (.ofNat 240), .int .u8 (.ofNat 240), .int .u8 (.ofNat 240), .int .u8 (.ofNat 240), .int .u8 (.ofNat 240), .int .u8 (.ofNat 240), .int .u8 (.ofNat 240), .int .u8 (.ofNat 240), .int .u8 (.ofNat 240), .int .u8 (.ofNat 240), .int .u8 (.ofNat 240), .int .u8 (.ofNat 241), .int .u8 (.ofNat 241), .int .u8 (.ofNat 241), .int .u8 (.ofNat 241), .int .u8 (.ofNat 241), .int .u8 (.ofNat 241), .int .u8 (.ofNat 241), .int .u8 (.ofNat 241), .int .u8 (.ofNat 241), .int .u8 (.ofNat 241), .int .u8 (.ofNat 241), .int .u8 (.ofNat 241), .int .u8 (.ofNat 241), .int .u8 (.ofNat 241), .int .u8 (.ofNat 241), .int .u8 (.ofNat 241), .int .u8 (.ofNat 241), .int .u8 (.ofNat 241), .int .u8 (.ofNat 241), .int .u8 (.ofNat 241), .int .u8 (.ofNat 241), .int .u8 (.ofNat 241), .int .u8 (.ofNat 241), .int .u8 (.ofNat 241), .int .u8 (.ofNat 241), .int .u8 (.ofNat 241), .int .u8 (.ofNat 241), .int .u8 (.ofNat 241), .int .u8 (.ofNat 241), .int .u8 (.ofNat 241), .int .u8 (.ofNat 241), .int .u8 (.ofNat 241), .int .u8 (.ofNat 241), .int .u8 (.ofNat 241), .int .u8 (.ofNat 241), .int .u8 (.ofNat 241), .int .u8 (.ofNat 241), .int .u8 (.ofNat 241), .int .u8 (.ofNat 241), .int .u8 (.ofNat 241), .int .u8 (.ofNat 241), .int .u8 (.ofNat 241), .int .u8 (.ofNat 241), .int .u8 (.ofNat 241), .int .u8 (.ofNat 241), .int .u8 (.ofNat 241), .int .u8 (.ofNat 241), .int .u8 (.ofNat 241), .int .u8 (.ofNat 241), .int .u8 (.ofNat 241), .int .u8 (.ofNat 241), .int .u8 (.ofNat 241), .int .u8 (.ofNat 241), .int .u8 (.ofNat 241), .int .u8 (.ofNat 241), .int .u8 (.ofNat 241), .int .u8 (.ofNat 241), .int .u8 (.ofNat 241), .int .u8 (.ofNat 241), .int .u8 (.ofNat 241), .int .u8 (.ofNat 241), .int .u8 (.ofNat 241), .int .u8 (.ofNat 241), .int .u8 (.ofNat 241), .int .u8 (.ofNat 241), .int .u8 (.ofNat 241), .int .u8 (.ofNat 2), .int .u8 (.ofNat 2), .int .u8 (.ofNat 2), .int .u8 (.ofNat 2), .int .u8 (.ofNat 2), .int .u8 (.ofNat 2), .int .u8 (.ofNat 2), .int .u8 (.ofNat 2), .int .u8 (.ofNat 2), .int .u8 (.ofNat 2), .int .u8 (.ofNat 2), .int .u8 (.ofNat 2), .int .u8 (.ofNat 2), .int .u8 (.ofNat 2), .int .u8 (.ofNat 2), .int .u8 (.ofNat 2), .int .u8 (.ofNat 2), .int .u8 (.ofNat 2), .int .u8 (.ofNat 2), .int .u8 (.ofNat 2), .int .u8 (.ofNat 2), .int .u8 (.ofNat 2), .int .u8 (.ofNat 2), .int .u8 (.ofNat 2), .int .u8 (.ofNat 2), .int .u8 (.ofNat 2), .int .u8 (.ofNat 2), .int .u8 (.ofNat 2), .int .u8 (.ofNat 2), .int .u8 (.ofNat 2), .int .u8 (.ofNat 19), .int .u8 (.ofNat 3), .int .u8 (.ofNat 3), .int .u8 (.ofNat 3), .int .u8 (.ofNat 3), .int .u8 (.ofNat 3), .int .u8 (.ofNat 3), .int .u8 (.ofNat 3), .int .u8 (.ofNat 3), .int .u8 (.ofNat 3), .int .u8 (.ofNat 3), .int .u8 (.ofNat 3), .int .u8 (.ofNat 3), .int .u8 (.ofNat 35), .int .u8 (.ofNat 3), .int .u8 (.ofNat 3), .int .u8 (.ofNat 52), .int .u8 (.ofNat 4), .int .u8 (.ofNat 4), .int .u8 (.ofNat 4), .int .u8 (.ofNat 68), .int .u8 (.ofNat 241), .int .u8 (.ofNat 241), .int .u8 (.ofNat 241), .int .u8 (.ofNat 241), .int .u8 (.ofNat 241), .int .u8 (.ofNat 241), .int .u8 (.ofNat 241), .int .u8 (.ofNat 241), .int .u8 (.ofNat 241), .int .u8 (.ofNat 241), .int .u8 (.ofNat 241)] true true
def k7 : O := .cells 252 [.int .u8 (.ofNat 128), .int .u8 (.ofNat 191), .int .u8 (.ofNat 160), .int .u8 (.ofNat 191), .int .u8 (.ofNat 128), .int .u8 (.ofNat 159), .int .u8 (.ofNat 144), .int .u8 (.ofNat 191), .int .u8 (.ofNat 128), .int .u8 (.ofNat 143), .int .u8 (.ofNat 0), .int .u8 (.ofNat 0), .int .u8 (.ofNat 0), .int .u8 (.ofNat 0), .int .u8 (.ofNat 0), .int .u8 (.ofNat 0), .int .u8 (.ofNat 0), .int .u8 (.ofNat 0), .int .u8 (.ofNat 0), .int .u8 (.ofNat 0), .int .u8 (.ofNat 0), .int .u8 (.ofNat 0), .int .u8 (.ofNat 0), .int .u8 (.ofNat 0), .int .u8 (.ofNat 0), .int .u8 (.ofNat 0), .int .u8 (.ofNat 0), .int .u8 (.ofNat 0), .int .u8 (.ofNat 0), .int .u8 (.ofNat 0), .int .u8 (.ofNat 0), .int .u8 (.ofNat 0)] true true
def k8 : O := .gone
def k9 : O := .gone
def k10 : O := .cells 280 [.int .u8 (.ofNat 0), .int .u8 (.ofNat 1), .int .u8 (.ofNat 28), .int .u8 (.ofNat 2), .int .u8 (.ofNat 29), .int .u8 (.ofNat 14), .int .u8 (.ofNat 24), .int .u8 (.ofNat 3), .int .u8 (.ofNat 30), .int .u8 (.ofNat 22), .int .u8 (.ofNat 20), .int .u8 (.ofNat 15), .int .u8 (.ofNat 25), .int .u8 (.ofNat 17), .int .u8 (.ofNat 4), .int .u8 (.ofNat 8), .int .u8 (.ofNat 31), .int .u8 (.ofNat 27), .int .u8 (.ofNat 13), .int .u8 (.ofNat 23), .int .u8 (.ofNat 21), .int .u8 (.ofNat 19), .int .u8 (.ofNat 16), .int .u8 (.ofNat 7), .int .u8 (.ofNat 26), .int .u8 (.ofNat 12), .int .u8 (.ofNat 18), .int .u8 (.ofNat 6), .int .u8 (.ofNat 11), .int .u8 (.ofNat 5), .int .u8 (.ofNat 10), .int .u8 (.ofNat 9)] true true
def k11 : O := .cells 281 [.int .u8 (.ofNat 0), .int .u8 (.ofNat 1), .int .u8 (.ofNat 56), .int .u8 (.ofNat 2), .int .u8 (.ofNat 57), .int .u8 (.ofNat 49), .int .u8 (.ofNat 28), .int .u8 (.ofNat 3), .int .u8 (.ofNat 61), .int .u8 (.ofNat 58), .int .u8 (.ofNat 42), .int .u8 (.ofNat 50), .int .u8 (.ofNat 38), .int .u8 (.ofNat 29), .int .u8 (.ofNat 17), .int .u8 (.ofNat 4), .int .u8 (.ofNat 62), .int .u8 (.ofNat 47), .int .u8 (.ofNat 59), .int .u8 (.ofNat 36), .int .u8 (.ofNat 45), .int .u8 (.ofNat 43), .int .u8 (.ofNat 51), .int .u8 (.ofNat 22), .int .u8 (.ofNat 53), .int .u8 (.ofNat 39), .int .u8 (.ofNat 33), .int .u8 (.ofNat 30), .int .u8 (.ofNat 24), .int .u8 (.ofNat 18), .int .u8 (.ofNat 12), .int .u8 (.ofNat 5), .int .u8 (.ofNat 63), .int .u8 (.ofNat 55), .int .u8 (.ofNat 48), .int .u8 (.ofNat 27), .int .u8 (.ofNat 60), .int .u8 (.ofNat 41), .int .u8 (.ofNat 37), .int .u8 (.ofNat 16), .int .u8 (.ofNat 46), .int .u8 (.ofNat 35), .int .u8 (.ofNat 44), .int .u8 (.ofNat 21), .int .u8 (.ofNat 52), .int .u8 (.ofNat 32), .int .u8 (.ofNat 23), .int .u8 (.ofNat 11), .int .u8 (.ofNat 54), .int .u8 (.ofNat 26), .int .u8 (.ofNat 40), .int .u8 (.ofNat 15), .int .u8 (.ofNat 34), .int .u8 (.ofNat 20), .int .u8 (.ofNat 31), .int .u8 (.ofNat 10), .int .u8 (.ofNat 25), .int .u8 (.ofNat 14), .int .u8 (.ofNat 19), .int .u8 (.ofNat 9), .int .u8 (.ofNat 13), .int .u8 (.ofNat 8), .int .u8 (.ofNat 7), .int .u8 (.ofNat 6)] true true
noncomputable def t0 : Tr O := ((((((((((((Tr.leaf).set 0 k0).set 1 k1).set 2 k2).set 3 k3).set 4 k4).set 5 k5).set 6 k6).set 7 k7).set 8 k8).set 9 k9).set 10 k10).set 11 k11
noncomputable def h0 : Heap := ⟨t0, 12⟩
noncomputable def ng0 : Con := ⟨12, fun m => h0.get m, by
  intro m x h
  have key : ∀ (t : Tr O) (k : Nat) (y : O), (∀ m x, t.get m = some x → x.own = false) → y.own = false → ∀ m x, (t.set k y).get m = some x → x.own = false := by
    intro t k y ht hy m x h
    rw [Tr.get_set] at h
    split at h
    · cases h; exact hy
    · exact ht m x h
  have h' : t0.get m = some x := h
  exact key _ _ _ (key _ _ _ (key _ _ _ (key _ _ _ (key _ _ _ (key _ _ _ (key _ _ _ (key _ _ _ (key _ _ _ (key _ _ _ (key _ _ _ (key _ _ _ (fun m x h => by cases h) rfl) rfl) rfl) rfl) rfl) rfl) rfl) rfl) rfl) rfl) rfl) rfl m x h',
  fun w => ∃ m, w.cell? ⟨2, 0, none⟩ = some (.int .i64 m) ∧ 2 < w.heap.size, by
  rintro w w' hg ⟨m, h1, h2⟩
  refine ⟨m, ?_, Nat.lt_of_lt_of_le h2 hg.size⟩
  unfold World.cell? at h1 ⊢
  rw [hg.block 2 h2]
  exact h1⟩

theorem ext_of {f : FuncId} {fn : Func} {e : Array Value → Sem Value} (hf : P.funcs[f]? = some fn) (h : ((fn.name == "runtime.NumGoroutine") = false) ∧ fn.body.isNone = true ∧ Extern.findNext fn = none ∧ Extern.find fn = some e) : IsExt P f e := ⟨fn, hf, h⟩
theorem noNG : NoNG P := by
  have h : (P.funcs.all fun fn => !(fn.name == "runtime.NumGoroutine")) = true := by kernel_rfl
  intro f fn hf
  rw [Array.all_eq_true] at h
  obtain ⟨hlt, e⟩ := Array.getElem?_eq_some_iff.1 hf
  have := h f hlt
  rw [e] at this
  simpa using this
theorem mixed : P.follows .mixedOrders = true := by kernel_rfl
def runRep : List V → Option V
  | [.str s, .str old, .str new, .int .i64 n] => cond (Nat.blt s.length 100000 && (Nat.ble 1 old.length && (Nat.ble (s.length + Lib.count s old * new.length) 140737488355328 && Nat.ble (Lib.replace s old new n).length 1000000))) (some (.str (Lib.replace s old new n))) none
  | _ => none
theorem rep_ok {xs : List V} {H H' : Heap} {r : V} (h : (match runRep xs with | some r => some (r, H) | none => none) = some (r, H')) : OCall P ng0 184 xs H r H' := by
  split at h <;> first | (cases h; done) | skip
  rename_i y hy
  cases h
  unfold runRep at hy
  split at hy <;> first | (cases hy; done) | skip
  rename_i s old new n
  obtain ⟨hb, hy⟩ := cond_if hy
  cases hy
  simp only [Bool.and_eq_true] at hb
  obtain ⟨b1, b2, b3, b4⟩ := hb
  have b1 : s.length < 100000 := by simpa [Nat.blt_eq] using b1
  have b2 := Nat.le_of_ble_eq_true b2
  have b3 := Nat.le_of_ble_eq_true b3
  have b4 := Nat.le_of_ble_eq_true b4
  refine .inl ⟨fun g vs w hg hr hs => ?_, enters noNG Tryz.func184 rfl⟩
  obtain ⟨v1, us, rfl, r1, hr⟩ := hr.cons
  obtain ⟨v2, us, rfl, r2, hr⟩ := hr.cons
  obtain ⟨v3, us, rfl, r3, hr⟩ := hr.cons
  obtain ⟨v4, us, rfl, r4, hr⟩ := hr.cons
  cases hr.nil
  cases r1 with
  | str s q1 =>
  cases r2 with
  | str old q2 =>
  cases r3 with
  | str new q3 =>
  cases r4
  have hi := hs.inv
  rw [hg] at hi
  obtain ⟨m, hm, _⟩ := hi
  refine Calls.mono (Tryz.strings_Replace ⟨s.toArray⟩ ⟨old.toArray⟩ ⟨new.toArray⟩ n m w ?_ hm ?_ ?_) ?_
  · show s.length < _; omega
  · exact b2
  · exact b3
  · rintro e w' ⟨rfl, hbl⟩
    exact ⟨_, rfl, g, G.le.refl g, .str _ (Nat.le_trans b4 (by decide)), hs.grows ⟨hbl.os, hbl.tape, hbl.output, hbl.size, hbl.block⟩⟩
def hRep : Handler P ng0 where
  f := 184
  is xs := match xs with | [.str _, .str (_ :: _), .str _, .int .i64 _] => true | _ => false
  run _ xs H := match runRep xs with | some r => some (r, H) | none => none
  ok _ _ _ xs H r H' _ h := rep_ok h
  ext _ _ xs H r H' X H2 _ h k := by
    split at h <;> first | (cases h; done) | skip
    rename_i y hy
    cases h
    exact ⟨H2, rfl, k⟩
noncomputable def hs0 : List (Handler P ng0) := [
  hRep,
  hCmp 101 (ext_of Tryz.func101 ⟨by kernel_rfl, by kernel_rfl, by kernel_rfl, by kernel_rfl⟩),
  hAdd64 141 (ext_of Tryz.func141 ⟨by kernel_rfl, by kernel_rfl, by kernel_rfl, by kernel_rfl⟩),
  hSub64 142 (ext_of Tryz.func142 ⟨by kernel_rfl, by kernel_rfl, by kernel_rfl, by kernel_rfl⟩),
  hIndexByte 213 (ext_of Tryz.func213 ⟨by kernel_rfl, by kernel_rfl, by kernel_rfl, by kernel_rfl⟩),
  hCount 237 (ext_of Tryz.func237 ⟨by kernel_rfl, by kernel_rfl, by kernel_rfl, by kernel_rfl⟩),
  hLoad 253 .u32 (ext_of Tryz.func253 ⟨by kernel_rfl, by kernel_rfl, by kernel_rfl, by kernel_rfl⟩),
  hStore 259 (ext_of Tryz.func259 ⟨by kernel_rfl, by kernel_rfl, by kernel_rfl, by kernel_rfl⟩),
  hMark0 261 .disable (ext_of Tryz.func261 ⟨by kernel_rfl, by kernel_rfl, by kernel_rfl, by kernel_rfl⟩),
  hCas 262 .i32 (ext_of Tryz.func262 ⟨by kernel_rfl, by kernel_rfl, by kernel_rfl, by kernel_rfl⟩),
  hMark0 263 .enable (ext_of Tryz.func263 ⟨by kernel_rfl, by kernel_rfl, by kernel_rfl, by kernel_rfl⟩),
  hMark1 264 .acquire (ext_of Tryz.func264 ⟨by kernel_rfl, by kernel_rfl, by kernel_rfl, by kernel_rfl⟩),
  hMark1 266 .releaseMerge (ext_of Tryz.func266 ⟨by kernel_rfl, by kernel_rfl, by kernel_rfl, by kernel_rfl⟩),
  hDec 267 (ext_of Tryz.func267 ⟨by kernel_rfl, by kernel_rfl, by kernel_rfl, by kernel_rfl⟩)]
/-- Calls, by the handlers and by the bodies. -/
noncomputable abbrev run0 (n : Nat) : CallF := evF P (mkTy P) ng0 (isH hs0) (modH hs0) n
theorem run0_ok (n : Nat) : CallOK P ng0 (run0 n) := evF_sound mixed noNG (modH_ok hs0) (modH_ext hs0) n

end Go.Proofs.YtncoklpecffokaaGreatDoor.Cc
