/-
  The constants of memory (written by the maker's own program out of the row's list), and the calls that the machine answers.
-/
import Derived.Test.YtlhpnccdfgjifaaGreatDoorE6
import Derived.Test.YtlhpnccdfgjifaaGreatDoorL1
import Derived.Test.YtlhpnccdfgjifaaGreatDoorInk
import Derived.Test.YtlhpnccdfgjifaaGreatDoorProg
import Derived.KernelRfl
import Derived.RecoverIn
namespace Go.Proofs.YtlhpnccdfgjifaaGreatDoor.Cc
open Go Go.RowKit

noncomputable abbrev P : Program := Tryz.prog
def k0 : O := .cells 183 [.str [99, 104], .str [100, 101], .str [101, 110], .str [102, 114], .str [104, 105], .str [115, 118]] true true
def k1 : O := .cells 185 [.str [46], .str [226, 128, 153], .str [59], .str [45], .str [67, 72, 70], .str [44], .str [46], .str [59], .str [45], .str [226, 130, 172], .str [46], .str [44], .str [44], .str [45], .str [36], .str [44], .str [226, 128, 175], .str [59], .str [45], .str [226, 130, 172], .str [46], .str [44], .str [44], .str [45], .str [226, 130, 185], .str [44], .str [194, 160], .str [59], .str [226, 136, 146], .str [107, 114]] true true
def k2 : O := .gone
def k3 : O := .gone
def k4 : O := .cells 301 [.int .u8 (.ofNat 240), .int .u8 (.ofNat 240), .int .u8 (.ofNat 240), .int .u8 (.ofNat 240), .int .u8 (.ofNat 240), .int .u8 (.ofNat 240), .int .u8 (.ofNat 240), .int .u8 (.ofNat 240), .int .u8 (.ofNat 240), .int .u8 (.ofNat 240), .int .u8 (.ofNat 240), .int .u8 (.ofNat 240), .int .u8 (.ofNat 240), .int .u8 (.ofNat 240), .int .u8 (.ofNat 240), .int .u8 (.ofNat 240), .int .u8 (.ofNat 240), .int .u8 (.ofNat 240), .int .u8 (.ofNat 240), .int .u8 (.ofNat 240), .int .u8 (.ofNat 240), .int .u8 (.ofNat 240), .int .u8 (.ofNat 240), .int .u8 (.ofNat 240), .int .u8 (.ofNat 240), .int .u8 (.ofNat 240), .int .u8 (.ofNat 240), .int .u8 (.ofNat 240), .int .u8 (.ofNat 240), .int .u8 (.ofNat 240), .int .u8 (.ofNat 240), .int .u8 (.ofNat 240), .int .u8 (.ofNat 240), .int .u8 (.ofNat 240), .int .u8 (.ofNat 240), .int .u8 (.ofNat 240), .int .u8 (.ofNat 240), .int .u8 (.ofNat 240), .int .u8 (.ofNat 240), .int .u8 (.ofNat 240), .int .u8 (.ofNat 240), .int .u8 (.ofNat 240), .int .u8 (.ofNat 240), .int .u8 (.ofNat 240), .int .u8 (.ofNat 240), .int .u8 (.ofNat 240), .int .u8 (.ofNat 240), .int .u8 (.ofNat 240), .int .u8 (.ofNat 240), .int .u8 (.ofNat 240), .int .u8 (.ofNat 240), .int .u8 (.ofNat 240), .int .u8 (.ofNat 240), .int .u8 (.ofNat 240), .int .u8 (.ofNat 240), .int .u8 (.ofNat 240), .int .u8 (.ofNat 240), .int .u8 (.ofNat 240), .int .u8 (.ofNat 240), .int .u8 (.ofNat 240), .int .u8 (.ofNat 240), .int .u8 (.ofNat 240), .int .u8 (.ofNat 240), .int .u8 (.ofNat 240), .int .u8 (.ofNat 240), .int .u8 (.ofNat 240), .int .u8 (.ofNat 240), .int .u8 (.ofNat 240), .int .u8 (.ofNat 240), .int .u8 (.ofNat 240), .int .u8 (.ofNat 240), .int .u8 (.ofNat 240), .int .u8 (.ofNat 240), .int .u8 (.ofNat 240), .int .u8 (.ofNat 240), .int .u8 (.ofNat 240), .int .u8 (.ofNat 240), .int .u8 (.ofNat 240), .int .u8 (.ofNat 240), .int .u8 (.ofNat 240), .int .u8 (.ofNat 240), .int .u8 (.ofNat 240), .int .u8 (.ofNat 240), .int .u8 (.ofNat 240), .int .u8 (.ofNat 240), .int .u8 (.ofNat 240), .int .u8 (.ofNat 240), .int .u8 (.ofNat 240), .int .u8 (.ofNat 240), .int .u8 (.ofNat 240), .int .u8 (.ofNat 240), .int .u8 (.ofNat 240), .int .u8 (.ofNat 240), .int .u8 (.ofNat 240), .int .u8 (.ofNat 240), .int .u8 (.ofNat 240), .int .u8 (.ofNat 240), .int .u8 (.ofNat 240), .int .u8 (.ofNat 240), .int .u8 (.ofNat 240), .int .u8 (.ofNat 240), .int .u8 (.ofNat 240), .int .u8 (.ofNat 240), .int .u8 (.ofNat 240), .int .u8 (.ofNat 240), .int .u8 (.ofNat 240), .int .u8 (.ofNat 240), .int .u8 (.ofNat 240), .int .u8 (.ofNat 240), .int .u8 (.ofNat 240), .int .u8 (.ofNat 240), .int .u8 (.ofNat 240), .int .u8 (.ofNat 240), .int .u8 (.ofNat 240), .int .u8 (.ofNat 240), .int .u8 (.ofNat 240), .int .u8 (.ofNat 240), .int .u8 (.ofNat 240), .int .u8 (.ofNat 240), .int .u8 (.ofNat 240), .int .u8 (.ofNat 240), .int .u8 (.ofNat 240), .int .u8 (.ofNat 240), .int .u8 (.ofNat 240), .int .u8 (.ofNat 240), .int .u8 (.ofNat 240), .int .u8 (.ofNat 240), .int .u8 (.ofNat 240), .int .u8 (.ofNat 241), .int .u8 (.ofNat 241), .int .u8 (.ofNat 241), .int .u8 (.ofNat 241), .int .u8 (.ofNat 241), .int .u8 (.ofNat 241), .int .u8 (.ofNat 241), .int .u8 (.ofNat 241), .int .u8 (.ofNat 241), .int .u8 (.ofNat 241), .int .u8 (.ofNat 241), .int .u8 (.ofNat 241), .int .u8 (.ofNat 241), .int .u8 (.ofNat 241), .int .u8 (.ofNat 241), .int .u8 (.ofNat 241), .int .u8 (.ofNat 241), .int .u8 (.ofNat 241), .int .u8 (.ofNat 241), .int .u8 (.ofNat 241), .int .u8 (.ofNat 241), .int .u8 (.ofNat 241), .int .u8 (.ofNat 241), .int .u8 (.ofNat 241), .int .u8 (.ofNat 241), .int .u8 (.ofNat 241), .int .u8 (.ofNat 241), .int .u8 (.ofNat 241), .int .u8 (.ofNat 241), .int .u8 (.ofNat 241), .int .u8 (.ofNat 241), .int .u8 (.ofNat 241), .int .u8 (.ofNat 241), .int .u8 (.ofNat 241), .int .u8 (.ofNat 241), .int .u8 (.ofNat 241), .int .u8 (.ofNat 241), .int .u8 (.ofNat 241), .int .u8 (.ofNat 241), .int .u8 (.ofNat 241), .int .u8 (.ofNat 241), .int .u8 (.ofNat 241), .int .u8 (.ofNat 241), .int .u8 (.ofNat 241), .int .u8 (.ofNat 241), .int .u8 (.ofNat 241), .int .u8 (.ofNat 241), .int .u8 (.ofNat 241), .int .u8 (.ofNat 241), .int .u8 (.ofNat 241), .int .u8 (.ofNat 241), .int .u8 (.ofNat 241), .int .u8 (.ofNat 241), .int .u8 (.ofNat 241), .int .u8 (.ofNat 241), .int .u8 (.ofNat 241), .int .u8 (.ofNat 241), .int .u8 (.ofNat 241), .int .u8 (.ofNat 241), .int .u8 (.ofNat 241), .int .u8 (.ofNat 241), .int .u8 (.ofNat 241), .int .u8 (.ofNat 241), .int .u8 (.ofNat 241), .int .u8 (.ofNat 241), .int .u8 (.ofNat 241), .int .u8 (.ofNat 2), .int .u8 (.ofNat 2), .int .u8 (.ofNat 2), .int .u8 (.ofNat 2), .int .u8 (.ofNat 2), .int .u8 (.ofNat 2), .int .u8 (.ofNat 2), .int .u8 (.ofNat 2), .int .u8 (.ofNat 2), .int .u8 (.ofNat 2), .int .u8 (.ofNat 2), .int .u8 (.ofNat 2), .int .u8 (.ofNat 2), .int .u8 (.ofNat 2), .int .u8 (.ofNat 2), .int .u8 (.ofNat 2), .int .u8 (.ofNat 2), .int .u8 (.ofNat 2), .int .u8 (.ofNat 2), .int .u8 (.ofNat 2), .int .u8 (.ofNat 2), .int .u8 (.ofNat 2), .int .u8 (.ofNat 2), .int .u8 (.ofNat 2), .int .u8 (.ofNat 2), .int .u8 (.ofNat 2), .int .u8 (.ofNat 2), .int .u8 (.ofNat 2), .int .u8 (.ofNat 2), .int .u8 (.ofNat 2), .int .u8 (.ofNat 19), .int .u8 (.ofNat 3), .int .u8 (.ofNat 3), .int .u8 (.ofNat 3), .int .u8 (.ofNat 3), .int .u8 (.ofNat 3), .int .u8 (.ofNat 3), .int .u8 (.ofNat 3), .int .u8 (.ofNat 3), .int .u8 (.ofNat 3), .int .u8 (.ofNat 3), .int .u8 (.ofNat 3), .int .u8 (.ofNat 3), .int .u8 (.ofNat 35), .int .u8 (.ofNat 3), .int .u8 (.ofNat 3), .int .u8 (.ofNat 52), .int .u8 (.ofNat 4), .int .u8 (.ofNat 4), .int .u8 (.ofNat 4), .int .u8 (.ofNat 68), .int .u8 (.ofNat 241), .int .u8 (.ofNat 241), .int .u8 (.ofNat 241), .int .u8 (.ofNat 241), .int .u8 (.ofNat 241), .int .u8 (.ofNat 241), .int .u8 (.ofNat 241), .int .u8 (.ofNat 241), .int .u8 (.ofNat 241), .int .u8 (.ofNat 241), .int .u8 (.ofNat 241)] true true
def k5 : O := .cells 304 [.int .u8 (.ofNat 128), .int .u8 (.ofNat 191), .int .u8 (.ofNat 160), .int .u8 (.ofNat 191), .int .u8 (.ofNat 128), .int .u8 (.ofNat 159), .int .u8 (.ofNat 144), .int .u8 (.ofNat 191), .int .u8 (.ofNat 128), .int .u8 (.ofNat 143), .int .u8 (.ofNat 0), .int .u8 (.ofNat 0), .int .u8 (.ofNat 0), .int .u8 (.ofNat 0), .int .u8 (.ofNat 0), .int .u8 (.ofNat 0), .int .u8 (.ofNat 0), .int .u8 (.ofNat 0), .int .u8 (.ofNat 0), .int .u8 (.ofNat 0), .int .u8 (.ofNat 0), .int .u8 (.ofNat 0), .int .u8 (.ofNat 0), .int .u8 (.ofNat 0), .int .u8 (.ofNat 0), .int .u8 (.ofNat 0), .int .u8 (.ofNat 0), .int .u8 (.ofNat 0), .int .u8 (.ofNat 0), .int .u8 (.ofNat 0), .int .u8 (.ofNat 0), .int .u8 (.ofNat 0)] true true
def k6 : O := .gone
def k7 : O := .gone
def k8 : O := .cells 412 [.int .u64 (.ofNat 1), .int .u64 (.ofNat 10), .int .u64 (.ofNat 100), .int .u64 (.ofNat 1000), .int .u64 (.ofNat 10000), .int .u64 (.ofNat 100000), .int .u64 (.ofNat 1000000), .int .u64 (.ofNat 10000000), .int .u64 (.ofNat 100000000), .int .u64 (.ofNat 1000000000), .int .u64 (.ofNat 10000000000), .int .u64 (.ofNat 100000000000), .int .u64 (.ofNat 1000000000000), .int .u64 (.ofNat 10000000000000), .int .u64 (.ofNat 100000000000000), .int .u64 (.ofNat 1000000000000000), .int .u64 (.ofNat 10000000000000000), .int .u64 (.ofNat 100000000000000000), .int .u64 (.ofNat 1000000000000000000), .int .u64 (.ofNat 10000000000000000000)] true true
def k9 : O := .cells 451 [.str [65, 66, 83], .str [65, 78, 68], .str [65, 86, 69, 82, 65, 71, 69], .str [67, 69, 73, 76, 73, 78, 71], .str [67, 72, 79, 79, 83, 69], .str [67, 79, 76, 85, 77, 78, 83], .str [67, 79, 78, 67, 65, 84], .str [67, 79, 85, 78, 84], .str [67, 79, 85, 78, 84, 65], .str [67, 79, 85, 78, 84, 66, 76, 65, 78, 75], .str [69, 86, 69, 78], .str [69, 88, 65, 67, 84], .str [70, 65, 67, 84], .str [70, 65, 76, 83, 69], .str [70, 73, 78, 68], .str [70, 76, 79, 79, 82], .str [71, 67, 68], .str [73, 70], .str [73, 70, 69, 82, 82, 79, 82], .str [73, 70, 78, 65], .str [73, 78, 68, 69, 88], .str [73, 78, 84], .str [73, 83, 66, 76, 65, 78, 75], .str [73, 83, 69, 82, 82, 79, 82], .str [73, 83, 76, 79, 71, 73, 67, 65, 76], .str [73, 83, 78, 65], .str [73, 83, 78, 85, 77, 66, 69, 82], .str [73, 83, 84, 69, 88, 84], .str [76, 65, 82, 71, 69], .str [76, 67, 77], .str [76, 69, 70, 84], .str [76, 69, 78], .str [76, 79, 87, 69, 82], .str [77, 65, 84, 67, 72], .str [77, 65, 88], .str [77, 69, 68, 73, 65, 78], .str [77, 73, 68], .str [77, 73, 78], .str [77, 79, 68], .str [78], .str [78, 65], .str [78, 79, 84], .str [79, 68, 68], .str [79, 82], .str [80, 73], .str [80, 79, 87, 69, 82], .str [80, 82, 79, 68, 85, 67, 84], .str [81, 85, 79, 84, 73, 69, 78, 84], .str [82, 69, 80, 84], .str [82, 73, 71, 72, 84], .str [82, 79, 85, 78, 68], .str [82, 79, 85, 78, 68, 68, 79, 87, 78], .str [82, 79, 85, 78, 68, 85, 80], .str [82, 79, 87, 83], .str [83, 73, 71, 78], .str [83, 77, 65, 76, 76], .str [83, 81, 82, 84], .str [83, 85, 66, 83, 84, 73, 84, 85, 84, 69], .str [83, 85, 77], .str [83, 85, 77, 83, 81], .str [84], .str [84, 69, 88, 84], .str [84, 82, 73, 77], .str [84, 82, 85, 69], .str [84, 82, 85, 78, 67], .str [85, 80, 80, 69, 82], .str [86, 65, 76, 85, 69], .str [88, 79, 82]] true true
def k10 : O := .cells 523 [.int .u8 (.ofNat 0), .int .u8 (.ofNat 1), .int .u8 (.ofNat 28), .int .u8 (.ofNat 2), .int .u8 (.ofNat 29), .int .u8 (.ofNat 14), .int .u8 (.ofNat 24), .int .u8 (.ofNat 3), .int .u8 (.ofNat 30), .int .u8 (.ofNat 22), .int .u8 (.ofNat 20), .int .u8 (.ofNat 15), .int .u8 (.ofNat 25), .int .u8 (.ofNat 17), .int .u8 (.ofNat 4), .int .u8 (.ofNat 8), .int .u8 (.ofNat 31), .int .u8 (.ofNat 27), .int .u8 (.ofNat 13), .int .u8 (.ofNat 23), .int .u8 (.ofNat 21), .int .u8 (.ofNat 19), .int .u8 (.ofNat 16), .int .u8 (.ofNat 7), .int .u8 (.ofNat 26), .int .u8 (.ofNat 12), .int .u8 (.ofNat 18), .int .u8 (.ofNat 6), .int .u8 (.ofNat 11), .int .u8 (.ofNat 5), .int .u8 (.ofNat 10), .int .u8 (.ofNat 9)] true true
def k11 : O := .cells 524 [.int .u8 (.ofNat 0), .int .u8 (.ofNat 1), .int .u8 (.ofNat 56), .int .u8 (.ofNat 2), .int .u8 (.ofNat 57), .int .u8 (.ofNat 49), .int .u8 (.ofNat 28), .int .u8 (.ofNat 3), .int .u8 (.ofNat 61), .int .u8 (.ofNat 58), .int .u8 (.ofNat 42), .int .u8 (.ofNat 50), .int .u8 (.ofNat 38), .int .u8 (.ofNat 29), .int .u8 (.ofNat 17), .int .u8 (.ofNat 4), .int .u8 (.ofNat 62), .int .u8 (.ofNat 47), .int .u8 (.ofNat 59), .int .u8 (.ofNat 36), .int .u8 (.ofNat 45), .int .u8 (.ofNat 43), .int .u8 (.ofNat 51), .int .u8 (.ofNat 22), .int .u8 (.ofNat 53), .int .u8 (.ofNat 39), .int .u8 (.ofNat 33), .int .u8 (.ofNat 30), .int .u8 (.ofNat 24), .int .u8 (.ofNat 18), .int .u8 (.ofNat 12), .int .u8 (.ofNat 5), .int .u8 (.ofNat 63), .int .u8 (.ofNat 55), .int .u8 (.ofNat 48), .int .u8 (.ofNat 27), .int .u8 (.ofNat 60), .int .u8 (.ofNat 41), .int .u8 (.ofNat 37), .int .u8 (.ofNat 16), .int .u8 (.ofNat 46), .int .u8 (.ofNat 35), .int .u8 (.ofNat 44), .int .u8 (.ofNat 21), .int .u8 (.ofNat 52), .int .u8 (.ofNat 32), .int .u8 (.ofNat 23), .int .u8 (.ofNat 11), .int .u8 (.ofNat 54), .int .u8 (.ofNat 26), .int .u8 (.ofNat 40), .int .u8 (.ofNat 15), .int .u8 (.ofNat 34), .int .u8 (.ofNat 20), .int .u8 (.ofNat 31), .int .u8 (.ofNat 10), .int .u8 (.ofNat 25), .int .u8 (.ofNat 14), .int .u8 (.ofNat 19), .int .u8 (.ofNat 9), .int .u8 (.ofNat 13), .int .u8 (.ofNat 8), .int .u8 (.ofNat 7), .int .u8 (.ofNat 6)] true true
def k12 : O := .gone
def k13 : O := .gone
noncomputable def t0 : Tr O := ((((((((((((((Tr.leaf).set 0 k0).set 1 k1).set 2 k2).set 3 k3).set 4 k4).set 5 k5).set 6 k6).set 7 k7).set 8 k8).set 9 k9).set 10 k10).set 11 k11).set 12 k12).set 13 k13
noncomputable def h0 : Heap := ⟨t0, 14⟩
noncomputable def ng0 : Con := ⟨14, fun m => h0.get m, by
  intro m x h
  have key : ∀ (t : Tr O) (k : Nat) (y : O), (∀ m x, t.get m = some x → x.own = false) → y.own = false → ∀ m x, (t.set k y).get m = some x → x.own = false := by
    intro t k y ht hy m x h
    rw [Tr.get_set] at h
    split at h
    · cases h; exact hy
    · exact ht m x h
  have h' : t0.get m = some x := h
  exact (key _ _ _ (key _ _ _ (key _ _ _ (key _ _ _ (key _ _ _ (key _ _ _ (key _ _ _ (key _ _ _ (key _ _ _ (key _ _ _ (key _ _ _ (key _ _ _ (key _ _ _ (key _ _ _ (fun m x h => by cases h) rfl) rfl) rfl) rfl) rfl) rfl) rfl) rfl) rfl) rfl) rfl) rfl) rfl) rfl) m x h', fun w => Inv w, fun _ _ hg h => h.grow hg.size hg.block⟩
theorem ext_of {f : FuncId} {fn : Func} {e : Array Value → Sem Value} (hf : P.funcs[f]? = some fn) (h : ((fn.name == "runtime.NumGoroutine") = false) ∧ fn.body.isNone = true ∧ Extern.findNext fn = none ∧ Extern.find fn = some e) : IsExt P f e := ⟨fn, hf, h⟩
theorem noNG : NoNG P := by
  have h : (P.funcs.all fun fn => !(fn.name == "runtime.NumGoroutine")) = true := by kernel_rfl
  intro f fn hf
  rw [Array.all_eq_true] at h
  obtain ⟨hlt, e⟩ := Array.getElem?_eq_some_iff.1 hf
  have := h f hlt
  rw [e] at this
  simpa using this
theorem mixed : P.follows .mixedOrders = true := by kernel_rfl

def runRep : List V → Option V
  | [.str s, .str old, .str new] => cond (Nat.blt s.length 100000 && (Nat.ble 1 old.length && (Nat.ble (s.length + Lib.count s old * new.length) 140737488355328 && Nat.ble (Lib.replaceAll s old new).length 1000000))) (some (.str (Lib.replaceAll s old new))) none
  | _ => none
theorem rep_ok {xs : List V} {H H' : Heap} {r : V} (h : (match runRep xs with | some r => some (r, H) | none => none) = some (r, H')) : OCall P ng0 174 xs H r H' := by
  split at h <;> first | (cases h; done) | skip
  rename_i y hy
  cases h
  unfold runRep at hy
  split at hy <;> first | (cases hy; done) | skip
  rename_i s old new
  obtain ⟨hb, hy⟩ := cond_if hy
  cases hy
  simp only [Bool.and_eq_true] at hb
  obtain ⟨b1, b2, b3, b4⟩ := hb
  have b1 : s.length < 100000 := by simpa [Nat.blt_eq] using b1
  have b2 := Nat.le_of_ble_eq_true b2
  have b3 := Nat.le_of_ble_eq_true b3
  have b4 := Nat.le_of_ble_eq_true b4
  refine .inl ⟨fun g vs w hg hr hs => ?_, enters noNG Tryz.func174 rfl⟩
  obtain ⟨v1, us, rfl, r1, hr⟩ := hr.cons
  obtain ⟨v2, us, rfl, r2, hr⟩ := hr.cons
  obtain ⟨v3, us, rfl, r3, hr⟩ := hr.cons
  cases hr.nil
  cases r1 with
  | str s q1 =>
  cases r2 with
  | str old q2 =>
  cases r3 with
  | str new q3 =>
  have hi := hs.inv
  rw [hg] at hi
  obtain ⟨m, hm⟩ := Inv.max hi
  refine Calls.mono (Tryz.strings_ReplaceAll ⟨s.toArray⟩ ⟨old.toArray⟩ ⟨new.toArray⟩ m w ?_ hm ?_ ?_) ?_
  · show s.length < _; omega
  · exact b2
  · exact b3
  · rintro e w' ⟨rfl, hbl⟩
    exact ⟨_, rfl, g, G.le.refl g, .str _ (Nat.le_trans b4 (by decide)), hs.grows ⟨hbl.os, hbl.tape, hbl.output, hbl.size, hbl.block⟩⟩
def hRep : Handler P ng0 where
  f := 174
  is xs := match xs with | [.str _, .str (_ :: _), .str _] => true | _ => false
  run _ xs H := match runRep xs with | some r => some (r, H) | none => none
  ok _ _ _ xs H r H' _ h := rep_ok h
  ext _ _ xs H r H' X H2 _ h k := by
    split at h <;> first | (cases h; done) | skip
    rename_i y hy
    cases h
    exact ⟨H2, rfl, k⟩
def runRpt : List V → Option V
  | [.str [c], .int .i64 (.ofNat n)] => cond (Nat.blt n 100000) (some (.str (List.replicate n c))) none
  | _ => none
theorem repeatL_one' (c : UInt8) : ∀ n, Lib.repeatL [c] n = List.replicate n c
  | 0 => rfl
  | n + 1 => by rw [Lib.repeatL, repeatL_one' c n, List.replicate_succ]; rfl
theorem rpt_ok {xs : List V} {H H' : Heap} {r : V} (h : (match runRpt xs with | some r => some (r, H) | none => none) = some (r, H')) : OCall P ng0 246 xs H r H' := by
  split at h <;> first | (cases h; done) | skip
  rename_i y hy
  cases h
  unfold runRpt at hy
  split at hy <;> first | (cases hy; done) | skip
  rename_i c n
  obtain ⟨hb, hy⟩ := cond_if hy
  cases hy
  have b1 : n < 100000 := by simpa [Nat.blt_eq] using hb
  refine .inl ⟨fun g vs w hg hr hs => ?_, enters noNG Tryz.func246 rfl⟩
  obtain ⟨v1, us, rfl, r1, hr⟩ := hr.cons
  obtain ⟨v2, us, rfl, r2, hr⟩ := hr.cons
  cases hr.nil
  cases r1 with
  | str s q1 =>
  cases r2
  have hl : (List.replicate n c).length ≤ maxLen := by rw [List.length_replicate]; exact Nat.le_trans (Nat.le_of_lt b1) (by decide)
  rcases Nat.lt_or_ge n 2 with h | h
  · rcases (by omega : n = 0 ∨ n = 1) with rfl | rfl
    · refine (Tryz.strings_Repeat_zero ⟨[c].toArray⟩ w).mono ?_
      rintro e w' ⟨rfl, rfl⟩
      exact ⟨_, rfl, g, G.le.refl g, .str [] (by simp), hs⟩
    · refine (Tryz.strings_Repeat_one ⟨[c].toArray⟩ w).mono ?_
      rintro e w' ⟨rfl, rfl⟩
      exact ⟨_, rfl, g, G.le.refl g, .str [c] hl, hs⟩
  · refine (Tryz.strings_Repeat_main ⟨[c].toArray⟩ n w h (by omega) (by show 1 * n ≤ _; omega) (by show 0 < 1; omega)).mono ?_
    rintro e w' ⟨rfl, hbl⟩
    refine ⟨_, rfl, g, G.le.refl g, ?_, hs.grows ⟨hbl.os, hbl.tape, hbl.output, hbl.size, hbl.block⟩⟩
    have e : Lib.repeatL (⟨#[c]⟩ : ByteArray).data.toList n = List.replicate n c := repeatL_one' c n
    rw [e]
    exact .str _ hl
def hRpt : Handler P ng0 where
  f := 246
  is xs := match xs with | [.str [_], .int .i64 (.ofNat _)] => true | _ => false
  run _ xs H := match runRpt xs with | some r => some (r, H) | none => none
  ok _ _ _ xs H r H' _ h := rpt_ok h
  ext _ _ xs H r H' X H2 _ h k := by
    split at h <;> first | (cases h; done) | skip
    rename_i y hy
    cases h
    exact ⟨H2, rfl, k⟩
noncomputable def hs0 : List (Handler P ng0) := [
  hRep, hRpt,
  hCmp 525 (ext_of Tryz.func525 ⟨by kernel_rfl, by kernel_rfl, by kernel_rfl, by kernel_rfl⟩),
  hAdd64 402 (ext_of Tryz.func402 ⟨by kernel_rfl, by kernel_rfl, by kernel_rfl, by kernel_rfl⟩),
  hSub64 530 (ext_of Tryz.func530 ⟨by kernel_rfl, by kernel_rfl, by kernel_rfl, by kernel_rfl⟩),
  hIndexByte 286 (ext_of Tryz.func286 ⟨by kernel_rfl, by kernel_rfl, by kernel_rfl, by kernel_rfl⟩),
  hCount 317 (ext_of Tryz.func317 ⟨by kernel_rfl, by kernel_rfl, by kernel_rfl, by kernel_rfl⟩),
  hLoad 497 .u32 (ext_of Tryz.func497 ⟨by kernel_rfl, by kernel_rfl, by kernel_rfl, by kernel_rfl⟩),
  hStore 528 (ext_of Tryz.func528 ⟨by kernel_rfl, by kernel_rfl, by kernel_rfl, by kernel_rfl⟩),
  hMark0 538 .disable (ext_of Tryz.func538 ⟨by kernel_rfl, by kernel_rfl, by kernel_rfl, by kernel_rfl⟩),
  hCas 539 .i32 (ext_of Tryz.func539 ⟨by kernel_rfl, by kernel_rfl, by kernel_rfl, by kernel_rfl⟩),
  hMark0 540 .enable (ext_of Tryz.func540 ⟨by kernel_rfl, by kernel_rfl, by kernel_rfl, by kernel_rfl⟩),
  hMark1 541 .acquire (ext_of Tryz.func541 ⟨by kernel_rfl, by kernel_rfl, by kernel_rfl, by kernel_rfl⟩),
  hMark1 543 .releaseMerge (ext_of Tryz.func543 ⟨by kernel_rfl, by kernel_rfl, by kernel_rfl, by kernel_rfl⟩),
  hDec 544 (ext_of Tryz.func544 ⟨by kernel_rfl, by kernel_rfl, by kernel_rfl, by kernel_rfl⟩)]
theorem assert_nil (w : World) : (Instr.typeAssert Value.nilIface 20 152 true).run P w = .ok (.tuple #[.agg #[.int .i64 0, .int .i64 0], .bool false]) w := by
  have hu : ∀ w, (underlying 152).run P w = .ok _ w := fun w => run_underlying Tryz.underlying152 w
  have hz := Tryz.zeroValue152
  simp [Instr.typeAssert, hu, hz]
set_option maxRecDepth 100000 in
theorem parse1_idle (p q r : Option Addr) (w : World) : CallsDIn .wide 0 P 71 #[.pointer p, .pointer q, .pointer r] .returning w fun e u' w' => u' = .returning ∧ (∃ v, e = .returned v) ∧ w' = w.alloc (Obj.cells #[.int .i64 0, .int .i64 0] 152) := by
  refine callsDIn_of_wpSIn Tryz.func71 rfl trivial fun c₀ cs hu => ?_
  apply wpSIn_seq
  apply wpSIn_region
  simp [wpOpsSIn, go_sem, recoverD, hu, Tryz.ntmps71, Exit.thenS, assert_nil, Fence.wide]
  apply wpSIn_seq
  apply wpSIn_region
  simp [wpOpsSIn, go_sem, Exit.thenS]
  refine wpSIn_cond (t := false) (by simp [Act.eval, Array.replicate]) ?_
  simp only [Bool.false_eq_true, if_false]
  refine wpSIn_of_wpIn rfl (wpIn_skip ?_)
  cases c₀
  simp_all [bodyPostS, results, Tryz.results71]
def isP : V → Bool
  | .ptr _ _ => true
  | _ => false
def idl0 : FuncId → List V → Bool := fun f xs => Nat.beq f 71 && (match xs with | [a, b, c] => isP a && (isP b && isP c) | _ => false)
theorem isP_rel {g : G} {x : V} {v : Value} (h : isP x = true) (k : RelV g x v) : ∃ p, v = .pointer p := by
  cases x <;> simp [isP] at h
  cases k
  exact ⟨_, rfl⟩
theorem idl0_ok : IdleOK P idl0 := by
  intro f xs h
  simp only [idl0, Bool.and_eq_true] at h
  obtain ⟨hf, h⟩ := h
  have := Nat.eq_of_beq_eq_true hf
  subst this
  refine ⟨enters noNG Tryz.func71 rfl, fun g vs w hr => ?_⟩
  split at h <;> first | (cases h; done) | skip
  rename_i a b c
  simp only [Bool.and_eq_true] at h
  obtain ⟨v1, us, rfl, r1, hr⟩ := hr.cons
  obtain ⟨v2, us, rfl, r2, hr⟩ := hr.cons
  obtain ⟨v3, us, rfl, r3, hr⟩ := hr.cons
  cases hr.nil
  obtain ⟨p, rfl⟩ := isP_rel h.1 r1
  obtain ⟨q, rfl⟩ := isP_rel h.2.1 r2
  obtain ⟨r, rfl⟩ := isP_rel h.2.2 r3
  refine (parse1_idle p q r w).mono ?_
  rintro e u' w' ⟨rfl, hv, rfl⟩
  exact ⟨rfl, hv, rfl, by simp, rfl, by simp, fun k hk => Below.heap_alloc w _ k hk⟩
noncomputable abbrev run0 (n : Nat) : CallF := evF P (mkTy P) ng0 idl0 (isH hs0) (modH hs0) n
end Go.Proofs.YtlhpnccdfgjifaaGreatDoor.Cc

namespace Go.Proofs.YtlhpnccdfgjifaaGreatDoor.Cc
open Go Go.RowKit

theorem get_t0 (m : Nat) : t0.get m = if m = 13 then some k13 else if m = 12 then some k12 else if m = 11 then some k11 else if m = 10 then some k10 else if m = 9 then some k9 else if m = 8 then some k8 else if m = 7 then some k7 else if m = 6 then some k6 else if m = 5 then some k5 else if m = 4 then some k4 else if m = 3 then some k3 else if m = 2 then some k2 else if m = 1 then some k1 else if m = 0 then some k0 else none := by
  unfold t0
  simp only [Tr.get_set]
  rfl
def below (n : Nat) (m : Nat) : Bool := Nat.blt m n
theorem within_mono {p q : Nat → Bool} (h : ∀ n, p n = true → q n = true) : (∀ x : V, x.within p = true → x.within q = true) ∧ ∀ xs : List V, V.withinL p xs = true → V.withinL q xs = true := by
  have key : ∀ k, (∀ x : V, SizeOf.sizeOf x ≤ k → x.within p = true → x.within q = true) ∧ ∀ xs : List V, SizeOf.sizeOf xs ≤ k → V.withinL p xs = true → V.withinL q xs = true := by
    intro k
    induction k with
    | zero => exact ⟨fun x hx => by cases x <;> simp at hx, fun xs hx => by cases xs <;> simp at hx⟩
    | succ k ih =>
      refine ⟨fun x hx hw => ?_, fun xs hx hw => ?_⟩
      · cases x with
        | ptr n o => exact h n hw
        | sl a n c d => exact h n hw
        | map n => exact h n hw
        | func f cs => exact ih.2 cs (by simp at hx; omega) hw
        | meth f cs => exact ih.2 cs (by simp at hx; omega) hw
        | iface t v => exact ih.1 v (by simp at hx; omega) hw
        | imeth nm t v => exact ih.1 v (by simp at hx; omega) hw
        | yld k => exact h k hw
        | agg cs => exact ih.2 cs (by simp at hx; omega) hw
        | tuple cs => exact ih.2 cs (by simp at hx; omega) hw
        | _ => rfl
      · cases xs with
        | nil => rfl
        | cons x xs =>
          simp only [V.withinL, Bool.and_eq_true] at hw ⊢
          exact ⟨ih.1 x (by simp at hx; omega) hw.1, ih.2 xs (by simp at hx; omega) hw.2⟩
  exact ⟨fun x => (key _).1 x (Nat.le_refl _), fun xs => (key _).2 xs (Nat.le_refl _)⟩
theorem con_at (m : Nat) : ng0.con m = t0.get m := rfl
set_option maxRecDepth 100000
theorem w0 : O.within (fun _ => false) k0 = true := by kernel_rfl
theorem w1 : O.within (fun _ => false) k1 = true := by kernel_rfl
theorem w2 : O.within (fun _ => false) k2 = true := by kernel_rfl
theorem w3 : O.within (fun _ => false) k3 = true := by kernel_rfl
theorem w4 : O.within (fun _ => false) k4 = true := by kernel_rfl
theorem w5 : O.within (fun _ => false) k5 = true := by kernel_rfl
theorem w6 : O.within (fun _ => false) k6 = true := by kernel_rfl
theorem w7 : O.within (fun _ => false) k7 = true := by kernel_rfl
theorem w8 : O.within (fun _ => false) k8 = true := by kernel_rfl
theorem w9 : O.within (fun _ => false) k9 = true := by kernel_rfl
theorem w10 : O.within (fun _ => false) k10 = true := by kernel_rfl
theorem w11 : O.within (fun _ => false) k11 = true := by kernel_rfl
theorem w12 : O.within (fun _ => false) k12 = true := by kernel_rfl
theorem w13 : O.within (fun _ => false) k13 = true := by kernel_rfl
theorem con_some {m : Nat} {x : O} (h : ng0.con m = some x) : O.within (fun _ => false) x = true := by
  rw [con_at, get_t0] at h
  by_cases e13 : m = 13
  · rw [if_pos e13] at h; rw [← Option.some.inj h]; exact w13
  rw [if_neg e13] at h
  by_cases e12 : m = 12
  · rw [if_pos e12] at h; rw [← Option.some.inj h]; exact w12
  rw [if_neg e12] at h
  by_cases e11 : m = 11
  · rw [if_pos e11] at h; rw [← Option.some.inj h]; exact w11
  rw [if_neg e11] at h
  by_cases e10 : m = 10
  · rw [if_pos e10] at h; rw [← Option.some.inj h]; exact w10
  rw [if_neg e10] at h
  by_cases e9 : m = 9
  · rw [if_pos e9] at h; rw [← Option.some.inj h]; exact w9
  rw [if_neg e9] at h
  by_cases e8 : m = 8
  · rw [if_pos e8] at h; rw [← Option.some.inj h]; exact w8
  rw [if_neg e8] at h
  by_cases e7 : m = 7
  · rw [if_pos e7] at h; rw [← Option.some.inj h]; exact w7
  rw [if_neg e7] at h
  by_cases e6 : m = 6
  · rw [if_pos e6] at h; rw [← Option.some.inj h]; exact w6
  rw [if_neg e6] at h
  by_cases e5 : m = 5
  · rw [if_pos e5] at h; rw [← Option.some.inj h]; exact w5
  rw [if_neg e5] at h
  by_cases e4 : m = 4
  · rw [if_pos e4] at h; rw [← Option.some.inj h]; exact w4
  rw [if_neg e4] at h
  by_cases e3 : m = 3
  · rw [if_pos e3] at h; rw [← Option.some.inj h]; exact w3
  rw [if_neg e3] at h
  by_cases e2 : m = 2
  · rw [if_pos e2] at h; rw [← Option.some.inj h]; exact w2
  rw [if_neg e2] at h
  by_cases e1 : m = 1
  · rw [if_pos e1] at h; rw [← Option.some.inj h]; exact w1
  rw [if_neg e1] at h
  by_cases e0 : m = 0
  · rw [if_pos e0] at h; rw [← Option.some.inj h]; exact w0
  rw [if_neg e0] at h
  cases h
theorem consts : Consts ng0 h0 where
  con m := rfl
  top m hm := by
    have hm : 14 ≤ m := hm
    show t0.get m = none
    rw [get_t0]
    repeat rw [if_neg (by omega)]
  has b hb := by
    have hb : b < 14 := hb
    rw [con_at, get_t0]
    have : b = 0 ∨ b = 1 ∨ b = 2 ∨ b = 3 ∨ b = 4 ∨ b = 5 ∨ b = 6 ∨ b = 7 ∨ b = 8 ∨ b = 9 ∨ b = 10 ∨ b = 11 ∨ b = 12 ∨ b = 13 := by omega
    rcases this with rfl | rfl | rfl | rfl | rfl | rfl | rfl | rfl | rfl | rfl | rfl | rfl | rfl | rfl <;> exact ⟨_, rfl⟩
  inn m x hx := by
    have := con_some hx
    cases x with
    | cells T cs ex ro => exact (within_mono (fun _ h => by cases h)).2 cs this
    | map es c =>
      have this : (es.all fun q => q.2.2.within fun _ => false) = true := this
      show (es.all fun q => q.2.2.within _) = true
      rw [List.all_eq_true] at this ⊢
      exact fun q hq => (within_mono (fun _ h => by cases h)).1 q.2.2 (this q hq)
    | iter s p => rfl
    | gone => rfl
    | lp a b c d e f => cases this
    | dfr xs => trivial
    | mit a b c => trivial
noncomputable def comes (r : Option (V × Heap)) (x : V) : Bool := match r with | some (v, _) => V.beq v x | none => false
theorem comes_spec {r : Option (V × Heap)} {x : V} (h : comes r x = true) : ∃ H, r = some (x, H) := by
  unfold comes at h
  split at h
  · rename_i v H
    exact ⟨H, by rw [V.beq_eq _ h]⟩
  · cases h
def fail (n : Nat) : V := .agg [.int .i64 4, .int .u64 (.ofNat 0), .bool false, .str [], .int .i64 (.ofNat n)]
def u (b : Nat) : V := .int .u64 (.ofNat b)

end Go.Proofs.YtlhpnccdfgjifaaGreatDoor.Cc
