/-
  The constants of memory (written by the maker's own program out of the row's list), and the calls that the machine answers.
-/
import Derived.Test.YtfkeflcdadlmdaaGreatDoorEv
import Derived.Test.YtfkeflcdadlmdaaGreatDoorX2
import Derived.Test.YtfkeflcdadlmdaaGreatDoorProg
import Derived.KernelRfl
import Derived.Test.YtfkeflcdadlmdaaGreatDoorSrk
namespace Go.Proofs.YtfkeflcdadlmdaaGreatDoor.Cc
open Go Go.RowKit

noncomputable abbrev P : Program := Tryz.prog
def k0 : O := .cells 106 [.str [99, 104], .str [100, 101], .str [101, 110], .str [102, 114], .str [104, 105], .str [115, 118]] true true
def k1 : O := .cells 108 [.str [46], .str [226, 128, 153], .str [59], .str [45], .str [67, 72, 70], .str [44], .str [46], .str [59], .str [45], .str [226, 130, 172], .str [46], .str [44], .str [44], .str [45], .str [36], .str [44], .str [226, 128, 175], .str [59], .str [45], .str [226, 130, 172], .str [46], .str [44], .str [44], .str [45], .str [226, 130, 185], .str [44], .str [194, 160], .str [59], .str [226, 136, 146], .str [107, 114]] true true
def k2 : O := .cells 221 [.int .u8 (.ofNat 240), .int .u8 (.ofNat 240), .int .u8 (.ofNat 240), .int .u8 (.ofNat 240), .int .u8 (.ofNat 240), .int .u8 (.ofNat 240), .int .u8 (.ofNat 240), .int .u8 (.ofNat 240), .int .u8 (.ofNat 240), .int .u8 (.ofNat 240), .int .u8 (.ofNat 240), .int .u8 (.ofNat 240), .int .u8 (.ofNat 240), .int .u8 (.ofNat 240), .int .u8 (.ofNat 240), .int .u8 (.ofNat 240), .int .u8 (.ofNat 240), .int .u8 (.ofNat 240), .int .u8 (.ofNat 240), .int .u8 (.ofNat 240), .int .u8 (.ofNat 240), .int .u8 (.ofNat 240), .int .u8 (.ofNat 240), .int .u8 (.ofNat 240), .int .u8 (.ofNat 240), .int .u8 (.ofNat 240), .int .u8 (.ofNat 240), .int .u8 (.ofNat 240), .int .u8 (.ofNat 240), .int .u8 (.ofNat 240), .int .u8 (.ofNat 240), .int .u8 (.ofNat 240), .int .u8 (.ofNat 240), .int .u8 (.ofNat 240), .int .u8 (.ofNat 240), .int .u8 (.ofNat 240), .int .u8 (.ofNat 240), .int .u8 (.ofNat 240), .int .u8 (.ofNat 240), .int .u8 (.ofNat 240), .int .u8 (.ofNat 240), .int .u8 (.ofNat 240), .int .u8 (.ofNat 240), .int .u8 (.ofNat 240), .int .u8 (.ofNat 240), .int .u8 (.ofNat 240), .int .u8 (.ofNat 240), .int .u8 (.ofNat 240), .int .u8 (.ofNat 240), .int .u8 (.ofNat 240), .int .u8 (.ofNat 240), .int .u8 (.ofNat 240), .int .u8 (.ofNat 240), .int .u8 (.ofNat 240), .int .u8 (.ofNat 240), .int .u8 (.ofNat 240), .int .u8 (.ofNat 240), .int .u8 (.ofNat 240), .int .u8 (.ofNat 240), .int .u8 (.ofNat 240), .int .u8 (.ofNat 240), .int .u8 (.ofNat 240), .int .u8 (.ofNat 240), .int .u8 (.ofNat 240), .int .u8 (.ofNat 240), .int .u8 (.ofNat 240), .int .u8 (.ofNat 240), .int .u8 (.ofNat 240), .int .u8 (.ofNat 240), .int .u8 (.ofNat 240), .int .u8 (.ofNat 240), .int .u8 (.ofNat 240), .int .u8 (.ofNat 240), .int .u8 (.ofNat 240), .int .u8 (.ofNat 240), .int .u8 (.ofNat 240), .int .u8 (.ofNat 240), .int .u8 (.ofNat 240), .int .u8 (.ofNat 240), .int .u8 (.ofNat 240), .int .u8 (.ofNat 240), .int .u8 (.ofNat 240), .int .u8 (.ofNat 240), .int .u8 (.ofNat 240), .int .u8 (.ofNat 240), .int .u8 (.ofNat 240), .int .u8 (.ofNat 240), .int .u8 (.ofNat 240), .int .u8 (.ofNat 240), .int .u8 (.ofNat 240), .int .u8 (.ofNat 240), .int .u8 (.ofNat 240), .int .u8 (.ofNat 240), .int .u8 (.ofNat 240), .int .u8 (.ofNat 240), .int .u8 (.ofNat 240), .int .u8 (.ofNat 240), .int .u8 (.ofNat 240), .int .u8 (.ofNat 240), .int .u8 (.ofNat 240), .int .u8 (.ofNat 240), .int .u8 (.ofNat 240), .int .u8 (.ofNat 240), .int .u8 (.ofNat 240), .int .u8 (.ofNat 240), .int .u8 (.ofNat 240), .int .u8 (.ofNat 240), .int .u8 (.ofNat 240), .int .u8 (.ofNat 240), .int .u8 (.ofNat 240), .int .u8 (.ofNat 240), .int .u8 (.ofNat 240), .int .u8 (.ofNat 240), .int .u8 (.ofNat 240), .int .u8 (.ofNat 240), .int .u8 (.ofNat 240), .int .u8 (.ofNat 240), .int .u8 (.ofNat 240), .int .u8 (.ofNat 240), .int .u8 (.ofNat 240), .int .u8 (.ofNat 240), .int .u8 (.ofNat 240), .int .u8 (.ofNat 240), .int .u8 (.ofNat 240), .int .u8 (.ofNat 240), .int .u8 (.ofNat 240), .int .u8 (.ofNat 240), .int .u8 (.ofNat 240), .int .u8 (.ofNat 241), .int .u8 (.ofNat 241), .int .u8 (.ofNat 241), .int .u8 (.ofNat 241), .int .u8 (.ofNat 241), .int .u8 (.ofNat 241), .int .u8 (.ofNat 241), .int .u8 (.ofNat 241), .int .u8 (.ofNat 241), .int .u8 (.ofNat 241), .int .u8 (.ofNat 241), .int .u8 (.ofNat 241), .int .u8 (.ofNat 241), .int .u8 (.ofNat 241), .int .u8 (.ofNat 241), .int .u8 (.ofNat 241), .int .u8 (.ofNat 241), .int .u8 (.ofNat 241), .int .u8 (.ofNat 241), .int .u8 (.ofNat 241), .int .u8 (.ofNat 241), .int .u8 (.ofNat 241), .int .u8 (.ofNat 241), .int .u8 (.ofNat 241), .int .u8 (.ofNat 241), .int .u8 (.ofNat 241), .int .u8 (.ofNat 241), .int .u8 (.ofNat 241), .int .u8 (.ofNat 241), .int .u8 (.ofNat 241), .int .u8 (.ofNat 241), .int .u8 (.ofNat 241), .int .u8 (.ofNat 241), .int .u8 (.ofNat 241), .int .u8 (.ofNat 241), .int .u8 (.ofNat 241), .int .u8 (.ofNat 241), .int .u8 (.ofNat 241), .int .u8 (.ofNat 241), .int .u8 (.ofNat 241), .int .u8 (.ofNat 241), .int .u8 (.ofNat 241), .int .u8 (.ofNat 241), .int .u8 (.ofNat 241), .int .u8 (.ofNat 241), .int .u8 (.ofNat 241), .int .u8 (.ofNat 241), .int .u8 (.ofNat 241), .int .u8 (.ofNat 241), .int .u8 (.ofNat 241), .int .u8 (.ofNat 241), .int .u8 (.ofNat 241), .int .u8 (.ofNat 241), .int .u8 (.ofNat 241), .int .u8 (.ofNat 241), .int .u8 (.ofNat 241), .int .u8 (.ofNat 241), .int .u8 (.ofNat 241), .int .u8 (.ofNat 241), .int .u8 (.ofNat 241), .int .u8 (.ofNat 241), .int .u8 (.ofNat 241), .int .u8 (.ofNat 241), .int .u8 (.ofNat 241), .int .u8 (.ofNat 241), .int .u8 (.ofNat 241), .int .u8 (.ofNat 2), .int .u8 (.ofNat 2), .int .u8 (.ofNat 2), .int .u8 (.ofNat 2), .int .u8 (.ofNat 2), .int .u8 (.ofNat 2), .int .u8 (.ofNat 2), .int .u8 (.ofNat 2), .int .u8 (.ofNat 2), .int .u8 (.ofNat 2), .int .u8 (.ofNat 2), .int .u8 (.ofNat 2), .int .u8 (.ofNat 2), .int .u8 (.ofNat 2), .int .u8 (.ofNat 2), .int .u8 (.ofNat 2), .int .u8 (.ofNat 2), .int .u8 (.ofNat 2), .int .u8 (.ofNat 2), .int .u8 (.ofNat 2), .int .u8 (.ofNat 2), .int .u8 (.ofNat 2), .int .u8 (.ofNat 2), .int .u8 (.ofNat 2), .int .u8 (.ofNat 2), .int .u8 (.ofNat 2), .int .u8 (.ofNat 2), .int .u8 (.ofNat 2), .int .u8 (.ofNat 2), .int .u8 (.ofNat 2), .int .u8 (.ofNat 19), .int .u8 (.ofNat 3), .int .u8 (.ofNat 3), .int .u8 (.ofNat 3), .int .u8 (.ofNat 3), .int .u8 (.ofNat 3), .int .u8 (.ofNat 3), .int .u8 (.ofNat 3), .int .u8 (.ofNat 3), .int .u8 (.ofNat 3), .int .u8 (.ofNat 3), .int .u8 (.ofNat 3), .int .u8 (.ofNat 3), .int .u8 (.ofNat 35), .int .u8 (.ofNat 3), .int .u8 (.ofNat 3), .int .u8 (.ofNat 52), .int .u8 (.ofNat 4), .int .u8 (.ofNat 4), .int .u8 (.ofNat 4), .int .u8 (.ofNat 68), .int .u8 (.ofNat 241), .int .u8 (.ofNat 241), .int .u8 (.ofNat 241), .int .u8 (.ofNat 241), .int .u8 (.ofNat 241), .int .u8 (.ofNat 241), .int .u8 (.ofNat 241), .int .u8 (.ofNat 241), .int .u8 (.ofNat 241), .int .u8 (.ofNat 241), .int .u8 (.ofNat 241)] true true
def k3 : O := .cells 224 [.int .u8 (.ofNat 128), .int .u8 (.ofNat 191), .int .u8 (.ofNat 160), .int .u8 (.ofNat 191), .int .u8 (.ofNat 128), .int .u8 (.ofNat 159), .int .u8 (.ofNat 144), .int .u8 (.ofNat 191), .int .u8 (.ofNat 128), .int .u8 (.ofNat 143), .int .u8 (.ofNat 0), .int .u8 (.ofNat 0), .int .u8 (.ofNat 0), .int .u8 (.ofNat 0), .int .u8 (.ofNat 0), .int .u8 (.ofNat 0), .int .u8 (.ofNat 0), .int .u8 (.ofNat 0), .int .u8 (.ofNat 0), .int .u8 (.ofNat 0), .int .u8 (.ofNat 0), .int .u8 (.ofNat 0), .int .u8 (.ofNat 0), .int .u8 (.ofNat 0), .int .u8 (.ofNat 0), .int .u8 (.ofNat 0), .int .u8 (.ofNat 0), .int .u8 (.ofNat 0), .int .u8 (.ofNat 0), .int .u8 (.ofNat 0), .int .u8 (.ofNat 0), .int .u8 (.ofNat 0)] true true
def k4 : O := .cells 251 [.int .u64 (.ofNat 1), .int .u64 (.ofNat 10), .int .u64 (.ofNat 100), .int .u64 (.ofNat 1000), .int .u64 (.ofNat 10000), .int .u64 (.ofNat 100000), .int .u64 (.ofNat 1000000), .int .u64 (.ofNat 10000000), .int .u64 (.ofNat 100000000), .int .u64 (.ofNat 1000000000), .int .u64 (.ofNat 10000000000), .int .u64 (.ofNat 100000000000), .int .u64 (.ofNat 1000000000000), .int .u64 (.ofNat 10000000000000), .int .u64 (.ofNat 100000000000000), .int .u64 (.ofNat 1000000000000000), .int .u64 (.ofNat 10000000000000000), .int .u64 (.ofNat 100000000000000000), .int .u64 (.ofNat 1000000000000000000), .int .u64 (.ofNat 10000000000000000000)] true true
def k5 : O := .gone
def k6 : O := .gone
def k7 : O := .gone
def k8 : O := .cells 283 [.int .u8 (.ofNat 0), .int .u8 (.ofNat 1), .int .u8 (.ofNat 28), .int .u8 (.ofNat 2), .int .u8 (.ofNat 29), .int .u8 (.ofNat 14), .int .u8 (.ofNat 24), .int .u8 (.ofNat 3), .int .u8 (.ofNat 30), .int .u8 (.ofNat 22), .int .u8 (.ofNat 20), .int .u8 (.ofNat 15), .int .u8 (.ofNat 25), .int .u8 (.ofNat 17), .int .u8 (.ofNat 4), .int .u8 (.ofNat 8), .int .u8 (.ofNat 31), .int .u8 (.ofNat 27), .int .u8 (.ofNat 13), .int .u8 (.ofNat 23), .int .u8 (.ofNat 21), .int .u8 (.ofNat 19), .int .u8 (.ofNat 16), .int .u8 (.ofNat 7), .int .u8 (.ofNat 26), .int .u8 (.ofNat 12), .int .u8 (.ofNat 18), .int .u8 (.ofNat 6), .int .u8 (.ofNat 11), .int .u8 (.ofNat 5), .int .u8 (.ofNat 10), .int .u8 (.ofNat 9)] true true
def k9 : O := .cells 284 [.int .u8 (.ofNat 0), .int .u8 (.ofNat 1), .int .u8 (.ofNat 56), .int .u8 (.ofNat 2), .int .u8 (.ofNat 57), .int .u8 (.ofNat 49), .int .u8 (.ofNat 28), .int .u8 (.ofNat 3), .int .u8 (.ofNat 61), .int .u8 (.ofNat 58), .int .u8 (.ofNat 42), .int .u8 (.ofNat 50), .int .u8 (.ofNat 38), .int .u8 (.ofNat 29), .int .u8 (.ofNat 17), .int .u8 (.ofNat 4), .int .u8 (.ofNat 62), .int .u8 (.ofNat 47), .int .u8 (.ofNat 59), .int .u8 (.ofNat 36), .int .u8 (.ofNat 45), .int .u8 (.ofNat 43), .int .u8 (.ofNat 51), .int .u8 (.ofNat 22), .int .u8 (.ofNat 53), .int .u8 (.ofNat 39), .int .u8 (.ofNat 33), .int .u8 (.ofNat 30), .int .u8 (.ofNat 24), .int .u8 (.ofNat 18), .int .u8 (.ofNat 12), .int .u8 (.ofNat 5), .int .u8 (.ofNat 63), .int .u8 (.ofNat 55), .int .u8 (.ofNat 48), .int .u8 (.ofNat 27), .int .u8 (.ofNat 60), .int .u8 (.ofNat 41), .int .u8 (.ofNat 37), .int .u8 (.ofNat 16), .int .u8 (.ofNat 46), .int .u8 (.ofNat 35), .int .u8 (.ofNat 44), .int .u8 (.ofNat 21), .int .u8 (.ofNat 52), .int .u8 (.ofNat 32), .int .u8 (.ofNat 23), .int .u8 (.ofNat 11), .int .u8 (.ofNat 54), .int .u8 (.ofNat 26), .int .u8 (.ofNat 40), .int .u8 (.ofNat 15), .int .u8 (.ofNat 34), .int .u8 (.ofNat 20), .int .u8 (.ofNat 31), .int .u8 (.ofNat 10), .int .u8 (.ofNat 25), .int .u8 (.ofNat 14), .int .u8 (.ofNat 19), .int .u8 (.ofNat 9), .int .u8 (.ofNat 13), .int .u8 (.ofNat 8), .int .u8 (.ofNat 7), .int .u8 (.ofNat 6)] true true
noncomputable def t0 : Tr O := ((((((((((Tr.leaf).set 0 k0).set 1 k1).set 2 k2).set 3 k3).set 4 k4).set 5 k5).set 6 k6).set 7 k7).set 8 k8).set 9 k9
noncomputable def h0 : Heap := ⟨t0, 10⟩
noncomputable def ng0 : Con := ⟨10, fun m => h0.get m, by
  intro m x h
  have key : ∀ (t : Tr O) (k : Nat) (y : O), (∀ m x, t.get m = some x → x.own = false) → y.own = false → ∀ m x, (t.set k y).get m = some x → x.own = false := by
    intro t k y ht hy m x h
    rw [Tr.get_set] at h
    split at h
    ·cases h; exact hy
    ·exact ht m x h
  have h' : t0.get m = some x := h
  exact (key _ _ _ (key _ _ _ (key _ _ _ (key _ _ _ (key _ _ _ (key _ _ _ (key _ _ _ (key _ _ _ (key _ _ _ (key _ _ _ (fun m x h => by cases h) rfl) rfl) rfl) rfl) rfl) rfl) rfl) rfl) rfl) rfl) m x h', fun w => Inv w, fun _ _ hg h => h.grow hg.size hg.block⟩
theorem acK {f : FuncId} {fn : Func} {e : Array Value → Sem Value} (hf : P.funcs[f]? = some fn) (h : ((fn.name == "runtime.NumGoroutine") = false) ∧ fn.body.isNone = true ∧ Extern.findNext fn = none ∧ Extern.find fn = some e) : IsExt P f e := ⟨fn, hf, h⟩
theorem noNG : NoNG P := by
 have h : (P.funcs.all fun fn => !(fn.name == "runtime.NumGoroutine")) = true := by kernel_rfl
 intro f fn hf
 rw [Array.all_eq_true] at h
 obtain ⟨hlt, e⟩ := Array.getElem?_eq_some_iff.1 hf
 have := h f hlt
 rw [e] at this
 simpa using this
theorem mixed : P.follows .mixedOrders = true := by kernel_rfl

def runRep : List V → Option V
 | [.str s, .str old, .str new] => cond (Nat.blt s.length 100000 && (Nat.ble 1 old.length && (Nat.ble (s.length + Lib.count s old * new.length) 140737488355328 && Nat.ble (Lib.replaceAll s old new).length 1000000))) (some (.str (Lib.replaceAll s old new))) none
 | _ => none
theorem rep_ok {xs : List V} {H H' : Heap} {r : V} (h : (match runRep xs with | some r => some (r, H) | none => none) = some (r, H')) : OCall P ng0 101 xs H r H' := by
 split at h <;> first | (cases h; done) | skip
 rename_i y hy
 cases h
 unfold runRep at hy
 split at hy <;> first | (cases hy; done) | skip
 rename_i s old new
 obtain ⟨hb, hy⟩ := qO hy
 cases hy
 simp only [Bool.and_eq_true] at hb
 obtain ⟨b1, b2, b3, b4⟩ := hb
 have b1 : s.length < 100000 := by simpa [Nat.blt_eq] using b1
 have b2 := Nat.le_of_ble_eq_true b2
 have b3 := Nat.le_of_ble_eq_true b3
 have b4 := Nat.le_of_ble_eq_true b4
 refine .inl ⟨fun g vs w hg hr hs => ?_, enters noNG Tryz.func101 rfl⟩
 obtain ⟨v1, us, rfl, r1, hr⟩ := hr.cons
 obtain ⟨v2, us, rfl, r2, hr⟩ := hr.cons
 obtain ⟨v3, us, rfl, r3, hr⟩ := hr.cons
 cases hr.nil
 cases r1 with
 | str s q1 =>
 cases r2 with
 | str old q2 =>
 cases r3 with
 | str new q3 =>
 have hi := hs.inv
 rw [hg] at hi
 obtain ⟨m, hm⟩ := Inv.max hi
 refine Calls.mono (Tryz.strings_ReplaceAll ⟨s.toArray⟩ ⟨old.toArray⟩ ⟨new.toArray⟩ m w ?_ hm ?_ ?_) ?_
 ·show s.length < _; omega
 ·exact b2
 ·exact b3
 ·rintro e w' ⟨rfl, hbl⟩
  exact ⟨_, rfl, g, G.le.refl g, .str _ (Nat.le_trans b4 (by decide)), hs.grows ⟨hbl.os, hbl.tape, hbl.output, hbl.size, hbl.block⟩⟩
def hRep : Handler P ng0 where
 f := 101
 is xs := match xs with | [.str _, .str (_ :: _), .str _] => true | _ => false
 run _ xs H := match runRep xs with | some r => some (r, H) | none => none
 ok _ _ _ xs H r H' _ h := rep_ok h
 ext _ _ xs H r H' X H2 _ h k := by
  split at h <;> first | (cases h; done) | skip
  rename_i y hy
  cases h
  exact ⟨H2, rfl, k⟩
def runRpt : List V → Option V
 | [.str [c], .int .i64 (.ofNat n)] => cond (Nat.blt n 100000) (some (.str (List.replicate n c))) none
 | _ => none
theorem afG (c : UInt8) : ∀ n, Lib.repeatL [c] n = List.replicate n c
 | 0 => rfl
 | n + 1 => by rw [Lib.repeatL, afG c n, List.replicate_succ]; rfl
theorem rpt_ok {xs : List V} {H H' : Heap} {r : V} (h : (match runRpt xs with | some r => some (r, H) | none => none) = some (r, H')) : OCall P ng0 93 xs H r H' := by
 split at h <;> first | (cases h; done) | skip
 rename_i y hy
 cases h
 unfold runRpt at hy
 split at hy <;> first | (cases hy; done) | skip
 rename_i c n
 obtain ⟨hb, hy⟩ := qO hy
 cases hy
 have b1 : n < 100000 := by simpa [Nat.blt_eq] using hb
 refine .inl ⟨fun g vs w hg hr hs => ?_, enters noNG Tryz.func93 rfl⟩
 obtain ⟨v1, us, rfl, r1, hr⟩ := hr.cons
 obtain ⟨v2, us, rfl, r2, hr⟩ := hr.cons
 cases hr.nil
 cases r1 with
 | str s q1 =>
 cases r2
 have hl : (List.replicate n c).length ≤ maxLen := by rw [List.length_replicate]; exact Nat.le_trans (Nat.le_of_lt b1) (by decide)
 rcases Nat.lt_or_ge n 2 with h | h
 ·rcases (by omega : n = 0 ∨ n = 1) with rfl | rfl
  ·refine (Tryz.strings_Repeat_zero ⟨[c].toArray⟩ w).mono ?_
   rintro e w' ⟨rfl, rfl⟩
   exact ⟨_, rfl, g, G.le.refl g, .str [] (by simp), hs⟩
  ·refine (Tryz.strings_Repeat_one ⟨[c].toArray⟩ w).mono ?_
   rintro e w' ⟨rfl, rfl⟩
   exact ⟨_, rfl, g, G.le.refl g, .str [c] hl, hs⟩
 ·refine (Tryz.strings_Repeat_main ⟨[c].toArray⟩ n w h (by omega) (by show 1 * n ≤ _; omega) (by show 0 < 1; omega)).mono ?_
  rintro e w' ⟨rfl, hbl⟩
  refine ⟨_, rfl, g, G.le.refl g, ?_, hs.grows ⟨hbl.os, hbl.tape, hbl.output, hbl.size, hbl.block⟩⟩
  have e : Lib.repeatL (⟨#[c]⟩ : ByteArray).data.toList n = List.replicate n c := afG c n
  rw [e]
  exact .str _ hl
def hRpt : Handler P ng0 where
 f := 93
 is xs := match xs with | [.str [_], .int .i64 (.ofNat _)] => true | _ => false
 run _ xs H := match runRpt xs with | some r => some (r, H) | none => none
 ok _ _ _ xs H r H' _ h := rpt_ok h
 ext _ _ xs H r H' X H2 _ h k := by
  split at h <;> first | (cases h; done) | skip
  rename_i y hy
  cases h
  exact ⟨H2, rfl, k⟩
theorem Sat.newGone {g : G} {H : Heap} {w w' : World} (h : Sat g H w) (hk : Grow w w') (b : Nat) (hb : g.bn H.nn = false) : Sat (g.name H.nn b 0 hb) (H.new .gone) w' := by
 have h := h.grows hk
 have hle := G.le_name g H.nn b 0 hb
 have get : ∀ m, (H.new .gone).get m = if m = H.nn then some .gone else H.get m := fun m => Tr.get_set _ _ _ _
 have hg : (H.new .gone).nn = H.nn + 1 := rfl
 refine { keep := by have := h.keep; rw [← hle.base] at this; exact this, fresh := fun n hn => ?_, dom := fun n x hn => ?_, bn := fun n hn => ?_, at_ := fun n x hn => ?_, own := fun n x hn ho => ?_, lt := fun n x hn => ?_, inj := fun n n' x x' hn hn' ho hx => ?_, con := fun m x hm => ?_ }
 ·rw [get, if_neg (by rw [hg] at hn; omega)]; exact h.fresh n (by rw [hg] at hn; omega)
 ·rw [get] at hn
  by_cases e : n = H.nn
  ·subst e; simp [G.name]
  ·rw [if_neg e] at hn; exact hle.bn n (h.dom n x hn)
 ·rw [get]
  by_cases e : n = H.nn
  ·rw [if_pos e]; exact ⟨_, rfl⟩
  ·rw [if_neg e]
   have : g.bn n = true := by
    have hn' : (Nat.beq n H.nn || g.bn n) = true := hn
    simp only [Bool.or_eq_true, Nat.beq_eq] at hn'
    exact hn'.resolve_left e
   exact h.bn n this
 ·rw [get] at hn
  by_cases e : n = H.nn
  ·rw [if_pos e] at hn; cases hn; trivial
  ·rw [if_neg e] at hn; exact (h.at_ n x hn).mono hle (h.dom n x hn) (.inr rfl)
 ·rw [get] at hn
  by_cases e : n = H.nn
  ·rw [if_pos e] at hn; cases hn; cases ho
  ·rw [if_neg e] at hn
   have := h.own n x hn ho
   rw [hle.nm n (h.dom n x hn), hle.base]; exact this
 ·rw [get] at hn
  by_cases e : n = H.nn
  ·rw [if_pos e] at hn; cases hn; exact .inl rfl
  ·rw [if_neg e] at hn; rw [hle.nm n (h.dom n x hn)]; exact h.lt n x hn
 ·rw [get] at hn hn'
  by_cases e : n = H.nn
  ·rw [if_pos e] at hn; cases hn; cases ho
  ·by_cases e' : n' = H.nn
   ·rw [if_pos e'] at hn'; cases hn'; exact absurd rfl hx
   ·rw [if_neg e] at hn; rw [if_neg e'] at hn'
    intro hq
    rw [hle.nm n (h.dom n x hn), hle.nm n' (h.dom n' x' hn')] at hq
    exact h.inj n n' x x' hn hn' ho hx hq
 ·have hm' := h.con m x (by rw [← hle.ng]; exact hm)
  rw [get]
  by_cases e : m = H.nn
  ·have := h.fresh m (by omega); rw [this] at hm'; cases hm'
  ·rw [if_neg e]; exact hm'
noncomputable def hAtoi : Handler P ng0 where
 f := 140
 is xs := match xs with | [.str []] => true | _ => false
 run _ _ H := some (.tuple [.int .i64 0, .iface 229 (.ptr H.nn 0)], H.new .gone)
 ok _ _ _ xs H r H' hi h := by
  cases h
  split at hi <;> first | (cases hi; done) | skip
  refine .inl ⟨fun g vs w hg hr hs => ?_, enters noNG Tryz.func140 rfl⟩
  obtain ⟨v1, us, rfl, r1, hr⟩ := hr.cons
  cases hr.nil
  cases r1 with
  | str s q1 =>
  have hi := hs.inv
  rw [hg] at hi
  obtain ⟨te, pe, hm⟩ := Inv.errs hi 6 (.inl rfl)
  refine Calls.mono (Tryz.strconv_Atoi_syntax ⟨#[]⟩ (Nat.zero_le _) rfl _ w hm (.inr ⟨te, pe, rfl⟩)) ?_
  rintro e w' ⟨b, rfl, _, _, hbl⟩
  have hb : g.bn H.nn = false := by
   cases e : g.bn H.nn with
   | false => rfl
   | true => obtain ⟨x, hx⟩ := hs.bn _ e; rw [hs.fresh _ (Nat.le_refl _)] at hx; cases hx
  refine ⟨_, rfl, g.name H.nn b 0 hb, G.le_name g H.nn b 0 hb, ?_, hs.newGone ⟨hbl.os, hbl.tape, hbl.output, hbl.size, hbl.block⟩ b hb⟩
  refine .tuple _ _ rfl fun i c v hc hv => ?_
  match i with
  | 0 => cases hc; cases hv; exact .int _ _
  | 1 =>
   cases hc; cases hv
   refine .iface _ _ _ ?_
   have := RelV.ptr (g := g.name H.nn b 0 hb) H.nn 0 (by simp [G.name])
   simpa [G.name] using this
  | i + 2 => simp at hc
 ext _ _ xs H r H' X H2 _ h k := by
  cases h
  exact ⟨_, by rw [k.nn], k.new _⟩
noncomputable def hs0 : List (Handler P ng0) := [
  hRep, hRpt, hAtoi,
  hCmp 248 (acK Tryz.func248 ⟨by kernel_rfl, by kernel_rfl, by kernel_rfl, by kernel_rfl⟩),
  hAdd64 200 (acK Tryz.func200 ⟨by kernel_rfl, by kernel_rfl, by kernel_rfl, by kernel_rfl⟩),
  hIndexByte 179 (acK Tryz.func179 ⟨by kernel_rfl, by kernel_rfl, by kernel_rfl, by kernel_rfl⟩),
  hCount 221 (acK Tryz.func221 ⟨by kernel_rfl, by kernel_rfl, by kernel_rfl, by kernel_rfl⟩),
  hLoad 244 .u32 (acK Tryz.func244 ⟨by kernel_rfl, by kernel_rfl, by kernel_rfl, by kernel_rfl⟩),
  hStore 251 (acK Tryz.func251 ⟨by kernel_rfl, by kernel_rfl, by kernel_rfl, by kernel_rfl⟩),
  hMark0 253 .disable (acK Tryz.func253 ⟨by kernel_rfl, by kernel_rfl, by kernel_rfl, by kernel_rfl⟩),
  hCas 254 .i32 (acK Tryz.func254 ⟨by kernel_rfl, by kernel_rfl, by kernel_rfl, by kernel_rfl⟩),
  hMark0 255 .enable (acK Tryz.func255 ⟨by kernel_rfl, by kernel_rfl, by kernel_rfl, by kernel_rfl⟩),
  hMark1 256 .acquire (acK Tryz.func256 ⟨by kernel_rfl, by kernel_rfl, by kernel_rfl, by kernel_rfl⟩),
  hMark1 258 .releaseMerge (acK Tryz.func258 ⟨by kernel_rfl, by kernel_rfl, by kernel_rfl, by kernel_rfl⟩),
  hDec 259 (acK Tryz.func259 ⟨by kernel_rfl, by kernel_rfl, by kernel_rfl, by kernel_rfl⟩)]
noncomputable abbrev run0 (n : Nat) : CallF := evF P (mkTy P) ng0 (isH hs0) (modH hs0) n
end Go.Proofs.YtfkeflcdadlmdaaGreatDoor.Cc

namespace Go.Proofs.YtfkeflcdadlmdaaGreatDoor.Cc
open Go Go.RowKit

theorem get_t0 (m : Nat) : t0.get m = if m = 9 then some k9 else if m = 8 then some k8 else if m = 7 then some k7 else if m = 6 then some k6 else if m = 5 then some k5 else if m = 4 then some k4 else if m = 3 then some k3 else if m = 2 then some k2 else if m = 1 then some k1 else if m = 0 then some k0 else none := by
 unfold t0
 simp only [Tr.get_set]
 rfl
def below (n : Nat) (m : Nat) : Bool := Nat.blt m n
theorem adH {p q : Nat → Bool} (h : ∀ n, p n = true → q n = true) : (∀ x : V, x.within p = true → x.within q = true) ∧ ∀ xs : List V, V.withinL p xs = true → V.withinL q xs = true := by
 have key : ∀ k, (∀ x : V, SizeOf.sizeOf x ≤ k → x.within p = true → x.within q = true) ∧ ∀ xs : List V, SizeOf.sizeOf xs ≤ k → V.withinL p xs = true → V.withinL q xs = true := by
  intro k
  induction k with
  | zero => exact ⟨fun x hx => by cases x <;> simp at hx, fun xs hx => by cases xs <;> simp at hx⟩
  | succ k ih =>
   refine ⟨fun x hx hw => ?_, fun xs hx hw => ?_⟩
   ·cases x with
    | ptr n o => exact h n hw
    | sl a n c d => exact h n hw
    | map n => exact h n hw
    | func f cs => exact ih.2 cs (by simp at hx; omega) hw
    | iface t v => exact ih.1 v (by simp at hx; omega) hw
    | agg cs => exact ih.2 cs (by simp at hx; omega) hw
    | tuple cs => exact ih.2 cs (by simp at hx; omega) hw
    | _ => rfl
   ·cases xs with
    | nil => rfl
    | cons x xs =>
     simp only [V.withinL, Bool.and_eq_true] at hw ⊢
     exact ⟨ih.1 x (by simp at hx; omega) hw.1, ih.2 xs (by simp at hx; omega) hw.2⟩
 exact ⟨fun x => (key _).1 x (Nat.le_refl _), fun xs => (key _).2 xs (Nat.le_refl _)⟩
theorem con_at (m : Nat) : ng0.con m = t0.get m := rfl
set_option maxRecDepth 100000
theorem w0 : O.within (fun _ => false) k0 = true := by kernel_rfl
theorem w1 : O.within (fun _ => false) k1 = true := by kernel_rfl
theorem w2 : O.within (fun _ => false) k2 = true := by kernel_rfl
theorem w3 : O.within (fun _ => false) k3 = true := by kernel_rfl
theorem w4 : O.within (fun _ => false) k4 = true := by kernel_rfl
theorem w5 : O.within (fun _ => false) k5 = true := by kernel_rfl
theorem w6 : O.within (fun _ => false) k6 = true := by kernel_rfl
theorem w7 : O.within (fun _ => false) k7 = true := by kernel_rfl
theorem w8 : O.within (fun _ => false) k8 = true := by kernel_rfl
theorem w9 : O.within (fun _ => false) k9 = true := by kernel_rfl
theorem con_some {m : Nat} {x : O} (h : ng0.con m = some x) : O.within (fun _ => false) x = true := by
 rw [con_at, get_t0] at h
 by_cases e9 : m = 9
 ·rw [if_pos e9] at h; rw [← Option.some.inj h]; exact w9
 rw [if_neg e9] at h
 by_cases e8 : m = 8
 ·rw [if_pos e8] at h; rw [← Option.some.inj h]; exact w8
 rw [if_neg e8] at h
 by_cases e7 : m = 7
 ·rw [if_pos e7] at h; rw [← Option.some.inj h]; exact w7
 rw [if_neg e7] at h
 by_cases e6 : m = 6
 ·rw [if_pos e6] at h; rw [← Option.some.inj h]; exact w6
 rw [if_neg e6] at h
 by_cases e5 : m = 5
 ·rw [if_pos e5] at h; rw [← Option.some.inj h]; exact w5
 rw [if_neg e5] at h
 by_cases e4 : m = 4
 ·rw [if_pos e4] at h; rw [← Option.some.inj h]; exact w4
 rw [if_neg e4] at h
 by_cases e3 : m = 3
 ·rw [if_pos e3] at h; rw [← Option.some.inj h]; exact w3
 rw [if_neg e3] at h
 by_cases e2 : m = 2
 ·rw [if_pos e2] at h; rw [← Option.some.inj h]; exact w2
 rw [if_neg e2] at h
 by_cases e1 : m = 1
 ·rw [if_pos e1] at h; rw [← Option.some.inj h]; exact w1
 rw [if_neg e1] at h
 by_cases e0 : m = 0
 ·rw [if_pos e0] at h; rw [← Option.some.inj h]; exact w0
 rw [if_neg e0] at h
 cases h
theorem consts : Consts ng0 h0 where
 con m := rfl
 top m hm := by
  have hm : 10 ≤ m := hm
  show t0.get m = none
  rw [get_t0]
  repeat rw [if_neg (by omega)]
 has b hb := by
  have hb : b < 10 := hb
  rw [con_at, get_t0]
  have : b = 0 ∨ b = 1 ∨ b = 2 ∨ b = 3 ∨ b = 4 ∨ b = 5 ∨ b = 6 ∨ b = 7 ∨ b = 8 ∨ b = 9 := by omega
  rcases this with rfl | rfl | rfl | rfl | rfl | rfl | rfl | rfl | rfl | rfl <;> exact ⟨_, rfl⟩
 inn m x hx := by
  have := con_some hx
  cases x with
  | cells T cs ex ro => exact (adH (fun _ h => by cases h)).2 cs this
  | map es => exact this
  | iter s p => rfl
  | gone => rfl
noncomputable def comes (r : Option (V × Heap)) (x : V) : Bool := match r with | some (v, _) => V.beq v x | none => false
theorem auE {r : Option (V × Heap)} {x : V} (h : comes r x = true) : ∃ H, r = some (x, H) := by
 unfold comes at h
 split at h
 ·rename_i v H
  exact ⟨H, by rw [V.beq_eq _ h]⟩
 ·cases h
theorem pure_of {l : List (Handler P ng0)} {n : Nat} {f : FuncId} {xs : List V} {r : V} (h : comes (evF P (mkTy P) ng0 (isH l) (modH l) n f xs h0) r = true) (hx : V.withinL (fun _ => false) xs = true) (hr : r.within (fun _ => false) = true) : ∀ H, OCall P ng0 f xs H r H := by
 obtain ⟨H', h⟩ := auE h
 exact avR consts (amT mixed noNG (modH_ok l) (modH_ext l) n f xs h0 r H' h) ((adH (fun _ h => by cases h)).2 xs hx) ((adH (fun _ h => by cases h)).1 r hr)

def num (b : Nat) : V := .agg [.int .i64 1, .int .u64 (.ofNat b), .bool false, .str [], .int .i64 0]
def fail (n : Nat) : V := .agg [.int .i64 4, .int .u64 (.ofNat 0), .bool false, .str [], .int .i64 (.ofNat n)]
def u (b : Nat) : V := .int .u64 (.ofNat b)

end Go.Proofs.YtfkeflcdadlmdaaGreatDoor.Cc

namespace Go.Proofs.YtfkeflcdadlmdaaGreatDoor
open Go Go.RowKit

theorem abT {P : Program} {f : FuncId} {xs : List AV} {r : AV} {W : World} {hI : Inv W} {vs : List Value} (h : ∀ H, ACall P f xs H fun y H' => y = r ∧ H' = H) (hv : RelVs (g0 W hI) xs vs) :
  Calls P f vs.toArray W fun e W' => ∃ v, e = .returned v ∧ (∃ g', RelV g' r v) ∧ Below W.heap.size W W' :=
 (h Heap.empty (g0 W hI) vs W hv (sat0 W hI)).mono fun e W' ⟨v, he, g', x, H', hle, hr, hs, hx, _⟩ => by
  subst hx
  have := hs.below
  rw [hle.base] at this
  exact ⟨v, he, ⟨g', hr⟩, this⟩
theorem auR {g : G} {x y : AV} {v : Value} (h : RelV g (.tuple [x, y]) v) : ∃ a b, v = .tuple #[a, b] ∧ RelV g x a ∧ RelV g y b := by
 cases h with
 | tuple _ vs hn hr =>
  obtain ⟨l⟩ := vs
  match l, hn with
  | [a, b], _ => exact ⟨a, b, rfl, hr 0 _ _ rfl rfl, hr 1 _ _ rfl rfl⟩
theorem ayD {g : G} {x y z : AV} {v : Value} (h : RelV g (.agg [x, y, z]) v) : ∃ a b c, v = .agg #[a, b, c] ∧ RelV g x a ∧ RelV g y b ∧ RelV g z c := by
 cases h with
 | agg _ vs hn hr =>
  obtain ⟨l⟩ := vs
  match l, hn with
  | [a, b, c], _ => exact ⟨a, b, c, rfl, hr 0 _ _ rfl rfl, hr 1 _ _ rfl rfl, hr 2 _ _ rfl rfl⟩
def vD (s : (Bool × List UInt8 × Int) × Int) : Cc.V := .tuple [.agg [.bool s.1.1, .str s.1.2.1, .int .i64 s.1.2.2], .int .i64 s.2]
theorem arD {g : G} {s : (Bool × List UInt8 × Int) × Int} {v : Value} (h : RelV g (dT s) v) (g' : Cc.G) : Cc.RelV g' (vD s) v := by
 obtain ⟨a, b, rfl, h1, h2⟩ := auR h
 obtain ⟨a1, a2, a3, rfl, k1, k2, k3⟩ := ayD h1
 cases h2; cases k1; cases k3
 cases k2 with | str _ hs => ?_
 refine .tuple _ _ rfl fun i c v hc hv => ?_
 match i with
 | 0 =>
  cases hc; cases hv
  refine .agg _ _ rfl fun i c v hc hv => ?_
  match i with
  | 0 => cases hc; cases hv; exact .bool _
  | 1 => cases hc; cases hv; exact .str _ hs
  | 2 => cases hc; cases hv; exact .int _ _
  | i + 3 => simp at hc
 | 1 => cases hc; cases hv; exact .int _ _
 | i + 2 => simp at hc
namespace Cc
def runSig : List V → Option V
 | [.int .u64 (.ofNat x), .int .i64 (.ofNat n), .int .i64 (.ofNat w)] => cond (Nat.blt x 18446744073709551616 && (Nat.beq n 15 && Nat.beq w 1)) (some (vD (sigX x 15))) none
 | _ => none
theorem sig_ok {xs : List V} {H H' : Heap} {r : V} (h : (match runSig xs with | some r => some (r, H) | none => none) = some (r, H')) : OCall P ng0 42 xs H r H' := by
 split at h <;> first | (cases h; done) | skip
 rename_i y hy
 cases h
 unfold runSig at hy
 split at hy <;> first | (cases hy; done) | skip
 rename_i x n w
 obtain ⟨hb, hy⟩ := qO hy
 cases hy
 simp only [Bool.and_eq_true, Nat.beq_eq] at hb
 obtain ⟨b1, rfl, rfl⟩ := hb
 have b1 : x < 18446744073709551616 := by simpa [Nat.blt_eq] using b1
 refine .inl ⟨fun g vs w hg hr hs => ?_, enters noNG Tryz.func42 rfl⟩
 obtain ⟨v1, us, rfl, r1, hr⟩ := hr.cons
 obtain ⟨v2, us, rfl, r2, hr⟩ := hr.cons
 obtain ⟨v3, us, rfl, r3, hr⟩ := hr.cons
 cases hr.nil
 cases r1; cases r2; cases r3
 have hi := hs.inv
 rw [hg] at hi
 refine (abT (hI := hi) (fun H => ahU x b1 15 (by decide) (by decide) H) (aaZ (.int _ _) (aaZ (.int _ _) (aaZ (.int _ _) aeP)))).mono ?_
 rintro e w' ⟨v, rfl, ⟨g', hv⟩, hbl⟩
 exact ⟨v, rfl, g, G.le.refl g, arD hv g, hs.grows ⟨hbl.os, hbl.tape, hbl.output, hbl.size, hbl.block⟩⟩
def hSig : Handler P ng0 where
 f := 42
 is xs := match xs with | [.int .u64 (.ofNat _), .int .i64 (.ofNat _), .int .i64 (.ofNat _)] => true | _ => false
 run _ xs H := match runSig xs with | some r => some (r, H) | none => none
 ok _ _ _ xs H r H' _ h := sig_ok h
 ext _ _ xs H r H' X H2 _ h k := by
  split at h <;> first | (cases h; done) | skip
  rename_i y hy
  cases h
  exact ⟨H2, rfl, k⟩
def locV (a b c d e f h : List UInt8) (x y : Bool) : Loc := ⟨a, b, c, d, e, f, h, x, y, 3⟩
def okLoc (l : Loc) : Bool := Nat.ble l.dc.length 10 && (Nat.ble l.grp.length 10 && (Nat.ble l.minus.length 10 && (Nat.ble l.cur.length 10 && Nat.ble l.pct.length 10)))
def runGen : List V → Option V
 | [.int .u64 (.ofNat x), .agg [.str a, .str b, .str c, .str d, .str e, .str f, .str h, .bool p, .bool q, .sl _ _ _ _]] => cond (Nat.blt x 18446744073709551616 && okLoc (locV a b c d e f h p q)) (some (.str (genD (locV a b c d e f h p q) (sigX x 15)))) none
 | _ => none
theorem agg_ten {g : G} {a b c d e f h i j k : V} {v : Value} (hv : RelV g (.agg [a, b, c, d, e, f, h, i, j, k]) v) : ∃ v0 v1 v2 v3 v4 v5 v6 v7 v8 v9, v = .agg #[v0, v1, v2, v3, v4, v5, v6, v7, v8, v9] ∧ RelV g a v0 ∧ RelV g b v1 ∧ RelV g c v2 ∧ RelV g d v3 ∧ RelV g e v4 ∧ RelV g f v5 ∧ RelV g h v6 ∧ RelV g i v7 ∧ RelV g j v8 ∧ RelV g k v9 := by
 cases hv with
 | agg _ vs hn hr =>
  obtain ⟨l⟩ := vs
  match l, hn with
  | [v0, v1, v2, v3, v4, v5, v6, v7, v8, v9], _ => exact ⟨v0, v1, v2, v3, v4, v5, v6, v7, v8, v9, rfl, hr 0 _ _ rfl rfl, hr 1 _ _ rfl rfl, hr 2 _ _ rfl rfl, hr 3 _ _ rfl rfl, hr 4 _ _ rfl rfl, hr 5 _ _ rfl rfl, hr 6 _ _ rfl rfl, hr 7 _ _ rfl rfl, hr 8 _ _ rfl rfl, hr 9 _ _ rfl rfl⟩
theorem abX {g : G} {s : List UInt8} {v : Value} (h : RelV g (.str s) v) (g' : Go.Proofs.YtfkeflcdadlmdaaGreatDoor.G) : Go.Proofs.YtfkeflcdadlmdaaGreatDoor.RelV g' (.str s) v := by
 cases h with | str _ hs => exact .str _ hs
theorem gen_ok {xs : List V} {H H' : Heap} {r : V} (h : (match runGen xs with | some r => some (r, H) | none => none) = some (r, H')) : OCall P ng0 14 xs H r H' := by
 split at h <;> first | (cases h; done) | skip
 rename_i y hy
 cases h
 unfold runGen at hy
 split at hy <;> first | (cases hy; done) | skip
 rename_i x a b c d e f h p q sz n o len
 obtain ⟨hb, hy⟩ := qO hy
 cases hy
 simp only [Bool.and_eq_true] at hb
 obtain ⟨b1, b2⟩ := hb
 have b1 : x < 18446744073709551616 := by simpa [Nat.blt_eq] using b1
 have hk : (locV a b c d e f h p q).ok := by
  unfold okLoc at b2
  simp only [Bool.and_eq_true] at b2
  exact ⟨Nat.le_of_ble_eq_true b2.1, Nat.le_of_ble_eq_true b2.2.1, Nat.le_of_ble_eq_true b2.2.2.1, Nat.le_of_ble_eq_true b2.2.2.2.1, Nat.le_of_ble_eq_true b2.2.2.2.2⟩
 refine .inl ⟨fun g vs w hg hr hs => ?_, enters noNG Tryz.func14 rfl⟩
 obtain ⟨v1, us, rfl, r1, hr⟩ := hr.cons
 obtain ⟨v2, us, rfl, r2, hr⟩ := hr.cons
 cases hr.nil
 cases r1
 obtain ⟨v0, v1, v2, v3, v4, v5, v6, v7, v8, v9, rfl, k0, k1, k2, k3, k4, k5, k6, k7, k8, k9⟩ := agg_ten r2
 cases k7; cases k8
 cases k9 with | sl _ _ _ _ cap hn hv hl hc => ?_
 have hi := hs.inv
 rw [hg] at hi
 have hrel : Go.Proofs.YtfkeflcdadlmdaaGreatDoor.RelV (g0 w hi) (pL (locV a b c d e f h p q) (.mslice (some ⟨g.nm n, o, none⟩) len cap)) (.agg #[v0, v1, v2, v3, v4, v5, v6, .bool p, .bool q, .slice (some ⟨g.nm n, o, none⟩) len cap]) := by
  refine .agg _ _ rfl fun i c v hc hv => ?_
  match i with
  | 0 => cases hc; cases hv; exact abX k0 _
  | 1 => cases hc; cases hv; exact abX k1 _
  | 2 => cases hc; cases hv; exact abX k2 _
  | 3 => cases hc; cases hv; exact abX k3 _
  | 4 => cases hc; cases hv; exact abX k4 _
  | 5 => cases hc; cases hv; exact abX k5 _
  | 6 => cases hc; cases hv; exact abX k6 _
  | 7 => cases hc; cases hv; exact .bool _
  | 8 => cases hc; cases hv; exact .bool _
  | 9 => cases hc; cases hv; exact .mslice _ _ _
  | i + 10 => simp at hc
 refine (abT (hI := hi) (fun H => akU _ hk _ x b1 H) (aaZ (.int _ _) (aaZ hrel aeP))).mono ?_
 rintro e w' ⟨v, rfl, ⟨g', hv⟩, hbl⟩
 cases hv with | str _ hs' => ?_
 exact ⟨_, rfl, g, G.le.refl g, .str _ hs', hs.grows ⟨hbl.os, hbl.tape, hbl.output, hbl.size, hbl.block⟩⟩
def hGen : Handler P ng0 where
 f := 14
 is xs := match xs with | [.int .u64 (.ofNat _), .agg [.str _, .str _, .str _, .str _, .str _, .str _, .str _, .bool _, .bool _, .sl _ _ _ _]] => true | _ => false
 run _ xs H := match runGen xs with | some r => some (r, H) | none => none
 ok _ _ _ xs H r H' _ h := gen_ok h
 ext _ _ xs H r H' X H2 _ h k := by
  split at h <;> first | (cases h; done) | skip
  rename_i y hy
  cases h
  exact ⟨H2, rfl, k⟩
theorem axD {g : Go.Proofs.YtfkeflcdadlmdaaGreatDoor.G} {b : Bool} {v : Value} (h : Go.Proofs.YtfkeflcdadlmdaaGreatDoor.RelV g (.bool b) v) (g' : G) : RelV g' (.bool b) v := by
 cases h; exact .bool _
theorem flat_int {g : Go.Proofs.YtfkeflcdadlmdaaGreatDoor.G} {k : IntKind} {n : Int} {v : Value} (h : Go.Proofs.YtfkeflcdadlmdaaGreatDoor.RelV g (.int k n) v) (g' : G) : RelV g' (.int k n) v := by
 cases h; exact .int _ _
theorem axW {g : G} {neg : Bool} {ds : List UInt8} {e : Int} {v : Value} (h : RelV g (.agg [.bool neg, .str ds, .int .i64 e]) v) (g' : Go.Proofs.YtfkeflcdadlmdaaGreatDoor.G) : Go.Proofs.YtfkeflcdadlmdaaGreatDoor.RelV g' (dA neg ds e) v := by
 cases h with
 | agg _ vs hn hr =>
  obtain ⟨l⟩ := vs
  match l, hn with
  | [a, b, c], _ =>
   have h0 := hr 0 _ _ rfl rfl
   have h1 := hr 1 _ _ rfl rfl
   have h2 := hr 2 _ _ rfl rfl
   cases h0; cases h2
   refine .agg _ _ rfl fun i c v hc hv => ?_
   match i with
   | 0 => cases hc; cases hv; exact .bool _
   | 1 => cases hc; cases hv; exact abX h1 _
   | 2 => cases hc; cases hv; exact .int _ _
   | i + 3 => simp at hc
def expB : Int → Bool
 | .ofNat n => Nat.ble n 1000000000
 | .negSucc n => Nat.ble n 1000000000
theorem atN {e : Int} (h : expB e = true) : -1000000000000 ≤ e ∧ e ≤ 1000000000000 := by
 cases e with
 | ofNat n => have := Nat.le_of_ble_eq_true h; constructor <;> simp <;> omega
 | negSucc n => have := Nat.le_of_ble_eq_true h; rw [Int.negSucc_eq]; omega
def Handler.known (f : FuncId) (run : List V → Option V) (ent : Enters P f) (spec : ∀ xs r, run xs = some r → ∀ g vs w, g.ng = ng0 → RelVs g xs vs → Inv w → Calls P f vs.toArray w fun e w' => ∃ v, e = .returned v ∧ (∀ g', RelV g' r v) ∧ Below w.heap.size w w') : Handler P ng0 where
 f := f
 is xs := match run xs with | some _ => true | none => false
 run _ xs H := match run xs with | some r => some (r, H) | none => none
 ok _ _ _ xs H r H' _ h := by
  split at h <;> first | (cases h; done) | skip
  rename_i y hy
  cases h
  refine .inl ⟨fun g vs w hg hr hs => ?_, ent⟩
  have hi := hs.inv
  rw [hg] at hi
  refine (spec xs _ hy g vs w hg hr hi).mono ?_
  rintro e w' ⟨v, rfl, hv, hbl⟩
  exact ⟨v, rfl, g, G.le.refl g, hv g, hs.grows ⟨hbl.os, hbl.tape, hbl.output, hbl.size, hbl.block⟩⟩
 ext _ _ xs H r H' X H2 _ h k := by
  split at h <;> first | (cases h; done) | skip
  rename_i y hy
  cases h
  exact ⟨H2, rfl, k⟩
def runMake : List V → Option V
 | [.bool neg, .str ds, .int .i64 e] => cond (digB ds && (Nat.ble ds.length 100000 && expB e)) (some (vD (mkN neg ds e))) none
 | _ => none
def hMake : Handler P ng0 := Handler.known 34 runMake (enters noNG Tryz.func34 rfl) <| by
 intro xs r h g vs w hg hr hi
 unfold runMake at h
 split at h <;> first | (cases h; done) | skip
 rename_i neg ds e
 obtain ⟨hb, h⟩ := qO h
 cases h
 simp only [Bool.and_eq_true] at hb
 obtain ⟨b1, b2, b3⟩ := hb
 obtain ⟨v1, us, rfl, r1, hr⟩ := hr.cons
 obtain ⟨v2, us, rfl, r2, hr⟩ := hr.cons
 obtain ⟨v3, us, rfl, r3, hr⟩ := hr.cons
 cases hr.nil
 cases r1; cases r3
 refine (abT (hI := hi) (fun H => adA neg ds e (aaM.1 b1) (Nat.le_of_ble_eq_true b2) (atN b3) H) (aaZ (.bool _) (aaZ (abX r2 _) (aaZ (.int _ _) aeP)))).mono ?_
 rintro e w' ⟨v, rfl, ⟨g', hv⟩, hbl⟩
 exact ⟨v, rfl, fun g' => arD hv g', hbl⟩
def runRight : List V → Option V
 | [.agg [.bool _, .str ds, .int .i64 e]] => cond (digB ds) (some (.bool (rightB ds e))) none
 | _ => none
def hRight : Handler P ng0 := Handler.known 60 runRight (enters noNG Tryz.func60 rfl) <| by
 intro xs r h g vs w hg hr hi
 unfold runRight at h
 split at h <;> first | (cases h; done) | skip
 rename_i neg ds e
 obtain ⟨hb, h⟩ := qO h
 cases h
 obtain ⟨v1, us, rfl, r1, hr⟩ := hr.cons
 cases hr.nil
 refine (abT (hI := hi) (fun H => aaU neg ds e (aaM.1 hb) H) (aaZ (axW r1 _) aeP)).mono ?_
 rintro e w' ⟨v, rfl, ⟨g', hv⟩, hbl⟩
 exact ⟨v, rfl, fun g' => axD hv g', hbl⟩
def runPoint : List V → Option V
 | [.agg [.bool _, .str ds, .int .i64 e]] => cond (digB ds) (some (.int .i64 (pointD ds e))) none
 | _ => none
def hPoint : Handler P ng0 := Handler.known 43 runPoint (enters noNG Tryz.func43 rfl) <| by
 intro xs r h g vs w hg hr hi
 unfold runPoint at h
 split at h <;> first | (cases h; done) | skip
 rename_i neg ds e
 obtain ⟨hb, h⟩ := qO h
 cases h
 obtain ⟨v1, us, rfl, r1, hr⟩ := hr.cons
 cases hr.nil
 refine (abT (hI := hi) (fun H => acI neg ds e (aaM.1 hb) H) (aaZ (axW r1 _) aeP)).mono ?_
 rintro e w' ⟨v, rfl, ⟨g', hv⟩, hbl⟩
 exact ⟨v, rfl, fun g' => flat_int hv g', hbl⟩
noncomputable def hs1 : List (Handler P ng0) := [hSig, hGen, hMake, hRight, hPoint] ++ hs0
end Cc
end Go.Proofs.YtfkeflcdadlmdaaGreatDoor
