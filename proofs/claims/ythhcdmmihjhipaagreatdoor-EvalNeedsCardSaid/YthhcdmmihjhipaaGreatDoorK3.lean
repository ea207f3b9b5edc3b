/-
  The head of the laws of needs: its handlers; what is known between its stages (written by the maker's own program out of a run).
-/
import Derived.Test.YthhcdmmihjhipaaGreatDoorE6
import Derived.Test.YthhcdmmihjhipaaGreatDoorK2
namespace Go.Proofs.YthhcdmmihjhipaaGreatDoor.Cc
open Go Go.RowKit

noncomputable def hs1 : List (Handler P ng0) := [
  hHP 50 Tryz.strings_HasPrefix (enters noNG Tryz.func50 rfl),
  hHP 75 Tryz.stringslite_HasPrefix (enters noNG Tryz.func75 rfl),
  hGrow] ++ [hQuoted] ++ hs0
noncomputable abbrev call1 : CallF := evF P (mkTy P) ng0 idl0 (isH hs1) (modH hs1) 399
theorem call1_ok : CallOK P ng0 call1 := evF_sound mixed noNG idl0_ok (modH_ok hs1) (modH_ext hs1) 399
theorem call1_ext : CallExt call1 := evF_ext (modH_ext hs1) 399
noncomputable def bodyC : Code := match P.funcs[4]? with
  | some f => f.body.getD .skip
  | none => .skip
noncomputable def rest : Nat → Code
  | 0 => bodyC
  | k + 1 => seqR (rest k)
def loopBodyB : Code → Code
  | .block _ (.loop b) => b
  | c => c
def isBLB (id : Nat) : Code → Bool
  | .block i (.loop _) => Nat.beq i id
  | _ => false
noncomputable def roundC : Code := loopBodyB (seqR (seqL (rest 9)))
theorem inner_at {c : Code} (hs : isSeq c = true) {B : World} {Q : Exit → Act → World → Prop} {n : Nat} {e : Nat → Option V} {H : Heap}
    (h : ∀ g a w, g.base = B → g.ng = ng0 → RelAct g n [] e a → Sat g H w → (seqL c).wp P (Exit.then ((seqR c).wp P Q) Q) a w) :
    ∀ g a w, g.base = B → g.ng = ng0 → RelAct g n [] e a → Sat g H w → c.wp P Q a w := by
  cases c <;> first | (cases hs; done) | skip
  exact fun g a w hb hg hr hs => wp_seq (h g a w hb hg hr hs)
theorem enter_at {c : Code} {id : Nat} (hb : isBLB id c = true) {B : World} {Q : Exit → Act → World → Prop} {n : Nat} {e : Nat → Option V} {H : Heap}
    (h : ∀ g a w, g.base = B → g.ng = ng0 → RelAct g n [] e a → Sat g H w → LoopWP none 0 P (loopBodyB c) (Exit.inBlock id Q) a w) :
    ∀ g a w, g.base = B → g.ng = ng0 → RelAct g n [] e a → Sat g H w → c.wp P Q a w := by
  intro g a w hbb hg hr hs
  unfold isBLB at hb
  split at hb <;> first | (cases hb; done) | skip
  rename_i _ i b
  have h := h g a w hbb hg hr hs
  have := Nat.eq_of_beq_eq_true hb
  subst this
  have hl : (Code.loop b).wpIn .wide 0 P (Exit.inBlock i Q) a w := by
    intro fr k cs hro hF hroom
    obtain ⟨ex, a', w', hq, harr⟩ := h fr k cs hro
    exact ⟨ex, a', w', hq, .of_steps (.one (FW_fenced none _ _) stepR_loop) harr⟩
  exact wp_block (wpIn_wide.1 hl)
def rz : List V := (List.replicate 801 [V.int .u32 (.ofNat 0), .int .i32 (.ofNat 0), .int .u32 (.ofNat 0), .int .u64 (.ofNat 0), .int .u64 (.ofNat 0), .int .i64 (.ofNat 0), .bool false]).flatten
def j0 : O := .cells 3 ([.int .i64 (.ofNat 3)]) true false
def j1 : O := .cells 39 ([.str [101, 110], .str [46], .str [44], .str [44], .str [45], .str [37], .str [36], .bool true, .bool false, .sl 1 35 0 1]) true false
def j2 : O := .cells 74 ([.ptr 53 0, .ptr 68 0]) true false
def j3 : O := .cells 99 ([.str [101, 110], .str [46], .str [44], .str [44], .str [45], .str [37], .str [36], .bool true, .bool false, .sl 1 35 0 1, .ptr 59 0]) true false
def j4 : O := .cells 149 ([.str [101, 110], .str [46], .str [44], .str [44], .str [45], .str [37], .str [36], .bool true, .bool false, .sl 1 35 0 1, .ptr 61 0]) true false
def j5 : O := .cells 122 (rz) true false
def j6 : O := .cells 101 ([.str [101, 110], .str [46], .str [44], .str [44], .str [45], .str [37], .str [36], .bool true, .bool false, .sl 1 35 0 1, .ptr 75 0, .ptr 84 0]) true false
def j7 : O := .cells 99 ([.str [101, 110], .str [46], .str [44], .str [44], .str [45], .str [37], .str [36], .bool true, .bool false, .sl 1 35 0 1, .ptr 81 0]) true false
def j8 : O := .cells 149 ([.str [101, 110], .str [46], .str [44], .str [44], .str [45], .str [37], .str [36], .bool true, .bool false, .sl 1 35 0 1, .ptr 83 0]) true false
def j9 : O := .cells 80 ([.str [101, 110], .str [46], .str [44], .str [44], .str [45], .str [37], .str [36], .bool true, .bool false, .sl 1 35 0 1, .ptr 92 0, .ptr 94 0]) true false
def j10 : O := .cells 124 ([.ptr 93 0]) true false
def j11 : O := .cells 51 ([.int .i64 (.ofNat 0), .int .i64 (.ofNat 1), .int .u64 (.ofNat 4611686018427387904), .bool false, .str [], .int .i64 (.ofNat 0), .int .i64 (.ofNat 1), .int .i64 (.ofNat 3), .int .u64 (.ofNat 0), .bool false, .str [51], .int .i64 (.ofNat 0), .int .i64 (.ofNat 65), .int .i64 (.ofNat 4), .int .u64 (.ofNat 0), .bool false, .str [], .int .i64 (.ofNat 7)]) true false
def j12 : O := .cells 56 ([.sl 6 98 0 3]) true false
def j13 : O := .cells 9 ([.str [65, 49, 43, 66, 49], .str [83, 85, 77, 40, 65, 49, 58, 66, 49, 41], .str [83, 85, 77, 40, 65, 49, 44, 34, 51, 34, 41], .str [65, 50], .str [65, 49, 58, 66, 49], .str [45, 65, 49, 58, 66, 49], .str [83, 85, 77, 40, 65, 49, 58, 66, 76, 49, 48, 48, 48, 41], .str [83, 85, 77, 40, 65, 49, 58, 66, 50, 41], .str [73, 70, 40, 65, 49, 62, 49, 44, 34, 97, 34, 38, 66, 49, 44, 66, 50, 41], .str [66, 50, 43, 65, 49, 43, 65, 49]]) true false
def j14 : O := .cells 48 ([.int .i64 (.ofNat 1), .int .u64 (.ofNat 4617315517961601024), .bool false, .str [], .int .i64 (.ofNat 0), .int .i64 (.ofNat 1), .int .u64 (.ofNat 4611686018427387904), .bool false, .str [], .int .i64 (.ofNat 0), .int .i64 (.ofNat 1), .int .u64 (.ofNat 4617315517961601024), .bool false, .str [], .int .i64 (.ofNat 0), .int .i64 (.ofNat 1), .int .u64 (.ofNat 0), .bool false, .str [], .int .i64 (.ofNat 0), .int .i64 (.ofNat 4), .int .u64 (.ofNat 0), .bool false, .str [], .int .i64 (.ofNat 3), .int .i64 (.ofNat 4), .int .u64 (.ofNat 0), .bool false, .str [], .int .i64 (.ofNat 3), .int .i64 (.ofNat 4), .int .u64 (.ofNat 0), .bool false, .str [], .int .i64 (.ofNat 4), .int .i64 (.ofNat 4), .int .u64 (.ofNat 0), .bool false, .str [], .int .i64 (.ofNat 7), .int .i64 (.ofNat 3), .int .u64 (.ofNat 0), .bool false, .str [97, 51], .int .i64 (.ofNat 0), .int .i64 (.ofNat 4), .int .u64 (.ofNat 0), .bool false, .str [], .int .i64 (.ofNat 7)]) true false
def j15 : O := .cells 3 ([.int .i64 (.ofNat 2), .int .i64 (.ofNat 1), .int .i64 (.ofNat 1), .int .i64 (.ofNat 1), .int .i64 (.ofNat 1), .int .i64 (.ofNat 1), .int .i64 (.ofNat 1), .int .i64 (.ofNat 1), .int .i64 (.ofNat 3), .int .i64 (.ofNat 2)]) true false
def j16 : O := .cells 27 ([.int .i64 (.ofNat 5), .int .u64 (.ofNat 0), .str [], .bool false, .int .i64 (.ofNat 0), .int .i64 (.ofNat 1), .int .i64 (.ofNat 1), .bool false, .bool false, .int .i64 (.ofNat 0), .int .i64 (.ofNat 0), .bool false, .bool false, .nilS, .int .i64 (.ofNat 5), .int .u64 (.ofNat 0), .str [], .bool false, .int .i64 (.ofNat 0), .int .i64 (.ofNat 0), .int .i64 (.ofNat 0), .bool false, .bool false, .int .i64 (.ofNat 0), .int .i64 (.ofNat 0), .bool false, .bool false, .nilS]) true false
def j17 : O := .cells 27 ([.int .i64 (.ofNat 8), .int .u64 (.ofNat 0), .str [43], .bool false, .int .i64 (.ofNat 0), .int .i64 (.ofNat 0), .int .i64 (.ofNat 0), .bool false, .bool false, .int .i64 (.ofNat 0), .int .i64 (.ofNat 0), .bool false, .bool false, .sl 14 9047 0 2, .int .i64 (.ofNat 5), .int .u64 (.ofNat 0), .str [], .bool false, .int .i64 (.ofNat 0), .int .i64 (.ofNat 0), .int .i64 (.ofNat 0), .bool false, .bool false, .int .i64 (.ofNat 0), .int .i64 (.ofNat 0), .bool false, .bool false, .nilS]) true false
def j18 : O := .cells 27 ([.int .i64 (.ofNat 8), .int .u64 (.ofNat 0), .str [43], .bool false, .int .i64 (.ofNat 0), .int .i64 (.ofNat 0), .int .i64 (.ofNat 0), .bool false, .bool false, .int .i64 (.ofNat 0), .int .i64 (.ofNat 0), .bool false, .bool false, .sl 14 9213 0 2]) true false
def j19 : O := .cells 35 ([.int .i64 (.ofNat 1), .int .i64 (.ofNat 1), .bool false, .bool false, .int .i64 (.ofNat 1), .int .i64 (.ofNat 1), .bool false, .bool false, .int .i64 (.ofNat 0), .int .i64 (.ofNat 0), .bool false, .bool false, .int .i64 (.ofNat 0), .int .i64 (.ofNat 0), .bool false, .bool false]) false false
def j20 : O := .cells 27 ([.int .i64 (.ofNat 5), .int .u64 (.ofNat 0), .str [], .bool false, .int .i64 (.ofNat 0), .int .i64 (.ofNat 0), .int .i64 (.ofNat 0), .bool false, .bool false, .int .i64 (.ofNat 0), .int .i64 (.ofNat 0), .bool false, .bool false, .nilS, .int .i64 (.ofNat 1), .int .u64 (.ofNat 4607182418800017408), .str [], .bool false, .int .i64 (.ofNat 0), .int .i64 (.ofNat 0), .int .i64 (.ofNat 0), .bool false, .bool false, .int .i64 (.ofNat 0), .int .i64 (.ofNat 0), .bool false, .bool false, .nilS]) true false
def j21 : O := .cells 27 ([.int .i64 (.ofNat 2), .int .u64 (.ofNat 0), .str [97], .bool false, .int .i64 (.ofNat 0), .int .i64 (.ofNat 0), .int .i64 (.ofNat 0), .bool false, .bool false, .int .i64 (.ofNat 0), .int .i64 (.ofNat 0), .bool false, .bool false, .nilS, .int .i64 (.ofNat 5), .int .u64 (.ofNat 0), .str [], .bool false, .int .i64 (.ofNat 0), .int .i64 (.ofNat 1), .int .i64 (.ofNat 0), .bool false, .bool false, .int .i64 (.ofNat 0), .int .i64 (.ofNat 0), .bool false, .bool false, .nilS]) true false
def j22 : O := .cells 27 ([.int .i64 (.ofNat 8), .int .u64 (.ofNat 0), .str [62], .bool false, .int .i64 (.ofNat 0), .int .i64 (.ofNat 0), .int .i64 (.ofNat 0), .bool false, .bool false, .int .i64 (.ofNat 0), .int .i64 (.ofNat 0), .bool false, .bool false, .sl 14 6497 0 2, .int .i64 (.ofNat 8), .int .u64 (.ofNat 0), .str [38], .bool false, .int .i64 (.ofNat 0), .int .i64 (.ofNat 0), .int .i64 (.ofNat 0), .bool false, .bool false, .int .i64 (.ofNat 0), .int .i64 (.ofNat 0), .bool false, .bool false, .sl 14 6837 0 2, .int .i64 (.ofNat 5), .int .u64 (.ofNat 0), .str [], .bool false, .int .i64 (.ofNat 0), .int .i64 (.ofNat 1), .int .i64 (.ofNat 1), .bool false, .bool false, .int .i64 (.ofNat 0), .int .i64 (.ofNat 0), .bool false, .bool false, .nilS]) false false
def j23 : O := .cells 27 ([.int .i64 (.ofNat 10), .int .u64 (.ofNat 0), .str [73, 70], .bool false, .int .i64 (.ofNat 0), .int .i64 (.ofNat 0), .int .i64 (.ofNat 0), .bool false, .bool false, .int .i64 (.ofNat 0), .int .i64 (.ofNat 0), .bool false, .bool false, .sl 14 7105 0 3]) true false
def ks0 : List (Nat × O) := []
def es0 : List (Nat × V) := []
def ks1 : List (Nat × O) := []
def es1 : List (Nat × V) := [(0, .bool false)]
def ks2 : List (Nat × O) := [(35, j0), (39, j1)]
def es2 : List (Nat × V) := [(0, .bool false), (1, .ptr 39 0)]
def ks3 : List (Nat × O) := [(35, j0), (39, j1), (46, j2), (53, j3), (59, j4), (61, j5), (68, j6), (75, j7), (81, j8), (83, j5), (84, j5)]
def es3 : List (Nat × V) := [(0, .bool false), (1, .ptr 39 0), (3, .ptr 46 0)]
def ks4 : List (Nat × O) := [(35, j0), (39, j1), (46, j2), (53, j3), (59, j4), (61, j5), (68, j6), (75, j7), (81, j8), (83, j5), (84, j5), (90, j9), (92, j5), (93, j5), (94, j10)]
def es4 : List (Nat × V) := [(0, .bool false), (1, .ptr 39 0), (3, .ptr 46 0), (4, .ptr 90 0)]
def ks5 : List (Nat × O) := [(35, j0), (39, j1), (46, j2), (53, j3), (59, j4), (61, j5), (68, j6), (75, j7), (81, j8), (83, j5), (84, j5), (90, j9), (92, j5), (93, j5), (94, j10)]
def es5 : List (Nat × V) := [(0, .bool false), (1, .ptr 39 0), (3, .ptr 46 0), (4, .ptr 90 0)]
def ks6 : List (Nat × O) := [(35, j0), (39, j1), (46, j2), (53, j3), (59, j4), (61, j5), (68, j6), (75, j7), (81, j8), (83, j5), (84, j5), (90, j9), (92, j5), (93, j5), (94, j10), (98, j11), (99, j12)]
def es6 : List (Nat × V) := [(0, .bool false), (1, .ptr 39 0), (3, .ptr 46 0), (4, .ptr 90 0), (5, .ptr 99 0)]
def ks7 : List (Nat × O) := [(35, j0), (39, j1), (46, j2), (53, j3), (59, j4), (61, j5), (68, j6), (75, j7), (81, j8), (83, j5), (84, j5), (90, j9), (92, j5), (93, j5), (94, j10), (98, j11), (99, j12), (100, j13)]
def es7 : List (Nat × V) := [(0, .bool false), (1, .ptr 39 0), (3, .ptr 46 0), (4, .ptr 90 0), (5, .ptr 99 0), (6, .sl 1 100 0 10)]
def ks8 : List (Nat × O) := [(35, j0), (39, j1), (46, j2), (53, j3), (59, j4), (61, j5), (68, j6), (75, j7), (81, j8), (83, j5), (84, j5), (90, j9), (92, j5), (93, j5), (94, j10), (98, j11), (99, j12), (100, j13), (111, j14)]
def es8 : List (Nat × V) := [(0, .bool false), (1, .ptr 39 0), (3, .ptr 46 0), (4, .ptr 90 0), (5, .ptr 99 0), (6, .sl 1 100 0 10), (7, .sl 5 111 0 10)]
def ks9 : List (Nat × O) := [(35, j0), (39, j1), (46, j2), (53, j3), (59, j4), (61, j5), (68, j6), (75, j7), (81, j8), (83, j5), (84, j5), (90, j9), (92, j5), (93, j5), (94, j10), (98, j11), (99, j12), (100, j13), (111, j14), (112, j15)]
def es9 : List (Nat × V) := [(0, .bool false), (1, .ptr 39 0), (3, .ptr 46 0), (4, .ptr 90 0), (5, .ptr 99 0), (6, .sl 1 100 0 10), (7, .sl 5 111 0 10), (8, .sl 1 112 0 10)]
def ks10 : List (Nat × O) := [(35, j0), (39, j1), (46, j2), (53, j3), (59, j4), (61, j5), (68, j6), (75, j7), (81, j8), (83, j5), (84, j5), (90, j9), (92, j5), (93, j5), (94, j10), (98, j11), (99, j12), (100, j13), (111, j14), (112, j15)]
def es10 : List (Nat × V) := [(0, .bool false), (1, .ptr 39 0), (3, .ptr 46 0), (4, .ptr 90 0), (5, .ptr 99 0), (6, .sl 1 100 0 10), (7, .sl 5 111 0 10), (8, .sl 1 112 0 10), (9, .int .i64 (.ofNat 0))]
def ks11 : List (Nat × O) := [(35, j0), (39, j1), (46, j2), (53, j3), (59, j4), (61, j5), (68, j6), (75, j7), (81, j8), (83, j5), (84, j5), (90, j9), (92, j5), (93, j5), (94, j10), (98, j11), (99, j12), (100, j13), (111, j14), (112, j15)]
def es11 : List (Nat × V) := [(0, .bool false), (1, .ptr 39 0), (3, .ptr 46 0), (4, .ptr 90 0), (5, .ptr 99 0), (6, .sl 1 100 0 10), (7, .sl 5 111 0 10), (8, .sl 1 112 0 10), (9, .int .i64 (.ofNat 1))]
def ks12 : List (Nat × O) := [(35, j0), (39, j1), (46, j2), (53, j3), (59, j4), (61, j5), (68, j6), (75, j7), (81, j8), (83, j5), (84, j5), (90, j9), (92, j5), (93, j5), (94, j10), (98, j11), (99, j12), (100, j13), (111, j14), (112, j15)]
def es12 : List (Nat × V) := [(0, .bool false), (1, .ptr 39 0), (3, .ptr 46 0), (4, .ptr 90 0), (5, .ptr 99 0), (6, .sl 1 100 0 10), (7, .sl 5 111 0 10), (8, .sl 1 112 0 10), (9, .int .i64 (.ofNat 2))]
def ks13 : List (Nat × O) := [(35, j0), (39, j1), (46, j2), (53, j3), (59, j4), (61, j5), (68, j6), (75, j7), (81, j8), (83, j5), (84, j5), (90, j9), (92, j5), (93, j5), (94, j10), (98, j11), (99, j12), (100, j13), (111, j14), (112, j15)]
def es13 : List (Nat × V) := [(0, .bool false), (1, .ptr 39 0), (3, .ptr 46 0), (4, .ptr 90 0), (5, .ptr 99 0), (6, .sl 1 100 0 10), (7, .sl 5 111 0 10), (8, .sl 1 112 0 10), (9, .int .i64 (.ofNat 3))]
def ks14 : List (Nat × O) := [(35, j0), (39, j1), (46, j2), (53, j3), (59, j4), (61, j5), (68, j6), (75, j7), (81, j8), (83, j5), (84, j5), (90, j9), (92, j5), (93, j5), (94, j10), (98, j11), (99, j12), (100, j13), (111, j14), (112, j15)]
def es14 : List (Nat × V) := [(0, .bool false), (1, .ptr 39 0), (3, .ptr 46 0), (4, .ptr 90 0), (5, .ptr 99 0), (6, .sl 1 100 0 10), (7, .sl 5 111 0 10), (8, .sl 1 112 0 10), (9, .int .i64 (.ofNat 4))]
def ks15 : List (Nat × O) := [(35, j0), (39, j1), (46, j2), (53, j3), (59, j4), (61, j5), (68, j6), (75, j7), (81, j8), (83, j5), (84, j5), (90, j9), (92, j5), (93, j5), (94, j10), (98, j11), (99, j12), (100, j13), (111, j14), (112, j15)]
def es15 : List (Nat × V) := [(0, .bool false), (1, .ptr 39 0), (3, .ptr 46 0), (4, .ptr 90 0), (5, .ptr 99 0), (6, .sl 1 100 0 10), (7, .sl 5 111 0 10), (8, .sl 1 112 0 10), (9, .int .i64 (.ofNat 5))]
def ks16 : List (Nat × O) := [(35, j0), (39, j1), (46, j2), (53, j3), (59, j4), (61, j5), (68, j6), (75, j7), (81, j8), (83, j5), (84, j5), (90, j9), (92, j5), (93, j5), (94, j10), (98, j11), (99, j12), (100, j13), (111, j14), (112, j15)]
def es16 : List (Nat × V) := [(0, .bool false), (1, .ptr 39 0), (3, .ptr 46 0), (4, .ptr 90 0), (5, .ptr 99 0), (6, .sl 1 100 0 10), (7, .sl 5 111 0 10), (8, .sl 1 112 0 10), (9, .int .i64 (.ofNat 6))]
def ks17 : List (Nat × O) := [(35, j0), (39, j1), (46, j2), (53, j3), (59, j4), (61, j5), (68, j6), (75, j7), (81, j8), (83, j5), (84, j5), (90, j9), (92, j5), (93, j5), (94, j10), (98, j11), (99, j12), (100, j13), (111, j14), (112, j15)]
def es17 : List (Nat × V) := [(0, .bool false), (1, .ptr 39 0), (3, .ptr 46 0), (4, .ptr 90 0), (5, .ptr 99 0), (6, .sl 1 100 0 10), (7, .sl 5 111 0 10), (8, .sl 1 112 0 10), (9, .int .i64 (.ofNat 7))]
def ks18 : List (Nat × O) := [(35, j0), (39, j1), (46, j2), (53, j3), (59, j4), (61, j5), (68, j6), (75, j7), (81, j8), (83, j5), (84, j5), (90, j9), (92, j5), (93, j5), (94, j10), (98, j11), (99, j12), (100, j13), (111, j14), (112, j15)]
def es18 : List (Nat × V) := [(0, .bool false), (1, .ptr 39 0), (3, .ptr 46 0), (4, .ptr 90 0), (5, .ptr 99 0), (6, .sl 1 100 0 10), (7, .sl 5 111 0 10), (8, .sl 1 112 0 10), (9, .int .i64 (.ofNat 8))]
def ks19 : List (Nat × O) := [(35, j0), (39, j1), (46, j2), (53, j3), (59, j4), (61, j5), (68, j6), (75, j7), (81, j8), (83, j5), (84, j5), (90, j9), (92, j5), (93, j5), (94, j10), (98, j11), (99, j12), (100, j13), (111, j14), (112, j15)]
def es19 : List (Nat × V) := [(0, .bool false), (1, .ptr 39 0), (3, .ptr 46 0), (4, .ptr 90 0), (5, .ptr 99 0), (6, .sl 1 100 0 10), (7, .sl 5 111 0 10), (8, .sl 1 112 0 10), (9, .int .i64 (.ofNat 9))]
def ks20 : List (Nat × O) := [(35, j0), (39, j1), (46, j2), (53, j3), (59, j4), (61, j5), (68, j6), (75, j7), (81, j8), (83, j5), (84, j5), (90, j9), (92, j5), (93, j5), (94, j10), (98, j11), (99, j12), (100, j13), (111, j14), (112, j15)]
def es20 : List (Nat × V) := [(0, .bool false), (1, .ptr 39 0), (3, .ptr 46 0), (4, .ptr 90 0), (5, .ptr 99 0), (6, .sl 1 100 0 10), (7, .sl 5 111 0 10), (8, .sl 1 112 0 10), (9, .int .i64 (.ofNat 10))]
def ks21 : List (Nat × O) := [(35, j0), (39, j1), (46, j2), (53, j3), (59, j4), (61, j5), (68, j6), (75, j7), (81, j8), (83, j5), (84, j5), (90, j9), (92, j5), (93, j5), (94, j10), (98, j11), (99, j12), (100, j13), (111, j14), (112, j15)]
def es21 : List (Nat × V) := [(0, .bool false), (1, .ptr 39 0), (3, .ptr 46 0), (4, .ptr 90 0), (5, .ptr 99 0), (6, .sl 1 100 0 10), (7, .sl 5 111 0 10), (8, .sl 1 112 0 10), (9, .int .i64 (.ofNat 10))]
def ks22 : List (Nat × O) := [(35, j0), (39, j1), (46, j2), (53, j3), (59, j4), (61, j5), (68, j6), (75, j7), (81, j8), (83, j5), (84, j5), (90, j9), (92, j5), (93, j5), (94, j10), (98, j11), (99, j12), (100, j13), (111, j14), (112, j15), (9047, j16), (9213, j17), (9291, j18)]
def es22 : List (Nat × V) := [(0, .bool false), (1, .ptr 39 0), (3, .ptr 46 0), (4, .ptr 90 0), (5, .ptr 99 0), (6, .sl 1 100 0 10), (7, .sl 5 111 0 10), (8, .sl 1 112 0 10), (9, .int .i64 (.ofNat 10)), (13, .ptr 9291 0)]
def ks23 : List (Nat × O) := [(35, j0), (39, j1), (46, j2), (53, j3), (59, j4), (61, j5), (68, j6), (75, j7), (81, j8), (83, j5), (84, j5), (90, j9), (92, j5), (93, j5), (94, j10), (98, j11), (99, j12), (100, j13), (111, j14), (112, j15), (9047, j16), (9213, j17), (9291, j18), (9417, j19)]
def es23 : List (Nat × V) := [(0, .bool false), (1, .ptr 39 0), (3, .ptr 46 0), (4, .ptr 90 0), (5, .ptr 99 0), (6, .sl 1 100 0 10), (7, .sl 5 111 0 10), (8, .sl 1 112 0 10), (9, .int .i64 (.ofNat 10)), (13, .ptr 9291 0), (16, .sl 8 9417 0 2)]
def ks24 : List (Nat × O) := [(35, j0), (39, j1), (46, j2), (53, j3), (59, j4), (61, j5), (68, j6), (75, j7), (81, j8), (83, j5), (84, j5), (90, j9), (92, j5), (93, j5), (94, j10), (98, j11), (99, j12), (100, j13), (111, j14), (112, j15), (9047, j16), (9213, j17), (9291, j18), (9417, j19)]
def es24 : List (Nat × V) := [(0, .bool true), (1, .ptr 39 0), (3, .ptr 46 0), (4, .ptr 90 0), (5, .ptr 99 0), (6, .sl 1 100 0 10), (7, .sl 5 111 0 10), (8, .sl 1 112 0 10), (9, .int .i64 (.ofNat 10)), (13, .ptr 9291 0), (16, .sl 8 9417 0 2)]
def ksr18 : List (Nat × O) := [(35, j0), (39, j1), (46, j2), (53, j3), (59, j4), (61, j5), (68, j6), (75, j7), (81, j8), (83, j5), (84, j5), (90, j9), (92, j5), (93, j5), (94, j10), (98, j11), (99, j12), (100, j13), (111, j14), (112, j15), (6497, j20), (6837, j21), (7105, j22), (7263, j23)]
def esr18 : List (Nat × V) := [(0, .bool false), (1, .ptr 39 0), (3, .ptr 46 0), (4, .ptr 90 0), (5, .ptr 99 0), (6, .sl 1 100 0 10), (7, .sl 5 111 0 10), (8, .sl 1 112 0 10), (9, .int .i64 (.ofNat 8)), (10, .ptr 7263 0), (11, .int .i64 (.ofNat 0))]

end Go.Proofs.YthhcdmmihjhipaaGreatDoor.Cc

namespace Go.Proofs.YthhcdmmihjhipaaGreatDoor.Cc
open Go Go.RowKit

theorem stage_c {n F : Nat} {c : Code} {es es' : List (Nat × V)} {ks ks' : List (Nat × O)} {nn nn' : Nat} (h : stageB (evC P (mkTy P) ng0 call1 n F c [] (sets es .leaf) ⟨sets ks h0.t, nn⟩) es' ks' = true)
    (hk : ksOK h0.nn nn' ks' = true) (he : esOK h0.nn ks' es' = true) {B : World} {Q : Exit → Act → World → Prop}
    (next : ∀ g a w, g.base = B → g.ng = ng0 → RelAct g n [] (sets es' .leaf).get a → Sat g ⟨sets ks' h0.t, nn'⟩ w → Q .normal a w) :
    ∀ g a w, g.base = B → g.ng = ng0 → RelAct g n [] (sets es .leaf).get a → Sat g ⟨sets ks h0.t, nn⟩ w → c.wpIn (FW none) 0 P Q a w := by
  intro g a w hb hg hr hs
  obtain ⟨e, H, hev, h1, h2⟩ := stageB_spec h
  refine wpIn_mono ((evC_sound (rn := none) (r := none) (m := 0) (mkTy_ok P) mixed call1_ok call1_ext noNG F).1 c [] _ _ _ _ _ _ hev g [] a w hg rfl trivial hr hs) ?_
  rintro ex c' w' ⟨rfl, g1, ds, hle, hD, hr1, hs1⟩
  have hds : ds = [] := by
    cases ds with
    | nil => rfl
    | cons => exact hD.elim
  subst hds
  obtain ⟨g', e1, e2, hs2, hrel⟩ := cut_sat consts rfl (hle.ng.trans hg) hs1 hk h2
  refine next g' c' w' (e1.trans (hle.base.trans hb)) e2 ⟨hr1.size, hr1.defers, ⟨fun t x hx => ?_⟩⟩ hs2
  rcases get_sets _ _ _ _ hx with ⟨p, q1, rfl, rfl⟩ | q1
  · obtain ⟨v, hv, hrv⟩ := hr1.rel.at_ p.1 p.2 (h1 p q1)
    simp only [esOK, List.all_eq_true] at he
    exact ⟨v, hv, hrel _ _ hrv (he p q1)⟩
  · cases q1
def blockB : Code → Code
  | .block _ c => c
  | c => c
noncomputable def rX : Code := seqL roundC
noncomputable def rR : Code := seqL (blockB (seqL (seqR roundC)))
noncomputable def rM : Code := seqR (blockB (seqL (seqR roundC)))
noncomputable def rZ : Code := seqR (seqR roundC)
def isShape : Code → Bool
  | .seq _ (.seq (.block _ (.seq _ _)) _) => true
  | _ => false
theorem round_split {b : Code} (hb : isShape b = true) {B : World} {Q : Exit → Act → World → Prop} {n : Nat} {e0 e1 e2 e3 e4 : Nat → Option V} {H0 H1 H2 H3 H4 : Heap}
    (s1 : ∀ {Q : Exit → Act → World → Prop}, (∀ g a w, g.base = B → g.ng = ng0 → RelAct g n [] e1 a → Sat g H1 w → Q .normal a w) → ∀ g a w, g.base = B → g.ng = ng0 → RelAct g n [] e0 a → Sat g H0 w → (seqL b).wpIn (FW none) 0 P Q a w)
    (s2 : ∀ {Q : Exit → Act → World → Prop}, (∀ g a w, g.base = B → g.ng = ng0 → RelAct g n [] e2 a → Sat g H2 w → Q .normal a w) → ∀ g a w, g.base = B → g.ng = ng0 → RelAct g n [] e1 a → Sat g H1 w → (seqL (blockB (seqL (seqR b)))).wpIn (FW none) 0 P Q a w)
    (s3 : ∀ {Q : Exit → Act → World → Prop}, (∀ g a w, g.base = B → g.ng = ng0 → RelAct g n [] e3 a → Sat g H3 w → Q .normal a w) → ∀ g a w, g.base = B → g.ng = ng0 → RelAct g n [] e2 a → Sat g H2 w → (seqR (blockB (seqL (seqR b)))).wpIn (FW none) 0 P Q a w)
    (s4 : ∀ {Q : Exit → Act → World → Prop}, (∀ g a w, g.base = B → g.ng = ng0 → RelAct g n [] e4 a → Sat g H4 w → Q .normal a w) → ∀ g a w, g.base = B → g.ng = ng0 → RelAct g n [] e3 a → Sat g H3 w → (seqR (seqR b)).wpIn (FW none) 0 P Q a w)
    (next : ∀ g c w, g.base = B → g.ng = ng0 → RelAct g n [] e4 c → Sat g H4 w → LoopWP none 0 P b Q c w) :
    ∀ g c w, g.base = B → g.ng = ng0 → RelAct g n [] e0 c → Sat g H0 w → LoopWP none 0 P b Q c w := by
  intro g c w hbb hg hr hs
  refine LoopWP.go ?_
  unfold isShape at hb
  split at hb <;> first | (cases hb; done) | skip
  refine wpIn_seq (s1 (fun g a w hbb hg hr hs => ?_) g c w hbb hg hr hs)
  refine wpIn_seq (wpIn_block (wpIn_seq (s2 (fun g a w hbb hg hr hs => ?_) g a w hbb hg hr hs)))
  refine s3 (fun g a w hbb hg hr hs => ?_) g a w hbb hg hr hs
  refine s4 (fun g a w hbb hg hr hs => ?_) g a w hbb hg hr hs
  exact ⟨rfl, next g a w hbb hg hr hs⟩
theorem shapeR : isShape roundC = true := by kernel_rfl
end Go.Proofs.YthhcdmmihjhipaaGreatDoor.Cc
