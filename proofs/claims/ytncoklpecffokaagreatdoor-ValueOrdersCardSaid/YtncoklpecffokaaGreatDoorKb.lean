/-
  Calls over the constants alone: what each comes to (the kernel runs the evaluator).
-/
import Derived.Test.YtncoklpecffokaaGreatDoorKa
namespace Go.Proofs.YtncoklpecffokaaGreatDoor.Cc
open Go Go.RowKit

theorem get_t0 (m : Nat) : t0.get m = if m = 11 then some k11 else if m = 10 then some k10 else if m = 9 then some k9 else if m = 8 then some k8 else if m = 7 then some k7 else if m = 6 then some k6 else if m = 5 then some k5 else if m = 4 then some k4 else if m = 3 then some k3 else if m = 2 then some k2 else if m = 1 then some k1 else if m = 0 then some k0 else none := by
  unfold t0
  simp only [Tr.get_set]
  rfl
def below (n : Nat) (m : Nat) : Bool := Nat.blt m n
theorem within_mono {p q : Nat → Bool} (h : ∀ n, p n = true → q n = true) : (∀ x : V, x.within p = true → x.within q = true) ∧ ∀ xs : List V, V.withinL p xs = true → V.withinL q xs = true := by
  have key : ∀ k, (∀ x : V, SizeOf.sizeOf x ≤ k → x.within p = true → x.within q = true) ∧ ∀ xs : List V, SizeOf.sizeOf xs ≤ k → V.withinL p xs = true → V.withinL q xs = true := by
    intro k
    induction k with
    | zero => exact ⟨fun x hx => by cases x <;> simp at hx, fun xs hx => by cases xs <;> simp at hx⟩
    | succ k ih =>
      refine ⟨fun x hx hw => ?_, fun xs hx hw => ?_⟩
      · cases x with
        | ptr n o => exact h n hw
        | sl a n c d => exact h n hw
        | map n => exact h n hw
        | func f cs => exact ih.2 cs (by simp at hx; omega) hw
        | iface t v => exact ih.1 v (by simp at hx; omega) hw
        | agg cs => exact ih.2 cs (by simp at hx; omega) hw
        | tuple cs => exact ih.2 cs (by simp at hx; omega) hw
        | _ => rfl
      · cases xs with
        | nil => rfl
        | cons x xs =>
          simp only [V.withinL, Bool.and_eq_true] at hw ⊢
          exact ⟨ih.1 x (by simp at hx; omega) hw.1, ih.2 xs (by simp at hx; omega) hw.2⟩
  exact ⟨fun x => (key _).1 x (Nat.le_refl _), fun xs => (key _).2 xs (Nat.le_refl _)⟩
theorem con_at (m : Nat) : ng0.con m = t0.get m := rfl
set_option maxRecDepth 100000
theorem w0 : O.within (fun _ => false) k0 = true := by kernel_rfl
theorem w1 : O.within (fun _ => false) k1 = true := by kernel_rfl
theorem w2 : O.within (fun _ => false) k2 = true := by kernel_rfl
theorem w3 : O.within (fun _ => false) k3 = true := by kernel_rfl
theorem w4 : O.within (fun _ => false) k4 = true := by kernel_rfl
theorem w5 : O.within (fun _ => false) k5 = true := by kernel_rfl
theorem w6 : O.within (fun _ => false) k6 = true := by kernel_rfl
theorem w7 : O.within (fun _ => false) k7 = true := by kernel_rfl
theorem w8 : O.within (fun _ => false) k8 = true := by kernel_rfl
theorem w9 : O.within (fun _ => false) k9 = true := by kernel_rfl
theorem w10 : O.within (fun _ => false) k10 = true := by kernel_rfl
theorem w11 : O.within (fun _ => false) k11 = true := by kernel_rfl
theorem con_some {m : Nat} {x : O} (h : ng0.con m = some x) : O.within (fun _ => false) x = true := by
  rw [con_at, get_t0] at h
  by_cases e11 : m = 11
  · rw [if_pos e11] at h; rw [← Option.some.inj h]; exact w11
  rw [if_neg e11] at h
  by_cases e10 : m = 10
  · rw [if_pos e10] at h; rw [← Option.some.inj h]; exact w10
  rw [if_neg e10] at h
  by_cases e9 : m = 9
  · rw [if_pos e9] at h; rw [← Option.some.inj h]; exact w9
  rw [if_neg e9] at h
  by_cases e8 : m = 8
  · rw [if_pos e8] at h; rw [← Option.some.inj h]; exact w8
  rw [if_neg e8] at h
  by_cases e7 : m = 7
  · rw [if_pos e7] at h; rw [← Option.some.inj h]; exact w7
  rw [if_neg e7] at h
  by_cases e6 : m = 6
  · rw [if_pos e6] at h; rw [← Option.some.inj h]; exact w6
  rw [if_neg e6] at h
  by_cases e5 : m = 5
  · rw [if_pos e5] at h; rw [← Option.some.inj h]; exact w5
  rw [if_neg e5] at h
  by_cases e4 : m = 4
  · rw [if_pos e4] at h; rw [← Option.some.inj h]; exact w4
  rw [if_neg e4] at h
  by_cases e3 : m = 3
  · rw [if_pos e3] at h; rw [← Option.some.inj h]; exact w3
  rw [if_neg e3] at h
  by_cases e2 : m = 2
  · rw [if_pos e2] at h; rw [← Option.some.inj h]; exact w2
  rw [if_neg e2] at h
  by_cases e1 : m = 1
  · rw [if_pos e1] at h; rw [← Option.some.inj h]; exact w1
  rw [if_neg e1] at h
  by_cases e0 : m = 0
  · rw [if_pos e0] at h; rw [← Option.some.inj h]; exact w0
  rw [if_neg e0] at h
  cases h
theorem consts : Consts ng0 h0 where
  con m := rfl
  top m hm := by
    have hm : 12 ≤ m := hm
    show t0.get m = none
    rw [get_t0]
    repeat rw [if_neg (by omega)]
  has b hb := by
    have hb : b < 12 := hb
    rw [con_at, get_t0]
    have : b = 0 ∨ b = 1 ∨ b = 2 ∨ b = 3 ∨ b = 4 ∨ b = 5 ∨ b = 6 ∨ b = 7 ∨ b = 8 ∨ b = 9 ∨ b = 10 ∨ b = 11 := by omega
    rcases this with rfl | rfl | rfl | rfl | rfl | rfl | rfl | rfl | rfl | rfl | rfl | rfl <;> exact ⟨_, rfl⟩
  inn m x hx := by
    have := con_some hx
    cases x with
    | cells T cs ex ro => exact (within_mono (fun _ h => by cases h)).2 cs this
    | map es => exact this
    | iter s p => rfl
    | gone => rfl
/-- The value of a run. -/
noncomputable def comes (r : Option (V × Heap)) (x : V) : Bool := match r with | some (v, _) => V.beq v x | none => false
theorem comes_spec {r : Option (V × Heap)} {x : V} (h : comes r x = true) : ∃ H, r = some (x, H) := by
  unfold comes at h
  split at h
  · rename_i v H
    exact ⟨H, by rw [V.beq_eq _ h]⟩
  · cases h
theorem pure_of {l : List (Handler P ng0)} {n : Nat} {f : FuncId} {xs : List V} {r : V} (h : comes (evF P (mkTy P) ng0 (isH l) (modH l) n f xs h0) r = true) (hx : V.withinL (fun _ => false) xs = true) (hr : r.within (fun _ => false) = true) : ∀ H, OCall P ng0 f xs H r H := by
  obtain ⟨H', h⟩ := comes_spec h
  exact pure_call consts (evF_sound mixed noNG (modH_ok l) (modH_ext l) n f xs h0 r H' h) ((within_mono (fun _ h => by cases h)).2 xs hx) ((within_mono (fun _ h => by cases h)).1 r hr)

def num (b : Nat) : V := .agg [.int .i64 1, .int .u64 (.ofNat b), .bool false, .str [], .int .i64 0]
def fail (n : Nat) : V := .agg [.int .i64 4, .int .u64 (.ofNat 0), .bool false, .str [], .int .i64 (.ofNat n)]
def u (b : Nat) : V := .int .u64 (.ofNat b)

end Go.Proofs.YtncoklpecffokaaGreatDoor.Cc
