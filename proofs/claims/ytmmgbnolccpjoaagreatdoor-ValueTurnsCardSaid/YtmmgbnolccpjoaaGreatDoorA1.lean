import Derived.Test.YtmmgbnolccpjoaaGreatDoorV4
namespace Go.Proofs.YtmmgbnolccpjoaaGreatDoor
open Go.Proofs.Tryz
open Go Go.RowKit

variable {x : Nat} {v : Val}
theorem bnW (hx : x < 18446744073709551616) (h : zV x = 0) : x = 0 ∨ x = 9223372036854775808 := by
 unfold zV at h
 split at h
 ·split at h <;> omega
 split at h
 ·split at h
  ·omega
  omega
 omega

def awN (x : Nat) : Int := if 9223372036854775808 ≤ x then -((x : Int) - 9223372036854775808) else (x : Int)
def bvY (a b : Nat) : Int := if zV a = 4 ∨ zV b = 4 then 0 else if awN a < awN b then -1 else if awN b < awN a then 1 else 0
theorem bqB (hx : x < 18446744073709551616) (h : zV x ≠ 4) : alU x = awN x := by
 unfold alU awN
 by_cases q : 9223372036854775808 ≤ x
 ·rw [aN q, aN q, aL h]; omega
 rw [aL q, aL q]
theorem cdV {a b : Nat} (ha : a < 18446744073709551616) (hb : b < 18446744073709551616) : axW a b = bvY a b := by
 unfold axW bvY
 by_cases h : zV a = 4 ∨ zV b = 4
 ·rw [aN h, aN h]
 rw [aL h, aL h, bqB ha (fun q => h (.inl q)), bqB hb (fun q => h (.inr q))]
theorem boY (hx : x < 18446744073709551616) (h : zV x < 3) : akD x = 0 ↔ zV x = 0 := by
 have k0 : zV 0 = 0 := by decide
 have e : akD x = bvY x 0 := cdV hx aC
 have r0 : awN 0 = 0 := rfl
 rw [e]
 unfold bvY
 rw [k0, r0, aI]
 have hr : awN x = 0 ↔ (x = 0 ∨ x = 9223372036854775808) := by unfold awN; split <;> omega
 have hz : zV x = 0 ↔ (x = 0 ∨ x = 9223372036854775808) := ⟨bnW hx, fun q => by rcases q with rfl | rfl <;> decide⟩
 rw [hz, ← hr]
 constructor
 ·intro q
  split at q
  ·omega
  split at q <;> omega
 intro q
 rw [q]; rfl
def agK (l : Loc) (v : Val) : Nat × Int :=
 if v.kind = 1 then (v.bits, 0) else if v.kind = 2 ∧ v.is = true then (cfW, 0)
 else if v.kind = 3 then (if (abU l (aaI zQ v.text)).2 ≠ 0 then (0, 3) else ((abU l (aaI zQ v.text)).1.bits, 0)) else if v.kind = 4 then (0, v.fail) else (0, 0)
def adI (v : Val) : Bool × Int :=
 if v.kind = 1 then (decide (zV v.bits ≠ 0), 0) else if v.kind = 2 then (v.is, 0)
 else if v.kind = 3 then (if aoK v.text ≠ agH true ∧ aoK v.text ≠ agH false then (false, 3) else (decide (aoK v.text = agH true), 0)) else if v.kind = 4 then (false, v.fail) else (false, 0)
def aeO (l : Loc) (v : Val) : List UInt8 × Int :=
 if v.kind = 1 then (bmE l (apT v.bits 15), 0) else if v.kind = 2 then (agH v.is, 0) else if v.kind = 3 then (v.text, 0) else if v.kind = 4 then ([], v.fail) else ([], 0)
theorem buW {l : Loc} (h : agG v = true) : qV l v = agK l v := by
 rcases afI h with h | ⟨_, h⟩ | h | ⟨_, h⟩ | ⟨_, h⟩
 ·rw [h]; rfl
 ·rw [h]; rfl
 ·rw [h]; cases v.is <;> rfl
 ·rw [h]; rfl
 rw [h]; rfl
theorem boH {l : Loc} (h : agG v = true) : abB l v = aeO l v := by
 rcases afI h with h | ⟨_, h⟩ | h | ⟨_, h⟩ | ⟨_, h⟩ <;> rw [h] <;> rfl
theorem boI (hv : v.bits < 18446744073709551616) (h : agG v = true) : aaV v = adI v := by
 rcases afI h with h | ⟨hk, h⟩ | h | ⟨_, h⟩ | ⟨_, h⟩
 ·rw [h]; rfl
 ·have e1 : aaV v = (decide (akD v.bits ≠ 0), 0) := aN (by rw [h])
  have e2 : adI v = (decide (zV v.bits ≠ 0), 0) := aN (by rw [h])
  rw [e1, e2]
  congr 1
  exact aY.2 (not_congr (boY hv hk))
 ·rw [h]; rfl
 ·rw [h]
  have e1 : aaV ⟨3, 0, false, v.text, 0⟩ = if aoK v.text = agH true then (true, 0) else if aoK v.text = agH false then (false, 0) else (false, 3) := rfl
  have e2 : adI ⟨3, 0, false, v.text, 0⟩ = if aoK v.text ≠ agH true ∧ aoK v.text ≠ agH false then (false, 3) else (decide (aoK v.text = agH true), 0) := rfl
  rw [e1, e2]
  by_cases q1 : aoK v.text = agH true
  ·rw [aN q1, aL (fun r => r.1 q1), bG q1]
  rw [aL q1]
  by_cases q2 : aoK v.text = agH false
  ·rw [aN q2, aL (fun r => r.2 q2), bD q1]
  rw [aL q2, aN ⟨q1, q2⟩]
 rw [h]; rfl
end Go.Proofs.YtmmgbnolccpjoaaGreatDoor
