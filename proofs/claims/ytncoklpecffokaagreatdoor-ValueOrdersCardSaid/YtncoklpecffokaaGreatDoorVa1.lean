/-
  The small functions: kinds of numbers, names of errors.
-/
import Derived.Test.YtncoklpecffokaaGreatDoorSi
import Derived.Test.YtncoklpecffokaaGreatDoorSj
import Derived.Test.YtncoklpecffokaaGreatDoorSn
import Derived.Test.YtncoklpecffokaaGreatDoorSt
import Derived.Test.YtncoklpecffokaaGreatDoorProg
namespace Go.Proofs.YtncoklpecffokaaGreatDoor
open Go Go.RowKit

def Exp (x : Int) : Int := x / 4503599627370496 % 2048
def Frac (x : Int) : Int := x % 4503599627370496
def KindF (x : Int) : Int := if Exp x = 2047 ∧ Frac x ≠ 0 then 4 else if Exp x = 2047 then 3 else if 0 < Exp x then 2 else if 0 < Frac x then 1 else 0
structure Val where
  kind : Int
  bits : Int
  is : Bool
  text : List UInt8
  fail : Int
def Val.cs (v : Val) : List AV := [.int .i64 v.kind, .int .u64 v.bits, .bool v.is, .str v.text, .int .i64 v.fail]
def Val.av (v : Val) : AV := .agg v.cs
def FailV (n : Int) : Val := ⟨4, 0, false, [], n⟩
def BoolV (b : Bool) : Val := ⟨2, 0, b, [], 0⟩
def NumV (x : Int) : Val := if 3 ≤ KindF x then FailV 6 else ⟨1, x, false, [], 0⟩
def TextV (s : List UInt8) : Val := if 1000 < s.length then FailV 3 else ⟨3, 0, false, s, 0⟩
def FailName (n : Int) : List UInt8 := if n = 1 then [35, 78, 85, 76, 76, 33] else if n = 2 then [35, 68, 73, 86, 47, 48, 33] else if n = 3 then [35, 86, 65, 76, 85, 69, 33] else if n = 4 then [35, 82, 69, 70, 33] else if n = 5 then [35, 78, 65, 77, 69, 63] else if n = 6 then [35, 78, 85, 77, 33] else if n = 7 then [35, 78, 47, 65] else if n = 8 then [35, 67, 89, 67, 76, 69, 33] else []
theorem exp_eq {x : Int} (h0 : 0 ≤ x) (h1 : x < 18446744073709551616) : iand (x.fdiv (2 ^ (min (52 : Int).toNat IntKind.u64.bits))) 2047 = Exp x := by
  have e : x.fdiv (2 ^ (min (52 : Int).toNat IntKind.u64.bits)) = x / (2 ^ 52 : Nat) := shr_of x 52
  rw [e]
  have h := iand_low (x / (2 ^ 52 : Nat)) 11 (by decide) (by omega) (by omega)
  have e2 : ((2 ^ 11 : Nat) : Int) - 1 = 2047 := by decide
  rw [e2] at h
  rw [h]
  rfl
theorem frac_eq {x : Int} (h0 : 0 ≤ x) (h1 : x < 18446744073709551616) : iand x 4503599627370495 = Frac x := by
  have h := iand_low x 52 (by decide) h0 h1
  have e2 : ((2 ^ 52 : Nat) : Int) - 1 = 4503599627370495 := by decide
  rw [e2] at h
  rw [h]
  rfl
theorem frac_pos (x : Int) : 0 ≤ Frac x := by unfold Frac; omega
theorem exp_pos (x : Int) : 0 ≤ Exp x := by unfold Exp; omega

set_option maxRecDepth 100000 in
theorem Kind_calls (x : Int) (h0 : 0 ≤ x) (h1 : x < 18446744073709551616) (H : Heap) : ACall Tryz.prog 28 [.int .u64 x] H (fun y H' => y = .int .i64 (KindF x) ∧ H' = H) := by
  have e1 := exp_eq h0 h1
  have e2 := frac_eq h0 h1
  have q1 := frac_pos x
  have q2 := exp_pos x
  refine ACall.of_body Tryz.func28 rfl Tryz.ntmps28 Tryz.results28 rfl ?_
  refine AWP.seq ?_
  -- region 0
  refine AWP.region ?_
  refine AList.p rfl (pure_assign ev_int) ?_
  refine AList.nil ?_
  refine Next.go ?_
  refine AWP.seq ?_
  refine AWP.seq ?_
  -- region 1
  refine AWP.region ?_
  refine AList.p rfl (pure_move (.tmp _ _ rfl)) ?_
  refine AList.p rfl (pure_shr (.tmp _ _ rfl) ev_int (by decide)) ?_
  refine AList.p rfl (pure_and (.tmp _ _ rfl) ev_int) ?_
  refine AList.p rfl (pure_move (.tmp _ _ rfl)) ?_
  refine AList.p rfl (pure_and (.tmp _ _ rfl) ev_int) ?_
  refine AList.p rfl (pure_assign (.tmp _ _ rfl)) ?_
  refine AList.p rfl (pure_assign (.tmp _ _ rfl)) ?_
  refine AList.nil ?_
  refine Next.go ?_
  refine AWP.block ?_
  refine AWP.seq ?_
  -- region 2
  refine AWP.region ?_
  refine AList.p rfl (pure_move (.tmp _ _ rfl)) ?_
  refine AList.p rfl (pure_eql (.tmp _ _ rfl) ev_int) ?_
  refine AList.p rfl (pure_move (.tmp _ _ rfl)) ?_
  -- the guard in slot 13
  refine bool_casesL (t := 13) rfl (fun hg13 => ?_) (fun hg13 => ?_)
  · refine AList.gp rfl rfl rfl (by first | rfl | assumption) (pure_move (.tmp _ _ rfl)) ?_
    refine AList.gp rfl rfl rfl (by first | rfl | assumption) (pure_neq (.tmp _ _ rfl) ev_int) ?_
    refine AList.p rfl (pure_pickT (.tmp _ _ rfl) (by first | rfl | assumption) (.tmp _ _ rfl)) ?_
    refine AList.p rfl (pure_assign (.tmp _ _ rfl)) ?_
    refine AList.nil ?_
    refine Next.go ?_
    -- c0
    refine AWP.cond (.tmp _ _ rfl) (fun hc10 => ?_) (fun hc10 => ?_)
    · try simp only [decide_eq_true_eq, ne_eq] at hc10
      refine AWP.seq ?_
      -- region 3
      refine AWP.region ?_
      refine AList.p rfl (pure_assign ev_int) ?_
      refine AList.nil ?_
      refine Next.go ?_
      refine AWP.ret ?_
      refine Block.rt ?_
      refine Next.rt ?_
      -- ret 0
      refine Ret.go (.cons (.tmp _ _ rfl) .nil) _ (Heap.le.refl _) ?_
      refine ⟨?_, rfl⟩
      simp only [e1, e2] at *
      clear e1 e2
      simp only [packed, KindF]
      simp_all
      try omega
    · try simp only [decide_eq_false_iff_not, ne_eq, Decidable.not_not] at hc10
      refine AWP.seq ?_
      -- region 4
      refine AWP.region ?_
      refine AList.p rfl (pure_move (.tmp _ _ rfl)) ?_
      refine AList.p rfl (pure_eql (.tmp _ _ rfl) ev_int) ?_
      refine AList.p rfl (pure_assign (.tmp _ _ rfl)) ?_
      refine AList.nil ?_
      refine Next.go ?_
      -- c1
      refine AWP.cond (.tmp _ _ rfl) (fun hc17 => ?_) (fun hc17 => ?_)
      · try simp only [decide_eq_true_eq] at hc17
        refine AWP.seq ?_
        -- region 5
        refine AWP.region ?_
        refine AList.p rfl (pure_assign ev_int) ?_
        refine AList.nil ?_
        refine Next.go ?_
        refine AWP.ret ?_
        refine Block.rt ?_
        refine Next.rt ?_
        -- ret 1
        refine Ret.go (.cons (.tmp _ _ rfl) .nil) _ (Heap.le.refl _) ?_
        refine ⟨?_, rfl⟩
        simp only [e1, e2] at *
        clear e1 e2
        simp only [packed, KindF]
        simp_all
        try omega
      · try simp only [decide_eq_false_iff_not] at hc17
        refine AWP.seq ?_
        -- region 6
        refine AWP.region ?_
        refine AList.p rfl (pure_move (.tmp _ _ rfl)) ?_
        refine AList.p rfl (pure_gtr (.tmp _ _ rfl) ev_int) ?_
        refine AList.p rfl (pure_assign (.tmp _ _ rfl)) ?_
        refine AList.nil ?_
        refine Next.go ?_
        -- c2
        refine AWP.cond (.tmp _ _ rfl) (fun hc20 => ?_) (fun hc20 => ?_)
        · try simp only [decide_eq_true_eq] at hc20
          refine AWP.seq ?_
          -- region 7
          refine AWP.region ?_
          refine AList.p rfl (pure_assign ev_int) ?_
          refine AList.nil ?_
          refine Next.go ?_
          refine AWP.ret ?_
          refine Block.rt ?_
          refine Next.rt ?_
          -- ret 2
          refine Ret.go (.cons (.tmp _ _ rfl) .nil) _ (Heap.le.refl _) ?_
          refine ⟨?_, rfl⟩
          simp only [e1, e2] at *
          clear e1 e2
          simp only [packed, KindF]
          simp_all
          try omega
        · try simp only [decide_eq_false_iff_not, Int.not_lt] at hc20
          refine AWP.seq ?_
          -- region 8
          refine AWP.region ?_
          refine AList.p rfl (pure_move (.tmp _ _ rfl)) ?_
          refine AList.p rfl (pure_gtr (.tmp _ _ rfl) ev_int) ?_
          refine AList.p rfl (pure_assign (.tmp _ _ rfl)) ?_
          refine AList.nil ?_
          refine Next.go ?_
          -- c3
          refine AWP.cond (.tmp _ _ rfl) (fun hc23 => ?_) (fun hc23 => ?_)
          · try simp only [decide_eq_true_eq] at hc23
            refine AWP.seq ?_
            -- region 9
            refine AWP.region ?_
            refine AList.p rfl (pure_assign ev_int) ?_
            refine AList.nil ?_
            refine Next.go ?_
            refine AWP.ret ?_
            refine Block.rt ?_
            refine Next.rt ?_
            -- ret 3
            refine Ret.go (.cons (.tmp _ _ rfl) .nil) _ (Heap.le.refl _) ?_
            refine ⟨?_, rfl⟩
            simp only [e1, e2] at *
            clear e1 e2
            simp only [packed, KindF]
            simp_all
            try omega
          · try simp only [decide_eq_false_iff_not, Int.not_lt] at hc23
            refine AWP.skip ?_
            refine Block.go ?_
            refine Next.go ?_
            refine AWP.seq ?_
            -- region 10
            refine AWP.region ?_
            refine AList.p rfl (pure_assign ev_int) ?_
            refine AList.nil ?_
            refine Next.go ?_
            refine AWP.ret ?_
            -- ret 4
            refine Ret.go (.cons (.tmp _ _ rfl) .nil) _ (Heap.le.refl _) ?_
            refine ⟨?_, rfl⟩
            simp only [e1, e2] at *
            clear e1 e2
            simp only [packed, KindF]
            simp_all
            try omega
  · refine AList.gn rfl rfl rfl (by first | rfl | assumption) ?_
    refine AList.gn rfl rfl rfl (by first | rfl | assumption) ?_
    refine AList.p rfl (pure_pickF (.tmp _ _ rfl) (by first | rfl | assumption) ev_bool) ?_
    refine AList.p rfl (pure_assign (.tmp _ _ rfl)) ?_
    refine AList.nil ?_
    refine Next.go ?_
    -- c0
    refine AWP.cond_false (.tmp _ _ rfl) (by first | rfl | assumption) ?_
    refine AWP.seq ?_
    -- region 4
    refine AWP.region ?_
    refine AList.p rfl (pure_move (.tmp _ _ rfl)) ?_
    refine AList.p rfl (pure_eql (.tmp _ _ rfl) ev_int) ?_
    refine AList.p rfl (pure_assign (.tmp _ _ rfl)) ?_
    refine AList.nil ?_
    refine Next.go ?_
    -- c1
    refine AWP.cond (.tmp _ _ rfl) (fun hc17 => ?_) (fun hc17 => ?_)
    · try simp only [decide_eq_true_eq] at hc17
      refine AWP.seq ?_
      -- region 5
      refine AWP.region ?_
      refine AList.p rfl (pure_assign ev_int) ?_
      refine AList.nil ?_
      refine Next.go ?_
      refine AWP.ret ?_
      refine Block.rt ?_
      refine Next.rt ?_
      -- ret 5
      refine Ret.go (.cons (.tmp _ _ rfl) .nil) _ (Heap.le.refl _) ?_
      refine ⟨?_, rfl⟩
      simp only [e1, e2] at *
      clear e1 e2
      simp only [packed, KindF]
      simp_all
      try omega
    · try simp only [decide_eq_false_iff_not] at hc17
      refine AWP.seq ?_
      -- region 6
      refine AWP.region ?_
      refine AList.p rfl (pure_move (.tmp _ _ rfl)) ?_
      refine AList.p rfl (pure_gtr (.tmp _ _ rfl) ev_int) ?_
      refine AList.p rfl (pure_assign (.tmp _ _ rfl)) ?_
      refine AList.nil ?_
      refine Next.go ?_
      -- c2
      refine AWP.cond (.tmp _ _ rfl) (fun hc20 => ?_) (fun hc20 => ?_)
      · try simp only [decide_eq_true_eq] at hc20
        refine AWP.seq ?_
        -- region 7
        refine AWP.region ?_
        refine AList.p rfl (pure_assign ev_int) ?_
        refine AList.nil ?_
        refine Next.go ?_
        refine AWP.ret ?_
        refine Block.rt ?_
        refine Next.rt ?_
        -- ret 6
        refine Ret.go (.cons (.tmp _ _ rfl) .nil) _ (Heap.le.refl _) ?_
        refine ⟨?_, rfl⟩
        simp only [e1, e2] at *
        clear e1 e2
        simp only [packed, KindF]
        simp_all
        try omega
      · try simp only [decide_eq_false_iff_not, Int.not_lt] at hc20
        refine AWP.seq ?_
        -- region 8
        refine AWP.region ?_
        refine AList.p rfl (pure_move (.tmp _ _ rfl)) ?_
        refine AList.p rfl (pure_gtr (.tmp _ _ rfl) ev_int) ?_
        refine AList.p rfl (pure_assign (.tmp _ _ rfl)) ?_
        refine AList.nil ?_
        refine Next.go ?_
        -- c3
        refine AWP.cond (.tmp _ _ rfl) (fun hc23 => ?_) (fun hc23 => ?_)
        · try simp only [decide_eq_true_eq] at hc23
          refine AWP.seq ?_
          -- region 9
          refine AWP.region ?_
          refine AList.p rfl (pure_assign ev_int) ?_
          refine AList.nil ?_
          refine Next.go ?_
          refine AWP.ret ?_
          refine Block.rt ?_
          refine Next.rt ?_
          -- ret 7
          refine Ret.go (.cons (.tmp _ _ rfl) .nil) _ (Heap.le.refl _) ?_
          refine ⟨?_, rfl⟩
          simp only [e1, e2] at *
          clear e1 e2
          simp only [packed, KindF]
          simp_all
          try omega
        · try simp only [decide_eq_false_iff_not, Int.not_lt] at hc23
          refine AWP.skip ?_
          refine Block.go ?_
          refine Next.go ?_
          refine AWP.seq ?_
          -- region 10
          refine AWP.region ?_
          refine AList.p rfl (pure_assign ev_int) ?_
          refine AList.nil ?_
          refine Next.go ?_
          refine AWP.ret ?_
          -- ret 8
          refine Ret.go (.cons (.tmp _ _ rfl) .nil) _ (Heap.le.refl _) ?_
          refine ⟨?_, rfl⟩
          simp only [e1, e2] at *
          clear e1 e2
          simp only [packed, KindF]
          simp_all
          try omega

set_option maxRecDepth 100000 in
theorem refKind_calls (x : Int) (h0 : 0 ≤ x) (h1 : x < 18446744073709551616) (H : Heap) : ACall Tryz.prog 27 [.int .u64 x] H (fun y H' => y = .int .i64 (KindF x) ∧ H' = H) := by
  have e1 : (x.fdiv (2 ^ (min (52 : Int).toNat IntKind.u64.bits))).tmod 2048 = Exp x := by
    have e : x.fdiv (2 ^ (min (52 : Int).toNat IntKind.u64.bits)) = x / (2 ^ 52 : Nat) := shr_of x 52
    rw [e, Int.tmod_eq_emod_of_nonneg (by omega)]
    rfl
  have e2 : x.tmod 4503599627370496 = Frac x := Int.tmod_eq_emod_of_nonneg h0
  have q1 := frac_pos x
  have q2 := exp_pos x
  refine ACall.of_body Tryz.func27 rfl Tryz.ntmps27 Tryz.results27 rfl ?_
  refine AWP.seq ?_
  -- region 0
  refine AWP.region ?_
  refine AList.p rfl (pure_assign ev_int) ?_
  refine AList.nil ?_
  refine Next.go ?_
  refine AWP.seq ?_
  -- region 1
  refine AWP.region ?_
  refine AList.p rfl (pure_move (.tmp _ _ rfl)) ?_
  refine AList.p rfl (pure_shr (.tmp _ _ rfl) ev_int (by decide)) ?_
  refine AList.p rfl (pure_rem (.tmp _ _ rfl) ev_int (by omega)) ?_
  refine AList.p rfl (pure_assign (.tmp _ _ rfl)) ?_
  refine AList.nil ?_
  refine Next.go ?_
  refine AWP.seq ?_
  -- region 2
  refine AWP.region ?_
  refine AList.p rfl (pure_move (.tmp _ _ rfl)) ?_
  refine AList.p rfl (pure_rem (.tmp _ _ rfl) ev_int (by omega)) ?_
  refine AList.p rfl (pure_assign (.tmp _ _ rfl)) ?_
  refine AList.nil ?_
  refine Next.go ?_
  refine AWP.seq ?_
  refine AWP.block ?_
  refine AWP.seq ?_
  -- region 3
  refine AWP.region ?_
  refine AList.p rfl (pure_move (.tmp _ _ rfl)) ?_
  refine AList.p rfl (pure_eql (.tmp _ _ rfl) ev_int) ?_
  refine AList.p rfl (pure_move (.tmp _ _ rfl)) ?_
  -- the guard in slot 13
  refine bool_casesL (t := 13) rfl (fun hg13 => ?_) (fun hg13 => ?_)
  · refine AList.gp rfl rfl rfl (by first | rfl | assumption) (pure_move (.tmp _ _ rfl)) ?_
    refine AList.gp rfl rfl rfl (by first | rfl | assumption) (pure_eql (.tmp _ _ rfl) ev_int) ?_
    refine AList.p rfl (pure_pickT (.tmp _ _ rfl) (by first | rfl | assumption) (.tmp _ _ rfl)) ?_
    refine AList.p rfl (pure_assign (.tmp _ _ rfl)) ?_
    refine AList.nil ?_
    refine Next.go ?_
    -- c0
    refine AWP.cond (.tmp _ _ rfl) (fun hc10 => ?_) (fun hc10 => ?_)
    · try simp only [decide_eq_true_eq] at hc10
      refine AWP.seq ?_
      -- region 4
      refine AWP.region ?_
      refine AList.p rfl (pure_assign ev_int) ?_
      refine AList.nil ?_
      refine Next.go ?_
      refine AWP.ret ?_
      refine Block.rt ?_
      refine Next.rt ?_
      -- ret 0
      refine Ret.go (.cons (.tmp _ _ rfl) .nil) _ (Heap.le.refl _) ?_
      refine ⟨?_, rfl⟩
      simp only [e1, e2] at *
      clear e1 e2
      simp only [packed, KindF]
      simp_all
      try omega
    · try simp only [decide_eq_false_iff_not] at hc10
      refine AWP.seq ?_
      -- region 5
      refine AWP.region ?_
      refine AList.p rfl (pure_move (.tmp _ _ rfl)) ?_
      refine AList.p rfl (pure_eql (.tmp _ _ rfl) ev_int) ?_
      refine AList.p rfl (pure_assign (.tmp _ _ rfl)) ?_
      refine AList.nil ?_
      refine Next.go ?_
      -- c1
      refine AWP.cond (.tmp _ _ rfl) (fun hc17 => ?_) (fun hc17 => ?_)
      · try simp only [decide_eq_true_eq] at hc17
        refine AWP.seq ?_
        -- region 6
        refine AWP.region ?_
        refine AList.p rfl (pure_assign ev_int) ?_
        refine AList.nil ?_
        refine Next.go ?_
        refine AWP.ret ?_
        refine Block.rt ?_
        refine Next.rt ?_
        -- ret 1
        refine Ret.go (.cons (.tmp _ _ rfl) .nil) _ (Heap.le.refl _) ?_
        refine ⟨?_, rfl⟩
        simp only [e1, e2] at *
        clear e1 e2
        simp only [packed, KindF]
        simp_all
        try omega
      · try simp only [decide_eq_false_iff_not] at hc17
        refine AWP.seq ?_
        -- region 7
        refine AWP.region ?_
        refine AList.p rfl (pure_move (.tmp _ _ rfl)) ?_
        refine AList.p rfl (pure_eql (.tmp _ _ rfl) ev_int) ?_
        refine AList.p rfl (pure_move (.tmp _ _ rfl)) ?_
        -- the guard in slot 23
        refine bool_casesL (t := 23) rfl (fun hg23 => ?_) (fun hg23 => ?_)
        · refine AList.gp rfl rfl rfl (by first | rfl | assumption) (pure_move (.tmp _ _ rfl)) ?_
          refine AList.gp rfl rfl rfl (by first | rfl | assumption) (pure_eql (.tmp _ _ rfl) ev_int) ?_
          refine AList.p rfl (pure_pickT (.tmp _ _ rfl) (by first | rfl | assumption) (.tmp _ _ rfl)) ?_
          refine AList.p rfl (pure_assign (.tmp _ _ rfl)) ?_
          refine AList.nil ?_
          refine Next.go ?_
          -- c2
          refine AWP.cond (.tmp _ _ rfl) (fun hc20 => ?_) (fun hc20 => ?_)
          · try simp only [decide_eq_true_eq] at hc20
            refine AWP.seq ?_
            -- region 8
            refine AWP.region ?_
            refine AList.p rfl (pure_assign ev_int) ?_
            refine AList.nil ?_
            refine Next.go ?_
            refine AWP.ret ?_
            refine Block.rt ?_
            refine Next.rt ?_
            -- ret 2
            refine Ret.go (.cons (.tmp _ _ rfl) .nil) _ (Heap.le.refl _) ?_
            refine ⟨?_, rfl⟩
            simp only [e1, e2] at *
            clear e1 e2
            simp only [packed, KindF]
            simp_all
            try omega
          · try simp only [decide_eq_false_iff_not] at hc20
            refine AWP.seq ?_
            -- region 9
            refine AWP.region ?_
            refine AList.p rfl (pure_move (.tmp _ _ rfl)) ?_
            refine AList.p rfl (pure_eql (.tmp _ _ rfl) ev_int) ?_
            refine AList.p rfl (pure_assign (.tmp _ _ rfl)) ?_
            refine AList.nil ?_
            refine Next.go ?_
            -- c3
            refine AWP.cond (.tmp _ _ rfl) (fun hc27 => ?_) (fun hc27 => ?_)
            · try simp only [decide_eq_true_eq] at hc27
              refine AWP.seq ?_
              -- region 10
              refine AWP.region ?_
              refine AList.p rfl (pure_assign ev_int) ?_
              refine AList.nil ?_
              refine Next.go ?_
              refine AWP.ret ?_
              refine Block.rt ?_
              refine Next.rt ?_
              -- ret 3
              refine Ret.go (.cons (.tmp _ _ rfl) .nil) _ (Heap.le.refl _) ?_
              refine ⟨?_, rfl⟩
              simp only [e1, e2] at *
              clear e1 e2
              simp only [packed, KindF]
              simp_all
              try omega
            · try simp only [decide_eq_false_iff_not] at hc27
              refine AWP.skip ?_
              refine Block.go ?_
              refine Next.go ?_
              refine AWP.seq ?_
              -- region 11
              refine AWP.region ?_
              refine AList.p rfl (pure_assign ev_int) ?_
              refine AList.nil ?_
              refine Next.go ?_
              refine AWP.ret ?_
              -- ret 4
              refine Ret.go (.cons (.tmp _ _ rfl) .nil) _ (Heap.le.refl _) ?_
              refine ⟨?_, rfl⟩
              simp only [e1, e2] at *
              clear e1 e2
              simp only [packed, KindF]
              simp_all
              try omega
        · refine AList.gn rfl rfl rfl (by first | rfl | assumption) ?_
          refine AList.gn rfl rfl rfl (by first | rfl | assumption) ?_
          refine AList.p rfl (pure_pickF (.tmp _ _ rfl) (by first | rfl | assumption) ev_bool) ?_
          refine AList.p rfl (pure_assign (.tmp _ _ rfl)) ?_
          refine AList.nil ?_
          refine Next.go ?_
          -- c2
          refine AWP.cond_false (.tmp _ _ rfl) (by first | rfl | assumption) ?_
          refine AWP.seq ?_
          -- region 9
          refine AWP.region ?_
          refine AList.p rfl (pure_move (.tmp _ _ rfl)) ?_
          refine AList.p rfl (pure_eql (.tmp _ _ rfl) ev_int) ?_
          refine AList.p rfl (pure_assign (.tmp _ _ rfl)) ?_
          refine AList.nil ?_
          refine Next.go ?_
          -- c3
          refine AWP.cond (.tmp _ _ rfl) (fun hc27 => ?_) (fun hc27 => ?_)
          · try simp only [decide_eq_true_eq] at hc27
            refine AWP.seq ?_
            -- region 10
            refine AWP.region ?_
            refine AList.p rfl (pure_assign ev_int) ?_
            refine AList.nil ?_
            refine Next.go ?_
            refine AWP.ret ?_
            refine Block.rt ?_
            refine Next.rt ?_
            -- ret 5
            refine Ret.go (.cons (.tmp _ _ rfl) .nil) _ (Heap.le.refl _) ?_
            refine ⟨?_, rfl⟩
            simp only [e1, e2] at *
            clear e1 e2
            simp only [packed, KindF]
            simp_all
            try omega
          · try simp only [decide_eq_false_iff_not] at hc27
            refine AWP.skip ?_
            refine Block.go ?_
            refine Next.go ?_
            refine AWP.seq ?_
            -- region 11
            refine AWP.region ?_
            refine AList.p rfl (pure_assign ev_int) ?_
            refine AList.nil ?_
            refine Next.go ?_
            refine AWP.ret ?_
            -- ret 6
            refine Ret.go (.cons (.tmp _ _ rfl) .nil) _ (Heap.le.refl _) ?_
            refine ⟨?_, rfl⟩
            simp only [e1, e2] at *
            clear e1 e2
            simp only [packed, KindF]
            simp_all
            try omega
  · refine AList.gn rfl rfl rfl (by first | rfl | assumption) ?_
    refine AList.gn rfl rfl rfl (by first | rfl | assumption) ?_
    refine AList.p rfl (pure_pickF (.tmp _ _ rfl) (by first | rfl | assumption) ev_bool) ?_
    refine AList.p rfl (pure_assign (.tmp _ _ rfl)) ?_
    refine AList.nil ?_
    refine Next.go ?_
    -- c0
    refine AWP.cond_false (.tmp _ _ rfl) (by first | rfl | assumption) ?_
    refine AWP.seq ?_
    -- region 5
    refine AWP.region ?_
    refine AList.p rfl (pure_move (.tmp _ _ rfl)) ?_
    refine AList.p rfl (pure_eql (.tmp _ _ rfl) ev_int) ?_
    refine AList.p rfl (pure_assign (.tmp _ _ rfl)) ?_
    refine AList.nil ?_
    refine Next.go ?_
    -- c1
    refine AWP.cond (.tmp _ _ rfl) (fun hc17 => ?_) (fun hc17 => ?_)
    · try simp only [decide_eq_true_eq] at hc17
      refine AWP.seq ?_
      -- region 6
      refine AWP.region ?_
      refine AList.p rfl (pure_assign ev_int) ?_
      refine AList.nil ?_
      refine Next.go ?_
      refine AWP.ret ?_
      refine Block.rt ?_
      refine Next.rt ?_
      -- ret 7
      refine Ret.go (.cons (.tmp _ _ rfl) .nil) _ (Heap.le.refl _) ?_
      refine ⟨?_, rfl⟩
      simp only [e1, e2] at *
      clear e1 e2
      simp only [packed, KindF]
      simp_all
      try omega
    · try simp only [decide_eq_false_iff_not] at hc17
      refine AWP.seq ?_
      -- region 7
      refine AWP.region ?_
      refine AList.p rfl (pure_move (.tmp _ _ rfl)) ?_
      refine AList.p rfl (pure_eql (.tmp _ _ rfl) ev_int) ?_
      refine AList.p rfl (pure_move (.tmp _ _ rfl)) ?_
      -- the guard in slot 23
      refine bool_casesL (t := 23) rfl (fun hg23 => ?_) (fun hg23 => ?_)
      · refine AList.gp rfl rfl rfl (by first | rfl | assumption) (pure_move (.tmp _ _ rfl)) ?_
        refine AList.gp rfl rfl rfl (by first | rfl | assumption) (pure_eql (.tmp _ _ rfl) ev_int) ?_
        refine AList.p rfl (pure_pickT (.tmp _ _ rfl) (by first | rfl | assumption) (.tmp _ _ rfl)) ?_
        refine AList.p rfl (pure_assign (.tmp _ _ rfl)) ?_
        refine AList.nil ?_
        refine Next.go ?_
        -- c2
        refine AWP.cond (.tmp _ _ rfl) (fun hc20 => ?_) (fun hc20 => ?_)
        · try simp only [decide_eq_true_eq] at hc20
          refine AWP.seq ?_
          -- region 8
          refine AWP.region ?_
          refine AList.p rfl (pure_assign ev_int) ?_
          refine AList.nil ?_
          refine Next.go ?_
          refine AWP.ret ?_
          refine Block.rt ?_
          refine Next.rt ?_
          -- ret 8
          refine Ret.go (.cons (.tmp _ _ rfl) .nil) _ (Heap.le.refl _) ?_
          refine ⟨?_, rfl⟩
          simp only [e1, e2] at *
          clear e1 e2
          simp only [packed, KindF]
          simp_all
          try omega
        · try simp only [decide_eq_false_iff_not] at hc20
          refine AWP.seq ?_
          -- region 9
          refine AWP.region ?_
          refine AList.p rfl (pure_move (.tmp _ _ rfl)) ?_
          refine AList.p rfl (pure_eql (.tmp _ _ rfl) ev_int) ?_
          refine AList.p rfl (pure_assign (.tmp _ _ rfl)) ?_
          refine AList.nil ?_
          refine Next.go ?_
          -- c3
          refine AWP.cond (.tmp _ _ rfl) (fun hc27 => ?_) (fun hc27 => ?_)
          · try simp only [decide_eq_true_eq] at hc27
            refine AWP.seq ?_
            -- region 10
            refine AWP.region ?_
            refine AList.p rfl (pure_assign ev_int) ?_
            refine AList.nil ?_
            refine Next.go ?_
            refine AWP.ret ?_
            refine Block.rt ?_
            refine Next.rt ?_
            -- ret 9
            refine Ret.go (.cons (.tmp _ _ rfl) .nil) _ (Heap.le.refl _) ?_
            refine ⟨?_, rfl⟩
            simp only [e1, e2] at *
            clear e1 e2
            simp only [packed, KindF]
            simp_all
            try omega
          · try simp only [decide_eq_false_iff_not] at hc27
            refine AWP.skip ?_
            refine Block.go ?_
            refine Next.go ?_
            refine AWP.seq ?_
            -- region 11
            refine AWP.region ?_
            refine AList.p rfl (pure_assign ev_int) ?_
            refine AList.nil ?_
            refine Next.go ?_
            refine AWP.ret ?_
            -- ret 10
            refine Ret.go (.cons (.tmp _ _ rfl) .nil) _ (Heap.le.refl _) ?_
            refine ⟨?_, rfl⟩
            simp only [e1, e2] at *
            clear e1 e2
            simp only [packed, KindF]
            simp_all
            try omega
      · refine AList.gn rfl rfl rfl (by first | rfl | assumption) ?_
        refine AList.gn rfl rfl rfl (by first | rfl | assumption) ?_
        refine AList.p rfl (pure_pickF (.tmp _ _ rfl) (by first | rfl | assumption) ev_bool) ?_
        refine AList.p rfl (pure_assign (.tmp _ _ rfl)) ?_
        refine AList.nil ?_
        refine Next.go ?_
        -- c2
        refine AWP.cond_false (.tmp _ _ rfl) (by first | rfl | assumption) ?_
        refine AWP.seq ?_
        -- region 9
        refine AWP.region ?_
        refine AList.p rfl (pure_move (.tmp _ _ rfl)) ?_
        refine AList.p rfl (pure_eql (.tmp _ _ rfl) ev_int) ?_
        refine AList.p rfl (pure_assign (.tmp _ _ rfl)) ?_
        refine AList.nil ?_
        refine Next.go ?_
        -- c3
        refine AWP.cond (.tmp _ _ rfl) (fun hc27 => ?_) (fun hc27 => ?_)
        · try simp only [decide_eq_true_eq] at hc27
          refine AWP.seq ?_
          -- region 10
          refine AWP.region ?_
          refine AList.p rfl (pure_assign ev_int) ?_
          refine AList.nil ?_
          refine Next.go ?_
          refine AWP.ret ?_
          refine Block.rt ?_
          refine Next.rt ?_
          -- ret 11
          refine Ret.go (.cons (.tmp _ _ rfl) .nil) _ (Heap.le.refl _) ?_
          refine ⟨?_, rfl⟩
          simp only [e1, e2] at *
          clear e1 e2
          simp only [packed, KindF]
          simp_all
          try omega
        · try simp only [decide_eq_false_iff_not] at hc27
          refine AWP.skip ?_
          refine Block.go ?_
          refine Next.go ?_
          refine AWP.seq ?_
          -- region 11
          refine AWP.region ?_
          refine AList.p rfl (pure_assign ev_int) ?_
          refine AList.nil ?_
          refine Next.go ?_
          refine AWP.ret ?_
          -- ret 12
          refine Ret.go (.cons (.tmp _ _ rfl) .nil) _ (Heap.le.refl _) ?_
          refine ⟨?_, rfl⟩
          simp only [e1, e2] at *
          clear e1 e2
          simp only [packed, KindF]
          simp_all
          try omega

set_option maxRecDepth 100000 in
theorem FailName_calls (n : Int) (H : Heap) : ACall Tryz.prog 26 [.int .i64 n] H (fun y H' => y = .str (FailName n) ∧ H' = H) := by
  refine ACall.of_body Tryz.func26 rfl Tryz.ntmps26 Tryz.results26 rfl ?_
  refine AWP.seq ?_
  -- region 0
  refine AWP.region ?_
  refine AList.p rfl (pure_assign (ev_str rfl)) ?_
  refine AList.nil ?_
  refine Next.go ?_
  refine AWP.seq ?_
  refine AWP.seq ?_
  -- region 1
  refine AWP.region ?_
  refine AList.p rfl (pure_move (.tmp _ _ rfl)) ?_
  refine AList.nil ?_
  refine Next.go ?_
  refine AWP.block ?_
  refine AWP.seq ?_
  -- region 2
  refine AWP.region ?_
  refine AList.p rfl (pure_eql (.tmp _ _ rfl) ev_int) ?_
  refine AList.p rfl (pure_assign (.tmp _ _ rfl)) ?_
  refine AList.nil ?_
  refine Next.go ?_
  -- c0
  refine AWP.cond (.tmp _ _ rfl) (fun hc4 => ?_) (fun hc4 => ?_)
  · try simp only [decide_eq_true_eq] at hc4
    refine AWP.seq ?_
    -- region 3
    refine AWP.region ?_
    refine AList.p rfl (pure_assign (ev_str rfl)) ?_
    refine AList.nil ?_
    refine Next.go ?_
    refine AWP.ret ?_
    refine Block.rt ?_
    refine Next.rt ?_
    -- ret 0
    refine Ret.go (.cons (.tmp _ _ rfl) .nil) _ (Heap.le.refl _) ?_
    refine ⟨?_, rfl⟩
    simp_all [packed, FailName]
  · try simp only [decide_eq_false_iff_not] at hc4
    refine AWP.seq ?_
    -- region 4
    refine AWP.region ?_
    refine AList.p rfl (pure_eql (.tmp _ _ rfl) ev_int) ?_
    refine AList.p rfl (pure_assign (.tmp _ _ rfl)) ?_
    refine AList.nil ?_
    refine Next.go ?_
    -- c1
    refine AWP.cond (.tmp _ _ rfl) (fun hc6 => ?_) (fun hc6 => ?_)
    · try simp only [decide_eq_true_eq] at hc6
      refine AWP.seq ?_
      -- region 5
      refine AWP.region ?_
      refine AList.p rfl (pure_assign (ev_str rfl)) ?_
      refine AList.nil ?_
      refine Next.go ?_
      refine AWP.ret ?_
      refine Block.rt ?_
      refine Next.rt ?_
      -- ret 1
      refine Ret.go (.cons (.tmp _ _ rfl) .nil) _ (Heap.le.refl _) ?_
      refine ⟨?_, rfl⟩
      simp_all [packed, FailName]
    · try simp only [decide_eq_false_iff_not] at hc6
      refine AWP.seq ?_
      -- region 6
      refine AWP.region ?_
      refine AList.p rfl (pure_eql (.tmp _ _ rfl) ev_int) ?_
      refine AList.p rfl (pure_assign (.tmp _ _ rfl)) ?_
      refine AList.nil ?_
      refine Next.go ?_
      -- c2
      refine AWP.cond (.tmp _ _ rfl) (fun hc8 => ?_) (fun hc8 => ?_)
      · try simp only [decide_eq_true_eq] at hc8
        refine AWP.seq ?_
        -- region 7
        refine AWP.region ?_
        refine AList.p rfl (pure_assign (ev_str rfl)) ?_
        refine AList.nil ?_
        refine Next.go ?_
        refine AWP.ret ?_
        refine Block.rt ?_
        refine Next.rt ?_
        -- ret 2
        refine Ret.go (.cons (.tmp _ _ rfl) .nil) _ (Heap.le.refl _) ?_
        refine ⟨?_, rfl⟩
        simp_all [packed, FailName]
      · try simp only [decide_eq_false_iff_not] at hc8
        refine AWP.seq ?_
        -- region 8
        refine AWP.region ?_
        refine AList.p rfl (pure_eql (.tmp _ _ rfl) ev_int) ?_
        refine AList.p rfl (pure_assign (.tmp _ _ rfl)) ?_
        refine AList.nil ?_
        refine Next.go ?_
        -- c3
        refine AWP.cond (.tmp _ _ rfl) (fun hc10 => ?_) (fun hc10 => ?_)
        · try simp only [decide_eq_true_eq] at hc10
          refine AWP.seq ?_
          -- region 9
          refine AWP.region ?_
          refine AList.p rfl (pure_assign (ev_str rfl)) ?_
          refine AList.nil ?_
          refine Next.go ?_
          refine AWP.ret ?_
          refine Block.rt ?_
          refine Next.rt ?_
          -- ret 3
          refine Ret.go (.cons (.tmp _ _ rfl) .nil) _ (Heap.le.refl _) ?_
          refine ⟨?_, rfl⟩
          simp_all [packed, FailName]
        · try simp only [decide_eq_false_iff_not] at hc10
          refine AWP.seq ?_
          -- region 10
          refine AWP.region ?_
          refine AList.p rfl (pure_eql (.tmp _ _ rfl) ev_int) ?_
          refine AList.p rfl (pure_assign (.tmp _ _ rfl)) ?_
          refine AList.nil ?_
          refine Next.go ?_
          -- c4
          refine AWP.cond (.tmp _ _ rfl) (fun hc12 => ?_) (fun hc12 => ?_)
          · try simp only [decide_eq_true_eq] at hc12
            refine AWP.seq ?_
            -- region 11
            refine AWP.region ?_
            refine AList.p rfl (pure_assign (ev_str rfl)) ?_
            refine AList.nil ?_
            refine Next.go ?_
            refine AWP.ret ?_
            refine Block.rt ?_
            refine Next.rt ?_
            -- ret 4
            refine Ret.go (.cons (.tmp _ _ rfl) .nil) _ (Heap.le.refl _) ?_
            refine ⟨?_, rfl⟩
            simp_all [packed, FailName]
          · try simp only [decide_eq_false_iff_not] at hc12
            refine AWP.seq ?_
            -- region 12
            refine AWP.region ?_
            refine AList.p rfl (pure_eql (.tmp _ _ rfl) ev_int) ?_
            refine AList.p rfl (pure_assign (.tmp _ _ rfl)) ?_
            refine AList.nil ?_
            refine Next.go ?_
            -- c5
            refine AWP.cond (.tmp _ _ rfl) (fun hc14 => ?_) (fun hc14 => ?_)
            · try simp only [decide_eq_true_eq] at hc14
              refine AWP.seq ?_
              -- region 13
              refine AWP.region ?_
              refine AList.p rfl (pure_assign (ev_str rfl)) ?_
              refine AList.nil ?_
              refine Next.go ?_
              refine AWP.ret ?_
              refine Block.rt ?_
              refine Next.rt ?_
              -- ret 5
              refine Ret.go (.cons (.tmp _ _ rfl) .nil) _ (Heap.le.refl _) ?_
              refine ⟨?_, rfl⟩
              simp_all [packed, FailName]
            · try simp only [decide_eq_false_iff_not] at hc14
              refine AWP.seq ?_
              -- region 14
              refine AWP.region ?_
              refine AList.p rfl (pure_eql (.tmp _ _ rfl) ev_int) ?_
              refine AList.p rfl (pure_assign (.tmp _ _ rfl)) ?_
              refine AList.nil ?_
              refine Next.go ?_
              -- c6
              refine AWP.cond (.tmp _ _ rfl) (fun hc16 => ?_) (fun hc16 => ?_)
              · try simp only [decide_eq_true_eq] at hc16
                refine AWP.seq ?_
                -- region 15
                refine AWP.region ?_
                refine AList.p rfl (pure_assign (ev_str rfl)) ?_
                refine AList.nil ?_
                refine Next.go ?_
                refine AWP.ret ?_
                refine Block.rt ?_
                refine Next.rt ?_
                -- ret 6
                refine Ret.go (.cons (.tmp _ _ rfl) .nil) _ (Heap.le.refl _) ?_
                refine ⟨?_, rfl⟩
                simp_all [packed, FailName]
              · try simp only [decide_eq_false_iff_not] at hc16
                refine AWP.seq ?_
                -- region 16
                refine AWP.region ?_
                refine AList.p rfl (pure_eql (.tmp _ _ rfl) ev_int) ?_
                refine AList.p rfl (pure_assign (.tmp _ _ rfl)) ?_
                refine AList.nil ?_
                refine Next.go ?_
                -- c7
                refine AWP.cond (.tmp _ _ rfl) (fun hc18 => ?_) (fun hc18 => ?_)
                · try simp only [decide_eq_true_eq] at hc18
                  refine AWP.seq ?_
                  -- region 17
                  refine AWP.region ?_
                  refine AList.p rfl (pure_assign (ev_str rfl)) ?_
                  refine AList.nil ?_
                  refine Next.go ?_
                  refine AWP.ret ?_
                  refine Block.rt ?_
                  refine Next.rt ?_
                  -- ret 7
                  refine Ret.go (.cons (.tmp _ _ rfl) .nil) _ (Heap.le.refl _) ?_
                  refine ⟨?_, rfl⟩
                  simp_all [packed, FailName]
                · try simp only [decide_eq_false_iff_not] at hc18
                  refine AWP.skip ?_
                  refine Block.go ?_
                  refine Next.go ?_
                  refine AWP.seq ?_
                  -- region 18
                  refine AWP.region ?_
                  refine AList.p rfl (pure_assign (ev_str rfl)) ?_
                  refine AList.nil ?_
                  refine Next.go ?_
                  refine AWP.ret ?_
                  -- ret 8
                  refine Ret.go (.cons (.tmp _ _ rfl) .nil) _ (Heap.le.refl _) ?_
                  refine ⟨?_, rfl⟩
                  simp_all [packed, FailName]

theorem zr24 : ∀ g, RelCells g [.int .i64 0, .int .u64 0, .bool false, .str [], .int .i64 0] (Value.cells (Go.Value.agg #[Go.Value.int Go.IntKind.i64 0, Go.Value.int Go.IntKind.u64 0, Go.Value.bool false, Go.Value.string { data := #[] }, Go.Value.int Go.IntKind.i64 0])) := fun g => RelL.cells (.cons (.int _ _) (.cons (.int _ _) (.cons (.bool _) (.cons ((.str [] (Nat.zero_le _))) (.cons (.int _ _) .nil)))))
theorem pl24 (fs : Array Field) (hfs : Tryz.prog.underlying 24 = some (.struct fs)) : ∀ (i : Nat) f p, fs[i]? = some f → [(0, 1), (1, 1), (2, 1), (3, 1), (4, 1)][i]? = some p → ∀ w, (sizeOf f.type).run Tryz.prog w = .ok p.2 w := by
  have e := (Option.some.inj (hfs.symm.trans Tryz.underlying24))
  cases e
  intro i f p hf hp w
  match i with
  | 0 => cases hf; cases hp; exact Tryz.sizeOf3 w
  | 1 => cases hf; cases hp; exact Tryz.sizeOf22 w
  | 2 => cases hf; cases hp; exact Tryz.sizeOf4 w
  | 3 => cases hf; cases hp; exact Tryz.sizeOf9 w
  | 4 => cases hf; cases hp; exact Tryz.sizeOf3 w
  | i + 5 => simp at hp

set_option maxRecDepth 100000 in
theorem vFail_calls (n : Int) (H : Heap) : ACall Tryz.prog 14 [.int .i64 n] H (fun y H' => y = (FailV n).av ∧ H' = H) := by
  refine ACall.of_body Tryz.func14 rfl Tryz.ntmps14 Tryz.results14 rfl ?_
  refine AWP.seq ?_
  -- region 0
  refine AWP.region ?_
  refine AList.s rfl (step_alloc Tryz.zeroValue24 (zr24)) ?_
  rintro _ _ ⟨b2, hb2, rfl, hH⟩
  obtain rfl := hH.symm
  refine AList.nil ?_
  refine Next.go ?_
  refine AWP.seq ?_
  -- region 1
  refine AWP.region ?_
  refine AList.p rfl (pure_move (.tmp _ _ rfl)) ?_
  refine AList.p rfl (pure_build [(0, 1), (1, 1), (2, 1), (3, 1), (4, 1)] Tryz.underlying24 Tryz.zeroValue24 (zr24) rfl (pl24 _ Tryz.underlying24) (.cons ev_int (.inl rfl) (.cons (.tmp _ _ rfl) (.inl rfl) .nil)) rfl) ?_
  refine AList.s0 (step_store Tryz.sizeOf24 (.tmp _ _ rfl) (.tmp _ _ rfl) rfl rfl (.inr ⟨_, rfl⟩) (by first | assumption | exact (by assumption : Heap.le _ _).objs _ _ (by assumption) | exact Heap.objs_set_same _ _ _ | exact (Heap.objs_set_ne _ _ (by assumption)).trans (Heap.objs_set_same _ _ _) | exact (Heap.objs_set_ne _ _ (by assumption)).trans ((Heap.objs_set_ne _ _ (by assumption)).trans (Heap.objs_set_same _ _ _)) | exact (Heap.objs_set_ne _ _ (by assumption)).trans (by assumption)) (Nat.le_of_ble_eq_true rfl)) ?_
  rintro _ _ ⟨rfl, hH⟩
  obtain rfl := hH.symm
  try first | rw [Heap.set_set] | rw [Heap.set_under (by assumption)]
  refine AList.nil ?_
  refine Next.go ?_
  refine AWP.frz (t := 2) rfl (by first | exact hb2 | exact Heap.fresh_set hb2 _) ?_
  refine AWP.ret ?_
  -- ret 0
  refine Ret.go (.cons (.cellI _ _ _ _ rfl Tryz.isAgg24 Tryz.sizeOf24 rfl) .nil) _ (Heap.le.refl _) ?_
  exact ⟨rfl, rfl⟩

set_option maxRecDepth 100000 in
theorem vBool_calls (b : Bool) (H : Heap) : ACall Tryz.prog 12 [.bool b] H (fun y H' => y = (BoolV b).av ∧ H' = H) := by
  refine ACall.of_body Tryz.func12 rfl Tryz.ntmps12 Tryz.results12 rfl ?_
  refine AWP.seq ?_
  -- region 0
  refine AWP.region ?_
  refine AList.s rfl (step_alloc Tryz.zeroValue24 (zr24)) ?_
  rintro _ _ ⟨b2, hb2, rfl, hH⟩
  obtain rfl := hH.symm
  refine AList.nil ?_
  refine Next.go ?_
  refine AWP.seq ?_
  -- region 1
  refine AWP.region ?_
  refine AList.p rfl (pure_move (.tmp _ _ rfl)) ?_
  refine AList.p rfl (pure_build [(0, 1), (1, 1), (2, 1), (3, 1), (4, 1)] Tryz.underlying24 Tryz.zeroValue24 (zr24) rfl (pl24 _ Tryz.underlying24) (.cons ev_int (.inl rfl) (.cons (.tmp _ _ rfl) (.inl rfl) .nil)) rfl) ?_
  refine AList.s0 (step_store Tryz.sizeOf24 (.tmp _ _ rfl) (.tmp _ _ rfl) rfl rfl (.inr ⟨_, rfl⟩) (by first | assumption | exact (by assumption : Heap.le _ _).objs _ _ (by assumption) | exact Heap.objs_set_same _ _ _ | exact (Heap.objs_set_ne _ _ (by assumption)).trans (Heap.objs_set_same _ _ _) | exact (Heap.objs_set_ne _ _ (by assumption)).trans ((Heap.objs_set_ne _ _ (by assumption)).trans (Heap.objs_set_same _ _ _)) | exact (Heap.objs_set_ne _ _ (by assumption)).trans (by assumption)) (Nat.le_of_ble_eq_true rfl)) ?_
  rintro _ _ ⟨rfl, hH⟩
  obtain rfl := hH.symm
  try first | rw [Heap.set_set] | rw [Heap.set_under (by assumption)]
  refine AList.nil ?_
  refine Next.go ?_
  refine AWP.frz (t := 2) rfl (by first | exact hb2 | exact Heap.fresh_set hb2 _) ?_
  refine AWP.ret ?_
  -- ret 0
  refine Ret.go (.cons (.cellI _ _ _ _ rfl Tryz.isAgg24 Tryz.sizeOf24 rfl) .nil) _ (Heap.le.refl _) ?_
  exact ⟨rfl, rfl⟩

set_option maxRecDepth 100000 in
theorem vNumber_calls (x : Int) (h0 : 0 ≤ x) (h1 : x < 18446744073709551616) (H : Heap) : ACall Tryz.prog 8 [.int .u64 x] H (fun y H' => y = (NumV x).av ∧ H' = H) := by
  refine ACall.of_body Tryz.func8 rfl Tryz.ntmps8 Tryz.results8 rfl ?_
  refine AWP.seq ?_
  -- region 0
  refine AWP.region ?_
  refine AList.s rfl (step_alloc Tryz.zeroValue24 (zr24)) ?_
  rintro _ _ ⟨b2, hb2, rfl, hH⟩
  obtain rfl := hH.symm
  refine AList.nil ?_
  refine Next.go ?_
  refine AWP.seq ?_
  refine AWP.seq ?_
  -- region 1
  refine AWP.region ?_
  refine AList.p rfl (pure_move (.tmp _ _ rfl)) ?_
  refine AList.s rfl (step_call0 Tryz.call28 (.cons (.tmp _ _ rfl) .nil) (Kind_calls _ (by omega) (by omega) _)) ?_
  rintro _ _ ⟨rfl, hH⟩
  obtain rfl := hH.symm
  refine AList.p rfl (pure_geq (.tmp _ _ rfl) ev_int) ?_
  refine AList.nil ?_
  refine Next.go ?_
  -- c0
  refine AWP.cond (.tmp _ _ rfl) (fun hc5 => ?_) (fun hc5 => ?_)
  · try simp only [decide_eq_true_eq] at hc5
    refine AWP.seq ?_
    -- region 2
    refine AWP.region ?_
    refine AList.s rfl (step_call0 Tryz.call14 (.cons ev_int .nil) (vFail_calls _ _)) ?_
    rintro _ _ ⟨rfl, hH⟩
    obtain rfl := hH.symm
    refine AList.s0 (step_store Tryz.sizeOf24 (.tmp _ _ rfl) (.tmp _ _ rfl) rfl rfl (.inr ⟨_, rfl⟩) (by first | assumption | exact (by assumption : Heap.le _ _).objs _ _ (by assumption) | exact Heap.objs_set_same _ _ _ | exact (Heap.objs_set_ne _ _ (by assumption)).trans (Heap.objs_set_same _ _ _) | exact (Heap.objs_set_ne _ _ (by assumption)).trans ((Heap.objs_set_ne _ _ (by assumption)).trans (Heap.objs_set_same _ _ _)) | exact (Heap.objs_set_ne _ _ (by assumption)).trans (by assumption)) (Nat.le_of_ble_eq_true rfl)) ?_
    rintro _ _ ⟨rfl, hH⟩
    obtain rfl := hH.symm
    try first | rw [Heap.set_set] | rw [Heap.set_under (by assumption)]
    refine AList.nil ?_
    refine Next.go ?_
    refine AWP.frz (t := 2) rfl (by first | exact hb2 | exact Heap.fresh_set hb2 _) ?_
    refine AWP.ret ?_
    refine Next.rt ?_
    -- ret 0
    refine Ret.go (.cons (.cellI _ _ _ _ rfl Tryz.isAgg24 Tryz.sizeOf24 rfl) .nil) _ (Heap.le.refl _) ?_
    refine ⟨?_, rfl⟩
    first | (rw [show NumV x = FailV 6 from if_pos (by omega)]; rfl) | (rw [show NumV x = ⟨1, x, false, [], 0⟩ from if_neg (by omega)]; rfl)
  · try simp only [decide_eq_false_iff_not, Int.not_le] at hc5
    refine AWP.skip ?_
    refine Next.go ?_
    refine AWP.seq ?_
    -- region 3
    refine AWP.region ?_
    refine AList.p rfl (pure_move (.tmp _ _ rfl)) ?_
    refine AList.p rfl (pure_build [(0, 1), (1, 1), (2, 1), (3, 1), (4, 1)] Tryz.underlying24 Tryz.zeroValue24 (zr24) rfl (pl24 _ Tryz.underlying24) (.cons ev_int (.inl rfl) (.cons (.tmp _ _ rfl) (.inl rfl) .nil)) rfl) ?_
    refine AList.s0 (step_store Tryz.sizeOf24 (.tmp _ _ rfl) (.tmp _ _ rfl) rfl rfl (.inr ⟨_, rfl⟩) (by first | assumption | exact (by assumption : Heap.le _ _).objs _ _ (by assumption) | exact Heap.objs_set_same _ _ _ | exact (Heap.objs_set_ne _ _ (by assumption)).trans (Heap.objs_set_same _ _ _) | exact (Heap.objs_set_ne _ _ (by assumption)).trans ((Heap.objs_set_ne _ _ (by assumption)).trans (Heap.objs_set_same _ _ _)) | exact (Heap.objs_set_ne _ _ (by assumption)).trans (by assumption)) (Nat.le_of_ble_eq_true rfl)) ?_
    rintro _ _ ⟨rfl, hH⟩
    obtain rfl := hH.symm
    try first | rw [Heap.set_set] | rw [Heap.set_under (by assumption)]
    refine AList.nil ?_
    refine Next.go ?_
    refine AWP.frz (t := 2) rfl (by first | exact hb2 | exact Heap.fresh_set hb2 _) ?_
    refine AWP.ret ?_
    -- ret 1
    refine Ret.go (.cons (.cellI _ _ _ _ rfl Tryz.isAgg24 Tryz.sizeOf24 rfl) .nil) _ (Heap.le.refl _) ?_
    refine ⟨?_, rfl⟩
    first | (rw [show NumV x = FailV 6 from if_pos (by omega)]; rfl) | (rw [show NumV x = ⟨1, x, false, [], 0⟩ from if_neg (by omega)]; rfl)

set_option maxRecDepth 100000 in
theorem vText_calls (s : List UInt8) (hs : s.length ≤ maxLen) (H : Heap) : ACall Tryz.prog 10 [.str s] H (fun y H' => y = (TextV s).av ∧ H' = H) := by
  refine ACall.of_body Tryz.func10 rfl Tryz.ntmps10 Tryz.results10 rfl ?_
  refine AWP.seq ?_
  -- region 0
  refine AWP.region ?_
  refine AList.s rfl (step_alloc Tryz.zeroValue24 (zr24)) ?_
  rintro _ _ ⟨b2, hb2, rfl, hH⟩
  obtain rfl := hH.symm
  refine AList.nil ?_
  refine Next.go ?_
  refine AWP.seq ?_
  refine AWP.seq ?_
  -- region 1
  refine AWP.region ?_
  refine AList.p rfl (pure_move (.tmp _ _ rfl)) ?_
  refine AList.p rfl (pure_lenStr Tryz.underlying9 (.tmp _ _ rfl)) ?_
  refine AList.p rfl (pure_gtr (.tmp _ _ rfl) ev_int) ?_
  refine AList.nil ?_
  refine Next.go ?_
  -- c0
  refine AWP.cond (.tmp _ _ rfl) (fun hc5 => ?_) (fun hc5 => ?_)
  · try simp only [decide_eq_true_eq] at hc5
    refine AWP.seq ?_
    -- region 2
    refine AWP.region ?_
    refine AList.s rfl (step_call0 Tryz.call14 (.cons ev_int .nil) (vFail_calls _ _)) ?_
    rintro _ _ ⟨rfl, hH⟩
    obtain rfl := hH.symm
    refine AList.s0 (step_store Tryz.sizeOf24 (.tmp _ _ rfl) (.tmp _ _ rfl) rfl rfl (.inr ⟨_, rfl⟩) (by first | assumption | exact (by assumption : Heap.le _ _).objs _ _ (by assumption) | exact Heap.objs_set_same _ _ _ | exact (Heap.objs_set_ne _ _ (by assumption)).trans (Heap.objs_set_same _ _ _) | exact (Heap.objs_set_ne _ _ (by assumption)).trans ((Heap.objs_set_ne _ _ (by assumption)).trans (Heap.objs_set_same _ _ _)) | exact (Heap.objs_set_ne _ _ (by assumption)).trans (by assumption)) (Nat.le_of_ble_eq_true rfl)) ?_
    rintro _ _ ⟨rfl, hH⟩
    obtain rfl := hH.symm
    try first | rw [Heap.set_set] | rw [Heap.set_under (by assumption)]
    refine AList.nil ?_
    refine Next.go ?_
    refine AWP.frz (t := 2) rfl (by first | exact hb2 | exact Heap.fresh_set hb2 _) ?_
    refine AWP.ret ?_
    refine Next.rt ?_
    -- ret 0
    refine Ret.go (.cons (.cellI _ _ _ _ rfl Tryz.isAgg24 Tryz.sizeOf24 rfl) .nil) _ (Heap.le.refl _) ?_
    refine ⟨?_, rfl⟩
    first | (rw [show TextV s = FailV 3 from if_pos (by omega)]; rfl) | (rw [show TextV s = ⟨3, 0, false, s, 0⟩ from if_neg (by omega)]; rfl)
  · try simp only [decide_eq_false_iff_not, Int.not_lt] at hc5
    refine AWP.skip ?_
    refine Next.go ?_
    refine AWP.seq ?_
    -- region 3
    refine AWP.region ?_
    refine AList.p rfl (pure_move (.tmp _ _ rfl)) ?_
    refine AList.p rfl (pure_build [(0, 1), (1, 1), (2, 1), (3, 1), (4, 1)] Tryz.underlying24 Tryz.zeroValue24 (zr24) rfl (pl24 _ Tryz.underlying24) (.cons ev_int (.inl rfl) (.cons (.tmp _ _ rfl) (.inl rfl) .nil)) rfl) ?_
    refine AList.s0 (step_store Tryz.sizeOf24 (.tmp _ _ rfl) (.tmp _ _ rfl) rfl rfl (.inr ⟨_, rfl⟩) (by first | assumption | exact (by assumption : Heap.le _ _).objs _ _ (by assumption) | exact Heap.objs_set_same _ _ _ | exact (Heap.objs_set_ne _ _ (by assumption)).trans (Heap.objs_set_same _ _ _) | exact (Heap.objs_set_ne _ _ (by assumption)).trans ((Heap.objs_set_ne _ _ (by assumption)).trans (Heap.objs_set_same _ _ _)) | exact (Heap.objs_set_ne _ _ (by assumption)).trans (by assumption)) (Nat.le_of_ble_eq_true rfl)) ?_
    rintro _ _ ⟨rfl, hH⟩
    obtain rfl := hH.symm
    try first | rw [Heap.set_set] | rw [Heap.set_under (by assumption)]
    refine AList.nil ?_
    refine Next.go ?_
    refine AWP.frz (t := 2) rfl (by first | exact hb2 | exact Heap.fresh_set hb2 _) ?_
    refine AWP.ret ?_
    -- ret 1
    refine Ret.go (.cons (.cellI _ _ _ _ rfl Tryz.isAgg24 Tryz.sizeOf24 rfl) .nil) _ (Heap.le.refl _) ?_
    refine ⟨?_, rfl⟩
    first | (rw [show TextV s = FailV 3 from if_pos (by omega)]; rfl) | (rw [show TextV s = ⟨3, 0, false, s, 0⟩ from if_neg (by omega)]; rfl)

set_option maxRecDepth 100000 in
theorem rFail_calls (n : Int) (H : Heap) : ACall Tryz.prog 15 [.int .i64 n] H (fun y H' => y = (FailV n).av ∧ H' = H) := by
  refine ACall.of_body Tryz.func15 rfl Tryz.ntmps15 Tryz.results15 rfl ?_
  refine AWP.seq ?_
  -- region 0
  refine AWP.region ?_
  refine AList.s rfl (step_alloc Tryz.zeroValue24 (zr24)) ?_
  rintro _ _ ⟨b2, hb2, rfl, hH⟩
  obtain rfl := hH.symm
  refine AList.nil ?_
  refine Next.go ?_
  refine AWP.seq ?_
  -- region 1
  refine AWP.region ?_
  refine AList.p rfl (pure_move (.tmp _ _ rfl)) ?_
  refine AList.p rfl (pure_build [(0, 1), (1, 1), (2, 1), (3, 1), (4, 1)] Tryz.underlying24 Tryz.zeroValue24 (zr24) rfl (pl24 _ Tryz.underlying24) (.cons ev_int (.inl rfl) (.cons (.tmp _ _ rfl) (.inl rfl) .nil)) rfl) ?_
  refine AList.s0 (step_store Tryz.sizeOf24 (.tmp _ _ rfl) (.tmp _ _ rfl) rfl rfl (.inr ⟨_, rfl⟩) (by first | assumption | exact (by assumption : Heap.le _ _).objs _ _ (by assumption) | exact Heap.objs_set_same _ _ _ | exact (Heap.objs_set_ne _ _ (by assumption)).trans (Heap.objs_set_same _ _ _) | exact (Heap.objs_set_ne _ _ (by assumption)).trans ((Heap.objs_set_ne _ _ (by assumption)).trans (Heap.objs_set_same _ _ _)) | exact (Heap.objs_set_ne _ _ (by assumption)).trans (by assumption)) (Nat.le_of_ble_eq_true rfl)) ?_
  rintro _ _ ⟨rfl, hH⟩
  obtain rfl := hH.symm
  try first | rw [Heap.set_set] | rw [Heap.set_under (by assumption)]
  refine AList.nil ?_
  refine Next.go ?_
  refine AWP.frz (t := 2) rfl (by first | exact hb2 | exact Heap.fresh_set hb2 _) ?_
  refine AWP.ret ?_
  -- ret 0
  refine Ret.go (.cons (.cellI _ _ _ _ rfl Tryz.isAgg24 Tryz.sizeOf24 rfl) .nil) _ (Heap.le.refl _) ?_
  exact ⟨rfl, rfl⟩

set_option maxRecDepth 100000 in
theorem rBool_calls (b : Bool) (H : Heap) : ACall Tryz.prog 13 [.bool b] H (fun y H' => y = (BoolV b).av ∧ H' = H) := by
  refine ACall.of_body Tryz.func13 rfl Tryz.ntmps13 Tryz.results13 rfl ?_
  refine AWP.seq ?_
  -- region 0
  refine AWP.region ?_
  refine AList.s rfl (step_alloc Tryz.zeroValue24 (zr24)) ?_
  rintro _ _ ⟨b2, hb2, rfl, hH⟩
  obtain rfl := hH.symm
  refine AList.nil ?_
  refine Next.go ?_
  refine AWP.seq ?_
  -- region 1
  refine AWP.region ?_
  refine AList.p rfl (pure_move (.tmp _ _ rfl)) ?_
  refine AList.p rfl (pure_build [(0, 1), (1, 1), (2, 1), (3, 1), (4, 1)] Tryz.underlying24 Tryz.zeroValue24 (zr24) rfl (pl24 _ Tryz.underlying24) (.cons ev_int (.inl rfl) (.cons (.tmp _ _ rfl) (.inl rfl) .nil)) rfl) ?_
  refine AList.s0 (step_store Tryz.sizeOf24 (.tmp _ _ rfl) (.tmp _ _ rfl) rfl rfl (.inr ⟨_, rfl⟩) (by first | assumption | exact (by assumption : Heap.le _ _).objs _ _ (by assumption) | exact Heap.objs_set_same _ _ _ | exact (Heap.objs_set_ne _ _ (by assumption)).trans (Heap.objs_set_same _ _ _) | exact (Heap.objs_set_ne _ _ (by assumption)).trans ((Heap.objs_set_ne _ _ (by assumption)).trans (Heap.objs_set_same _ _ _)) | exact (Heap.objs_set_ne _ _ (by assumption)).trans (by assumption)) (Nat.le_of_ble_eq_true rfl)) ?_
  rintro _ _ ⟨rfl, hH⟩
  obtain rfl := hH.symm
  try first | rw [Heap.set_set] | rw [Heap.set_under (by assumption)]
  refine AList.nil ?_
  refine Next.go ?_
  refine AWP.frz (t := 2) rfl (by first | exact hb2 | exact Heap.fresh_set hb2 _) ?_
  refine AWP.ret ?_
  -- ret 0
  refine Ret.go (.cons (.cellI _ _ _ _ rfl Tryz.isAgg24 Tryz.sizeOf24 rfl) .nil) _ (Heap.le.refl _) ?_
  exact ⟨rfl, rfl⟩

set_option maxRecDepth 100000 in
theorem rNumber_calls (x : Int) (h0 : 0 ≤ x) (h1 : x < 18446744073709551616) (H : Heap) : ACall Tryz.prog 9 [.int .u64 x] H (fun y H' => y = (NumV x).av ∧ H' = H) := by
  refine ACall.of_body Tryz.func9 rfl Tryz.ntmps9 Tryz.results9 rfl ?_
  refine AWP.seq ?_
  -- region 0
  refine AWP.region ?_
  refine AList.s rfl (step_alloc Tryz.zeroValue24 (zr24)) ?_
  rintro _ _ ⟨b2, hb2, rfl, hH⟩
  obtain rfl := hH.symm
  refine AList.nil ?_
  refine Next.go ?_
  refine AWP.seq ?_
  refine AWP.seq ?_
  -- region 1
  refine AWP.region ?_
  refine AList.p rfl (pure_move (.tmp _ _ rfl)) ?_
  refine AList.s rfl (step_call0 Tryz.call27 (.cons (.tmp _ _ rfl) .nil) (refKind_calls _ (by omega) (by omega) _)) ?_
  rintro _ _ ⟨rfl, hH⟩
  obtain rfl := hH.symm
  refine AList.p rfl (pure_geq (.tmp _ _ rfl) ev_int) ?_
  refine AList.nil ?_
  refine Next.go ?_
  -- c0
  refine AWP.cond (.tmp _ _ rfl) (fun hc5 => ?_) (fun hc5 => ?_)
  · try simp only [decide_eq_true_eq] at hc5
    refine AWP.seq ?_
    -- region 2
    refine AWP.region ?_
    refine AList.s rfl (step_call0 Tryz.call15 (.cons ev_int .nil) (rFail_calls _ _)) ?_
    rintro _ _ ⟨rfl, hH⟩
    obtain rfl := hH.symm
    refine AList.s0 (step_store Tryz.sizeOf24 (.tmp _ _ rfl) (.tmp _ _ rfl) rfl rfl (.inr ⟨_, rfl⟩) (by first | assumption | exact (by assumption : Heap.le _ _).objs _ _ (by assumption) | exact Heap.objs_set_same _ _ _ | exact (Heap.objs_set_ne _ _ (by assumption)).trans (Heap.objs_set_same _ _ _) | exact (Heap.objs_set_ne _ _ (by assumption)).trans ((Heap.objs_set_ne _ _ (by assumption)).trans (Heap.objs_set_same _ _ _)) | exact (Heap.objs_set_ne _ _ (by assumption)).trans (by assumption)) (Nat.le_of_ble_eq_true rfl)) ?_
    rintro _ _ ⟨rfl, hH⟩
    obtain rfl := hH.symm
    try first | rw [Heap.set_set] | rw [Heap.set_under (by assumption)]
    refine AList.nil ?_
    refine Next.go ?_
    refine AWP.frz (t := 2) rfl (by first | exact hb2 | exact Heap.fresh_set hb2 _) ?_
    refine AWP.ret ?_
    refine Next.rt ?_
    -- ret 0
    refine Ret.go (.cons (.cellI _ _ _ _ rfl Tryz.isAgg24 Tryz.sizeOf24 rfl) .nil) _ (Heap.le.refl _) ?_
    refine ⟨?_, rfl⟩
    first | (rw [show NumV x = FailV 6 from if_pos (by omega)]; rfl) | (rw [show NumV x = ⟨1, x, false, [], 0⟩ from if_neg (by omega)]; rfl)
  · try simp only [decide_eq_false_iff_not, Int.not_le] at hc5
    refine AWP.skip ?_
    refine Next.go ?_
    refine AWP.seq ?_
    -- region 3
    refine AWP.region ?_
    refine AList.p rfl (pure_move (.tmp _ _ rfl)) ?_
    refine AList.p rfl (pure_build [(0, 1), (1, 1), (2, 1), (3, 1), (4, 1)] Tryz.underlying24 Tryz.zeroValue24 (zr24) rfl (pl24 _ Tryz.underlying24) (.cons ev_int (.inl rfl) (.cons (.tmp _ _ rfl) (.inl rfl) .nil)) rfl) ?_
    refine AList.s0 (step_store Tryz.sizeOf24 (.tmp _ _ rfl) (.tmp _ _ rfl) rfl rfl (.inr ⟨_, rfl⟩) (by first | assumption | exact (by assumption : Heap.le _ _).objs _ _ (by assumption) | exact Heap.objs_set_same _ _ _ | exact (Heap.objs_set_ne _ _ (by assumption)).trans (Heap.objs_set_same _ _ _) | exact (Heap.objs_set_ne _ _ (by assumption)).trans ((Heap.objs_set_ne _ _ (by assumption)).trans (Heap.objs_set_same _ _ _)) | exact (Heap.objs_set_ne _ _ (by assumption)).trans (by assumption)) (Nat.le_of_ble_eq_true rfl)) ?_
    rintro _ _ ⟨rfl, hH⟩
    obtain rfl := hH.symm
    try first | rw [Heap.set_set] | rw [Heap.set_under (by assumption)]
    refine AList.nil ?_
    refine Next.go ?_
    refine AWP.frz (t := 2) rfl (by first | exact hb2 | exact Heap.fresh_set hb2 _) ?_
    refine AWP.ret ?_
    -- ret 1
    refine Ret.go (.cons (.cellI _ _ _ _ rfl Tryz.isAgg24 Tryz.sizeOf24 rfl) .nil) _ (Heap.le.refl _) ?_
    refine ⟨?_, rfl⟩
    first | (rw [show NumV x = FailV 6 from if_pos (by omega)]; rfl) | (rw [show NumV x = ⟨1, x, false, [], 0⟩ from if_neg (by omega)]; rfl)

set_option maxRecDepth 100000 in
theorem rText_calls (s : List UInt8) (hs : s.length ≤ maxLen) (H : Heap) : ACall Tryz.prog 11 [.str s] H (fun y H' => y = (TextV s).av ∧ H' = H) := by
  refine ACall.of_body Tryz.func11 rfl Tryz.ntmps11 Tryz.results11 rfl ?_
  refine AWP.seq ?_
  -- region 0
  refine AWP.region ?_
  refine AList.s rfl (step_alloc Tryz.zeroValue24 (zr24)) ?_
  rintro _ _ ⟨b2, hb2, rfl, hH⟩
  obtain rfl := hH.symm
  refine AList.nil ?_
  refine Next.go ?_
  refine AWP.seq ?_
  refine AWP.seq ?_
  -- region 1
  refine AWP.region ?_
  refine AList.p rfl (pure_move (.tmp _ _ rfl)) ?_
  refine AList.p rfl (pure_lenStr Tryz.underlying9 (.tmp _ _ rfl)) ?_
  refine AList.p rfl (pure_gtr (.tmp _ _ rfl) ev_int) ?_
  refine AList.nil ?_
  refine Next.go ?_
  -- c0
  refine AWP.cond (.tmp _ _ rfl) (fun hc5 => ?_) (fun hc5 => ?_)
  · try simp only [decide_eq_true_eq] at hc5
    refine AWP.seq ?_
    -- region 2
    refine AWP.region ?_
    refine AList.s rfl (step_call0 Tryz.call15 (.cons ev_int .nil) (rFail_calls _ _)) ?_
    rintro _ _ ⟨rfl, hH⟩
    obtain rfl := hH.symm
    refine AList.s0 (step_store Tryz.sizeOf24 (.tmp _ _ rfl) (.tmp _ _ rfl) rfl rfl (.inr ⟨_, rfl⟩) (by first | assumption | exact (by assumption : Heap.le _ _).objs _ _ (by assumption) | exact Heap.objs_set_same _ _ _ | exact (Heap.objs_set_ne _ _ (by assumption)).trans (Heap.objs_set_same _ _ _) | exact (Heap.objs_set_ne _ _ (by assumption)).trans ((Heap.objs_set_ne _ _ (by assumption)).trans (Heap.objs_set_same _ _ _)) | exact (Heap.objs_set_ne _ _ (by assumption)).trans (by assumption)) (Nat.le_of_ble_eq_true rfl)) ?_
    rintro _ _ ⟨rfl, hH⟩
    obtain rfl := hH.symm
    try first | rw [Heap.set_set] | rw [Heap.set_under (by assumption)]
    refine AList.nil ?_
    refine Next.go ?_
    refine AWP.frz (t := 2) rfl (by first | exact hb2 | exact Heap.fresh_set hb2 _) ?_
    refine AWP.ret ?_
    refine Next.rt ?_
    -- ret 0
    refine Ret.go (.cons (.cellI _ _ _ _ rfl Tryz.isAgg24 Tryz.sizeOf24 rfl) .nil) _ (Heap.le.refl _) ?_
    refine ⟨?_, rfl⟩
    first | (rw [show TextV s = FailV 3 from if_pos (by omega)]; rfl) | (rw [show TextV s = ⟨3, 0, false, s, 0⟩ from if_neg (by omega)]; rfl)
  · try simp only [decide_eq_false_iff_not, Int.not_lt] at hc5
    refine AWP.skip ?_
    refine Next.go ?_
    refine AWP.seq ?_
    -- region 3
    refine AWP.region ?_
    refine AList.p rfl (pure_move (.tmp _ _ rfl)) ?_
    refine AList.p rfl (pure_build [(0, 1), (1, 1), (2, 1), (3, 1), (4, 1)] Tryz.underlying24 Tryz.zeroValue24 (zr24) rfl (pl24 _ Tryz.underlying24) (.cons ev_int (.inl rfl) (.cons (.tmp _ _ rfl) (.inl rfl) .nil)) rfl) ?_
    refine AList.s0 (step_store Tryz.sizeOf24 (.tmp _ _ rfl) (.tmp _ _ rfl) rfl rfl (.inr ⟨_, rfl⟩) (by first | assumption | exact (by assumption : Heap.le _ _).objs _ _ (by assumption) | exact Heap.objs_set_same _ _ _ | exact (Heap.objs_set_ne _ _ (by assumption)).trans (Heap.objs_set_same _ _ _) | exact (Heap.objs_set_ne _ _ (by assumption)).trans ((Heap.objs_set_ne _ _ (by assumption)).trans (Heap.objs_set_same _ _ _)) | exact (Heap.objs_set_ne _ _ (by assumption)).trans (by assumption)) (Nat.le_of_ble_eq_true rfl)) ?_
    rintro _ _ ⟨rfl, hH⟩
    obtain rfl := hH.symm
    try first | rw [Heap.set_set] | rw [Heap.set_under (by assumption)]
    refine AList.nil ?_
    refine Next.go ?_
    refine AWP.frz (t := 2) rfl (by first | exact hb2 | exact Heap.fresh_set hb2 _) ?_
    refine AWP.ret ?_
    -- ret 1
    refine Ret.go (.cons (.cellI _ _ _ _ rfl Tryz.isAgg24 Tryz.sizeOf24 rfl) .nil) _ (Heap.le.refl _) ?_
    refine ⟨?_, rfl⟩
    first | (rw [show TextV s = FailV 3 from if_pos (by omega)]; rfl) | (rw [show TextV s = ⟨3, 0, false, s, 0⟩ from if_neg (by omega)]; rfl)

end Go.Proofs.YtncoklpecffokaaGreatDoor
