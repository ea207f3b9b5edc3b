/-
  Values compared: numbers by their order, texts by their capital letters.
-/
import Derived.Test.YtncoklpecffokaaGreatDoorSv
import Derived.Test.YtncoklpecffokaaGreatDoorVb1
import Derived.Test.YtncoklpecffokaaGreatDoorVa3
import Derived.Test.YtncoklpecffokaaGreatDoorHd
namespace Go.Proofs.YtncoklpecffokaaGreatDoor
open Go Go.RowKit

def AbsF (x : Int) : Int := if KindF x = 4 then 9221120237041090560 else x % 9223372036854775808
def OrderF (x : Int) : Int := if 9223372036854775808 ≤ x then - AbsF x else x
def sgn (x y : Int) : Int := if x < y then -1 else if y < x then 1 else 0
def CmpF (a b : Int) : Int := if KindF a = 4 ∨ KindF b = 4 then 0 else sgn (OrderF a) (OrderF b)
def PlaceK (k : Int) : Int := if k = 1 then 1 else if k = 3 then 2 else if k = 2 then 3 else 0
def wordL (b : Bool) : List UInt8 := if b then [84, 82, 85, 69] else [70, 65, 76, 83, 69]
def upB (c : UInt8) : UInt8 := if 97 ≤ c.toNat ∧ c.toNat ≤ 122 then UInt8.ofNat (c.toNat - 32) else c
def upL (s : List UInt8) : List UInt8 := s.map upB
def cmpSame (a b : Val) : Int := if a.kind = 1 then CmpF a.bits b.bits else if a.kind = 2 then Lib.compareBytes (wordL a.is) (wordL b.is) else Lib.compareBytes (upL a.text) (upL b.text)
def zeroV (k : Int) : Val := ⟨k, 0, false, [], 0⟩
def CompareV (a b : Val) : Int :=
  if a.kind = 4 ∨ b.kind = 4 then 0 else
  let x := if a.kind = 0 then zeroV b.kind else a
  let y := if a.kind = 0 then b else if b.kind = 0 then zeroV a.kind else b
  if x.kind ≠ y.kind then sgn (PlaceK x.kind) (PlaceK y.kind) else cmpSame x y

theorem andSign {a : Nat} (h : a < 18446744073709551616) : a - (a &&& 9223372036854775808) = a % 9223372036854775808 := by
  have e : a &&& 9223372036854775808 = if a.testBit 63 then 9223372036854775808 else 0 := by
    apply Nat.eq_of_testBit_eq
    intro i
    rw [Nat.testBit_and, show (9223372036854775808 : Nat) = 2 ^ 63 by decide, Nat.testBit_two_pow]
    by_cases hi : 63 = i
    · subst hi
      cases a.testBit 63
      · simp
      · simp only [decide_true, Bool.and_self, if_true]; rw [Nat.testBit_two_pow]; simp
    · cases a.testBit 63
      · simp [hi]
      · simp only [hi, decide_false, Bool.and_false, if_true]; rw [Nat.testBit_two_pow]; simp [hi]
  rw [e, Nat.testBit_eq_decide_div_mod_eq]
  have h2 : (2 : Nat) ^ 63 = 9223372036854775808 := by decide
  rw [h2]
  split <;> simp_all <;> omega
theorem up32 {c : Nat} (h1 : 97 ≤ c) (h2 : c ≤ 122) : c - (c &&& 32) = c - 32 := by
  have : ∀ c : Fin 128, 97 ≤ c.1 → c.1 ≤ 122 → c.1 - (c.1 &&& 32) = c.1 - 32 := by decide
  exact this ⟨c, by omega⟩ h1 h2
theorem putRow_mid {A B ys : List AV} {x : AV} {y : AV} {o : Nat} (ho : o = A.length) (hy : ys = [y]) : putRow (A ++ x :: B) o ys = A ++ y :: B := by
  subst ho; subst hy
  simp [putRow]
def cellsU (s : List UInt8) (r : List AV) (i : Nat) : List AV := ((s.take i).map upB).map bv ++ (s.drop i).map bv ++ r
theorem cellsU_at {s : List UInt8} {r : List AV} {i : Nat} (h : i < s.length) : cellsU s r i = ((s.take i).map upB).map bv ++ bv s[i] :: ((s.drop (i + 1)).map bv ++ r) := by
  unfold cellsU
  rw [List.drop_eq_getElem_cons h, List.map_cons, List.append_assoc, List.cons_append]
theorem cellsU_next {s : List UInt8} {r : List AV} {i : Nat} (h : i < s.length) : cellsU s r (i + 1) = ((s.take i).map upB).map bv ++ bv (upB s[i]) :: ((s.drop (i + 1)).map bv ++ r) := by
  unfold cellsU
  rw [← List.take_append_getElem h, List.map_append, List.map_append]
  simp only [List.map_cons, List.map_nil, List.append_assoc, List.cons_append, List.nil_append]
theorem cellsU_get {s : List UInt8} {r : List AV} {i : Nat} (h : i < s.length) : (cellsU s r i)[0 + ((i : Nat) : Int).toNat * 1]? = some (.int .u8 ((s[i].toNat : Nat) : Int)) := by
  rw [show 0 + ((i : Nat) : Int).toNat * 1 = i by omega, cellsU_at h, List.getElem?_append_right (by simp; omega)]
  simp; rw [show i - min i s.length = 0 by omega]; rfl
theorem cellsU_len {s : List UInt8} {r : List AV} {i : Nat} : (cellsU s r i).length = s.length + r.length := by simp [cellsU]; omega
theorem cellsU_put {s : List UInt8} {r : List AV} {i : Nat} (h : i < s.length) {m : Int} (hm : m = ((upB s[i]).toNat : Nat)) : putRow (cellsU s r i) (0 + ((i : Nat) : Int).toNat * 1) [.int .u8 m] = cellsU s r (i + 1) := by
  rw [show 0 + ((i : Nat) : Int).toNat * 1 = i by omega, cellsU_at h, cellsU_next h]
  exact putRow_mid (by simp; omega) (by rw [hm]; rfl)
theorem cellsU_same {s : List UInt8} {r : List AV} {i : Nat} (h : i < s.length) (hu : upB s[i] = s[i]) : cellsU s r (i + 1) = cellsU s r i := by
  rw [cellsU_at h, cellsU_next h, hu]
theorem cellsU_done {s : List UInt8} {r : List AV} : ((cellsU s r s.length).drop 0).take (upL s).length = (upL s).map bv := by
  simp [cellsU, upL]
theorem upL_len (s : List UInt8) : (upL s).length = s.length := List.length_map _
theorem cellsU_fin {s : List UInt8} {r : List AV} {i : Nat} (h : i = s.length) : ((cellsU s r i).drop 0).take s.length = (upL s).map bv := by
  subst h; have := @cellsU_done s r; rwa [upL_len] at this
theorem upB_up {c : UInt8} (h1 : 97 ≤ c.toNat) (h2 : c.toNat ≤ 122) : ((c.toNat - (c.toNat &&& 32) : Nat) : Int) = ((upB c).toNat : Nat) := by
  rw [up32 h1 h2, upB, if_pos ⟨h1, h2⟩, UInt8.toNat_ofNat']
  have : (c.toNat - 32) % 2 ^ 8 = c.toNat - 32 := Nat.mod_eq_of_lt (by omega)
  rw [this]
theorem upB_same {c : UInt8} (h : ¬ (97 ≤ c.toNat ∧ c.toNat ≤ 122)) : upB c = c := if_neg h
theorem abs_lt (x : Int) : 0 ≤ AbsF x ∧ AbsF x < 9223372036854775808 := by
  unfold AbsF; split <;> omega

theorem ext101 : IsExt Tryz.prog 101 Extern.BytealgCompare.compare := ⟨_, Tryz.func101, by kernel_rfl, by kernel_rfl, by kernel_rfl, by kernel_rfl⟩

set_option maxRecDepth 100000 in
theorem Abs_calls (x : Nat) (hx : x < 18446744073709551616) (H : Heap) : ACall Tryz.prog 100 [.int .u64 (x : Int)] H (fun y H' => y = .int .u64 (AbsF x) ∧ H' = H) := by
  refine ACall.of_body Tryz.func100 rfl Tryz.ntmps100 Tryz.results100 rfl ?_
  refine AWP.seq ?_
  -- region 0
  refine AWP.region ?_
  refine AList.p rfl (pure_assign (ev_nat 0)) ?_
  refine AList.nil ?_
  refine Next.go ?_
  refine AWP.seq ?_
  refine AWP.seq ?_
  -- region 1
  refine AWP.region ?_
  refine AList.p rfl (pure_move (.tmp _ _ rfl)) ?_
  refine AList.s rfl (step_call0 Tryz.call28 (.cons (.tmp _ _ rfl) .nil) (Kind_calls _ (by omega) (by omega) _)) ?_
  rintro _ _ ⟨rfl, hH⟩
  obtain rfl := hH.symm
  refine AList.p rfl (pure_eql (.tmp _ _ rfl) ev_int) ?_
  refine AList.nil ?_
  refine Next.go ?_
  -- c0
  refine AWP.cond (.tmp _ _ rfl) (fun hc5 => ?_) (fun hc5 => ?_)
  · try simp only [decide_eq_true_eq] at hc5
    refine AWP.seq ?_
    -- region 2
    refine AWP.region ?_
    refine AList.p rfl (pure_assign (ev_nat 9221120237041090560)) ?_
    refine AList.nil ?_
    refine Next.go ?_
    refine AWP.ret ?_
    refine Next.rt ?_
    -- ret 0
    refine Ret.go (.cons (.tmp _ _ rfl) .nil) _ (Heap.le.refl _) ?_
    refine ⟨?_, rfl⟩
    first | (rw [AbsF, if_pos (by omega)]; rfl) | (rw [AbsF, if_neg (by omega), andSign hx]; rfl)
  · try simp only [decide_eq_false_iff_not] at hc5
    refine AWP.skip ?_
    refine Next.go ?_
    refine AWP.seq ?_
    -- region 3
    refine AWP.region ?_
    refine AList.p rfl (pure_move (.tmp _ _ rfl)) ?_
    refine AList.p rfl (pure_andNot64 (.tmp _ _ rfl) (ev_nat 9223372036854775808) (by first | assumption | omega) (by first | assumption | omega)) ?_
    refine AList.p rfl (pure_assign (.tmp _ _ rfl)) ?_
    refine AList.nil ?_
    refine Next.go ?_
    refine AWP.ret ?_
    -- ret 1
    refine Ret.go (.cons (.tmp _ _ rfl) .nil) _ (Heap.le.refl _) ?_
    refine ⟨?_, rfl⟩
    first | (rw [AbsF, if_pos (by omega)]; rfl) | (rw [AbsF, if_neg (by omega), andSign hx]; rfl)

set_option maxRecDepth 100000 in
theorem order_calls (x : Nat) (hx : x < 18446744073709551616) (H : Heap) : ACall Tryz.prog 69 [.int .u64 (x : Int)] H (fun y H' => y = .int .i64 (OrderF x) ∧ H' = H) := by
  have hab := abs_lt x
  refine ACall.of_body Tryz.func69 rfl Tryz.ntmps69 Tryz.results69 rfl ?_
  refine AWP.seq ?_
  -- region 0
  refine AWP.region ?_
  refine AList.p rfl (pure_assign ev_int) ?_
  refine AList.nil ?_
  refine Next.go ?_
  refine AWP.seq ?_
  refine AWP.seq ?_
  -- region 1
  refine AWP.region ?_
  refine AList.p rfl (pure_move (.tmp _ _ rfl)) ?_
  refine AList.p rfl (pure_shr64 (.tmp _ _ rfl) (ev_nat 63) (by first | assumption | omega)) ?_
  refine AList.p rfl (pure_eql (.tmp _ _ rfl) (ev_nat 1)) ?_
  refine AList.nil ?_
  refine Next.go ?_
  -- c0
  refine AWP.cond (.tmp _ _ rfl) (fun hc5 => ?_) (fun hc5 => ?_)
  · try simp only [decide_eq_true_eq] at hc5
    refine AWP.seq ?_
    -- region 2
    refine AWP.region ?_
    refine AList.p rfl (pure_move (.tmp _ _ rfl)) ?_
    refine AList.s rfl (step_call0 Tryz.call100 (.cons (.tmp _ _ rfl) .nil) (Abs_calls _ hx _)) ?_
    rintro _ _ ⟨rfl, hH⟩
    obtain rfl := hH.symm
    refine AList.p rfl (pure_convX Tryz.underlying22 Tryz.underlying3 (.tmp _ _ rfl) (wrapI64 hab.1 hab.2)) ?_
    refine AList.p rfl (pure_neg (.tmp _ _ rfl) (by omega)) ?_
    refine AList.p rfl (pure_assign (.tmp _ _ rfl)) ?_
    refine AList.nil ?_
    refine Next.go ?_
    refine AWP.ret ?_
    refine Next.rt ?_
    -- ret 0
    refine Ret.go (.cons (.tmp _ _ rfl) .nil) _ (Heap.le.refl _) ?_
    refine ⟨?_, rfl⟩
    first | (rw [OrderF, if_pos (by omega)]; rfl) | (rw [OrderF, if_neg (by omega)]; rfl)
  · try simp only [decide_eq_false_iff_not] at hc5
    refine AWP.skip ?_
    refine Next.go ?_
    refine AWP.seq ?_
    -- region 3
    refine AWP.region ?_
    refine AList.p rfl (pure_move (.tmp _ _ rfl)) ?_
    refine AList.p rfl (pure_convX Tryz.underlying22 Tryz.underlying3 (.tmp _ _ rfl) (wrapNI64 (by first | assumption | omega))) ?_
    refine AList.p rfl (pure_assign (.tmp _ _ rfl)) ?_
    refine AList.nil ?_
    refine Next.go ?_
    refine AWP.ret ?_
    -- ret 1
    refine Ret.go (.cons (.tmp _ _ rfl) .nil) _ (Heap.le.refl _) ?_
    refine ⟨?_, rfl⟩
    first | (rw [OrderF, if_pos (by omega)]; rfl) | (rw [OrderF, if_neg (by omega)]; rfl)

theorem orderI_calls (x : Int) (h0 : 0 ≤ x) (h1 : x < 18446744073709551616) (H : Heap) : ACall Tryz.prog 69 [.int .u64 x] H (fun y H' => y = .int .i64 (OrderF x) ∧ H' = H) := by
  obtain ⟨a, rfl⟩ := Int.eq_ofNat_of_zero_le h0
  exact order_calls a (by omega) H

set_option maxRecDepth 100000 in
theorem Cmp_calls (x y : Int) (h0 : 0 ≤ x) (h1 : x < 18446744073709551616) (k0 : 0 ≤ y) (k1 : y < 18446744073709551616) (H : Heap) : ACall Tryz.prog 47 [.int .u64 x, .int .u64 y] H (fun z H' => (∃ b, z = .tuple [.int .i64 (CmpF x y), .bool b]) ∧ H' = H) := by
  refine ACall.of_body Tryz.func47 rfl Tryz.ntmps47 Tryz.results47 rfl ?_
  refine AWP.seq ?_
  -- region 0
  refine AWP.region ?_
  refine AList.p rfl (pure_assign ev_int) ?_
  refine AList.p rfl (pure_assign ev_bool) ?_
  refine AList.nil ?_
  refine Next.go ?_
  refine AWP.seq ?_
  refine AWP.seq ?_
  -- region 1
  refine AWP.region ?_
  refine AList.p rfl (pure_move (.tmp _ _ rfl)) ?_
  refine AList.s rfl (step_call0 Tryz.call28 (.cons (.tmp _ _ rfl) .nil) (Kind_calls _ (by omega) (by omega) _)) ?_
  rintro _ _ ⟨rfl, hH⟩
  obtain rfl := hH.symm
  refine AList.p rfl (pure_eql (.tmp _ _ rfl) ev_int) ?_
  refine AList.p rfl (pure_move (.tmp _ _ rfl)) ?_
  -- the guard in slot 11
  refine bool_casesL (t := 11) rfl (fun hg11 => ?_) (fun hg11 => ?_)
  · have hh11 := hg11; try simp only [decide_eq_true_eq] at hh11
    refine AList.gn rfl rfl rfl (by first | rfl | assumption) ?_
    refine AList.gn rfl rfl rfl (by first | rfl | assumption) ?_
    refine AList.gn rfl rfl rfl (by first | rfl | assumption) ?_
    refine AList.p rfl (pure_pickT (.tmp _ _ rfl) (by first | rfl | assumption) ev_bool) ?_
    refine AList.nil ?_
    refine Next.go ?_
    -- c0
    refine AWP.cond_true (.tmp _ _ rfl) (by first | rfl | assumption) ?_
    refine AWP.seq ?_
    -- region 2
    refine AWP.region ?_
    refine AList.p rfl (pure_assign ev_int) ?_
    refine AList.p rfl (pure_assign ev_bool) ?_
    refine AList.nil ?_
    refine Next.go ?_
    refine AWP.ret ?_
    refine Next.rt ?_
    -- ret 0
    refine Ret.go (.cons (.tmp _ _ rfl) (.cons (.tmp _ _ rfl) .nil)) _ (Heap.le.refl _) ?_
    refine ⟨⟨_, congrArg (fun z => AV.tuple [AV.int .i64 z, _]) ?_⟩, rfl⟩
    simp only [CmpF, sgn]
    first | (rw [if_pos (by omega)]; done) | (rw [if_neg (by omega), if_pos (by omega)]; done) | (rw [if_neg (by omega), if_neg (by omega), if_pos (by omega)]; done) | (rw [if_neg (by omega), if_neg (by omega), if_neg (by omega)]; done)
  · have hh11 := hg11; try simp only [decide_eq_false_iff_not] at hh11
    refine AList.gp rfl rfl rfl (by first | rfl | assumption) (pure_move (.tmp _ _ rfl)) ?_
    refine AList.gs rfl rfl rfl (by first | rfl | assumption) (step_call0 Tryz.call28 (.cons (.tmp _ _ rfl) .nil) (Kind_calls _ (by omega) (by omega) _)) ?_
    rintro _ _ ⟨rfl, hH⟩
    obtain rfl := hH.symm
    refine AList.gp rfl rfl rfl (by first | rfl | assumption) (pure_eql (.tmp _ _ rfl) ev_int) ?_
    refine AList.p rfl (pure_pickF (.tmp _ _ rfl) (by first | rfl | assumption) (.tmp _ _ rfl)) ?_
    refine AList.nil ?_
    refine Next.go ?_
    -- c0
    refine AWP.cond (.tmp _ _ rfl) (fun hc15 => ?_) (fun hc15 => ?_)
    · try simp only [decide_eq_true_eq] at hc15
      refine AWP.seq ?_
      -- region 2
      refine AWP.region ?_
      refine AList.p rfl (pure_assign ev_int) ?_
      refine AList.p rfl (pure_assign ev_bool) ?_
      refine AList.nil ?_
      refine Next.go ?_
      refine AWP.ret ?_
      refine Next.rt ?_
      -- ret 1
      refine Ret.go (.cons (.tmp _ _ rfl) (.cons (.tmp _ _ rfl) .nil)) _ (Heap.le.refl _) ?_
      refine ⟨⟨_, congrArg (fun z => AV.tuple [AV.int .i64 z, _]) ?_⟩, rfl⟩
      simp only [CmpF, sgn]
      first | (rw [if_pos (by omega)]; done) | (rw [if_neg (by omega), if_pos (by omega)]; done) | (rw [if_neg (by omega), if_neg (by omega), if_pos (by omega)]; done) | (rw [if_neg (by omega), if_neg (by omega), if_neg (by omega)]; done)
    · try simp only [decide_eq_false_iff_not] at hc15
      refine AWP.skip ?_
      refine Next.go ?_
      refine AWP.seq ?_
      refine AWP.seq ?_
      -- region 3
      refine AWP.region ?_
      refine AList.p rfl (pure_move (.tmp _ _ rfl)) ?_
      refine AList.s rfl (step_call0 Tryz.call69 (.cons (.tmp _ _ rfl) .nil) (orderI_calls _ (by omega) (by omega) _)) ?_
      rintro _ _ ⟨rfl, hH⟩
      obtain rfl := hH.symm
      refine AList.p rfl (pure_move (.tmp _ _ rfl)) ?_
      refine AList.s rfl (step_call0 Tryz.call69 (.cons (.tmp _ _ rfl) .nil) (orderI_calls _ (by omega) (by omega) _)) ?_
      rintro _ _ ⟨rfl, hH⟩
      obtain rfl := hH.symm
      refine AList.p rfl (pure_assign (.tmp _ _ rfl)) ?_
      refine AList.p rfl (pure_assign (.tmp _ _ rfl)) ?_
      refine AList.nil ?_
      refine Next.go ?_
      refine AWP.block ?_
      refine AWP.seq ?_
      -- region 4
      refine AWP.region ?_
      refine AList.p rfl (pure_move (.tmp _ _ rfl)) ?_
      refine AList.p rfl (pure_move (.tmp _ _ rfl)) ?_
      refine AList.p rfl (pure_lss (.tmp _ _ rfl) (.tmp _ _ rfl)) ?_
      refine AList.p rfl (pure_assign (.tmp _ _ rfl)) ?_
      refine AList.nil ?_
      refine Next.go ?_
      -- c1
      refine AWP.cond (.tmp _ _ rfl) (fun hc20 => ?_) (fun hc20 => ?_)
      · try simp only [decide_eq_true_eq] at hc20
        refine AWP.seq ?_
        -- region 5
        refine AWP.region ?_
        refine AList.p rfl (pure_assign ev_int) ?_
        refine AList.p rfl (pure_assign ev_bool) ?_
        refine AList.nil ?_
        refine Next.go ?_
        refine AWP.ret ?_
        refine Block.rt ?_
        refine Next.rt ?_
        -- ret 2
        refine Ret.go (.cons (.tmp _ _ rfl) (.cons (.tmp _ _ rfl) .nil)) _ (Heap.le.refl _) ?_
        refine ⟨⟨_, congrArg (fun z => AV.tuple [AV.int .i64 z, _]) ?_⟩, rfl⟩
        simp only [CmpF, sgn]
        first | (rw [if_pos (by omega)]; done) | (rw [if_neg (by omega), if_pos (by omega)]; done) | (rw [if_neg (by omega), if_neg (by omega), if_pos (by omega)]; done) | (rw [if_neg (by omega), if_neg (by omega), if_neg (by omega)]; done)
      · try simp only [decide_eq_false_iff_not, Int.not_lt] at hc20
        refine AWP.seq ?_
        -- region 6
        refine AWP.region ?_
        refine AList.p rfl (pure_move (.tmp _ _ rfl)) ?_
        refine AList.p rfl (pure_move (.tmp _ _ rfl)) ?_
        refine AList.p rfl (pure_gtr (.tmp _ _ rfl) (.tmp _ _ rfl)) ?_
        refine AList.p rfl (pure_assign (.tmp _ _ rfl)) ?_
        refine AList.nil ?_
        refine Next.go ?_
        -- c2
        refine AWP.cond (.tmp _ _ rfl) (fun hc24 => ?_) (fun hc24 => ?_)
        · try simp only [decide_eq_true_eq] at hc24
          refine AWP.seq ?_
          -- region 7
          refine AWP.region ?_
          refine AList.p rfl (pure_assign ev_int) ?_
          refine AList.p rfl (pure_assign ev_bool) ?_
          refine AList.nil ?_
          refine Next.go ?_
          refine AWP.ret ?_
          refine Block.rt ?_
          refine Next.rt ?_
          -- ret 3
          refine Ret.go (.cons (.tmp _ _ rfl) (.cons (.tmp _ _ rfl) .nil)) _ (Heap.le.refl _) ?_
          refine ⟨⟨_, congrArg (fun z => AV.tuple [AV.int .i64 z, _]) ?_⟩, rfl⟩
          simp only [CmpF, sgn]
          first | (rw [if_pos (by omega)]; done) | (rw [if_neg (by omega), if_pos (by omega)]; done) | (rw [if_neg (by omega), if_neg (by omega), if_pos (by omega)]; done) | (rw [if_neg (by omega), if_neg (by omega), if_neg (by omega)]; done)
        · try simp only [decide_eq_false_iff_not, Int.not_lt] at hc24
          refine AWP.skip ?_
          refine Block.go ?_
          refine Next.go ?_
          refine AWP.seq ?_
          -- region 8
          refine AWP.region ?_
          refine AList.p rfl (pure_assign ev_int) ?_
          refine AList.p rfl (pure_assign ev_bool) ?_
          refine AList.nil ?_
          refine Next.go ?_
          refine AWP.ret ?_
          -- ret 4
          refine Ret.go (.cons (.tmp _ _ rfl) (.cons (.tmp _ _ rfl) .nil)) _ (Heap.le.refl _) ?_
          refine ⟨⟨_, congrArg (fun z => AV.tuple [AV.int .i64 z, _]) ?_⟩, rfl⟩
          simp only [CmpF, sgn]
          first | (rw [if_pos (by omega)]; done) | (rw [if_neg (by omega), if_pos (by omega)]; done) | (rw [if_neg (by omega), if_neg (by omega), if_pos (by omega)]; done) | (rw [if_neg (by omega), if_neg (by omega), if_neg (by omega)]; done)

set_option maxRecDepth 100000 in
theorem isNaN_calls (x : Int) (H : Heap) : ACall Tryz.prog 46 [.int .i64 x] H (fun y H' => y = .bool false ∧ H' = H) := by
  refine ACall.of_body Tryz.func46 rfl Tryz.ntmps46 Tryz.results46 rfl ?_
  refine AWP.seq ?_
  -- region 0
  refine AWP.region ?_
  refine AList.p rfl (pure_assign ev_bool) ?_
  refine AList.nil ?_
  refine Next.go ?_
  refine AWP.seq ?_
  -- region 1
  refine AWP.region ?_
  refine AList.p rfl (pure_move (.tmp _ _ rfl)) ?_
  refine AList.p rfl (pure_move (.tmp _ _ rfl)) ?_
  refine AList.p rfl (pure_neq (.tmp _ _ rfl) (.tmp _ _ rfl)) ?_
  refine AList.p rfl (pure_assign (.tmp _ _ rfl)) ?_
  refine AList.nil ?_
  refine Next.go ?_
  refine AWP.ret ?_
  -- ret 0
  refine Ret.go (.cons (.tmp _ _ rfl) .nil) _ (Heap.le.refl _) ?_
  refine ⟨?_, rfl⟩
  simp [packed]

set_option maxRecDepth 100000 in
theorem cmpInt_calls (x y : Int) (H : Heap) : ACall Tryz.prog 30 [.int .i64 x, .int .i64 y] H (fun z H' => z = .int .i64 (sgn x y) ∧ H' = H) := by
  refine ACall.of_body Tryz.func30 rfl Tryz.ntmps30 Tryz.results30 rfl ?_
  refine AWP.seq ?_
  -- region 0
  refine AWP.region ?_
  refine AList.p rfl (pure_assign ev_int) ?_
  refine AList.nil ?_
  refine Next.go ?_
  refine AWP.seq ?_
  -- region 1
  refine AWP.region ?_
  refine AList.p rfl (pure_move (.tmp _ _ rfl)) ?_
  refine AList.s rfl (step_call0 Tryz.call46 (.cons (.tmp _ _ rfl) .nil) (isNaN_calls _ _)) ?_
  rintro _ _ ⟨rfl, hH⟩
  obtain rfl := hH.symm
  refine AList.p rfl (pure_assign (.tmp _ _ rfl)) ?_
  refine AList.nil ?_
  refine Next.go ?_
  refine AWP.seq ?_
  -- region 2
  refine AWP.region ?_
  refine AList.p rfl (pure_move (.tmp _ _ rfl)) ?_
  refine AList.s rfl (step_call0 Tryz.call46 (.cons (.tmp _ _ rfl) .nil) (isNaN_calls _ _)) ?_
  rintro _ _ ⟨rfl, hH⟩
  obtain rfl := hH.symm
  refine AList.p rfl (pure_assign (.tmp _ _ rfl)) ?_
  refine AList.nil ?_
  refine Next.go ?_
  refine AWP.seq ?_
  refine AWP.seq ?_
  -- region 3
  refine AWP.region ?_
  refine AList.p rfl (pure_move (.tmp _ _ rfl)) ?_
  refine AList.nil ?_
  refine Next.go ?_
  -- c0
  refine AWP.cond_false (.tmp _ _ rfl) (by rfl) ?_
  refine AWP.skip ?_
  refine Next.go ?_
  refine AWP.seq ?_
  refine AWP.seq ?_
  -- region 7
  refine AWP.region ?_
  refine AList.p rfl (pure_move (.tmp _ _ rfl)) ?_
  refine AList.nil ?_
  refine Next.go ?_
  -- c2
  refine AWP.cond_false (.tmp _ _ rfl) (by rfl) ?_
  refine AWP.skip ?_
  refine Next.go ?_
  refine AWP.seq ?_
  refine AWP.seq ?_
  -- region 9
  refine AWP.region ?_
  refine AList.p rfl (pure_move (.tmp _ _ rfl)) ?_
  refine AList.p rfl (pure_move (.tmp _ _ rfl)) ?_
  refine AList.p rfl (pure_lss (.tmp _ _ rfl) (.tmp _ _ rfl)) ?_
  refine AList.nil ?_
  refine Next.go ?_
  -- c3
  refine AWP.cond (.tmp _ _ rfl) (fun hc16 => ?_) (fun hc16 => ?_)
  · try simp only [decide_eq_true_eq] at hc16
    refine AWP.seq ?_
    -- region 10
    refine AWP.region ?_
    refine AList.p rfl (pure_assign ev_int) ?_
    refine AList.nil ?_
    refine Next.go ?_
    refine AWP.ret ?_
    refine Next.rt ?_
    -- ret 0
    refine Ret.go (.cons (.tmp _ _ rfl) .nil) _ (Heap.le.refl _) ?_
    refine ⟨?_, rfl⟩
    simp only [packed, sgn]
    first | (rw [if_pos (by omega)]; done) | (rw [if_neg (by omega), if_pos (by omega)]; done) | (rw [if_neg (by omega), if_neg (by omega)]; done)
  · try simp only [decide_eq_false_iff_not, Int.not_lt] at hc16
    refine AWP.skip ?_
    refine Next.go ?_
    refine AWP.seq ?_
    refine AWP.seq ?_
    -- region 11
    refine AWP.region ?_
    refine AList.p rfl (pure_move (.tmp _ _ rfl)) ?_
    refine AList.p rfl (pure_move (.tmp _ _ rfl)) ?_
    refine AList.p rfl (pure_gtr (.tmp _ _ rfl) (.tmp _ _ rfl)) ?_
    refine AList.nil ?_
    refine Next.go ?_
    -- c4
    refine AWP.cond (.tmp _ _ rfl) (fun hc19 => ?_) (fun hc19 => ?_)
    · try simp only [decide_eq_true_eq] at hc19
      refine AWP.seq ?_
      -- region 12
      refine AWP.region ?_
      refine AList.p rfl (pure_assign ev_int) ?_
      refine AList.nil ?_
      refine Next.go ?_
      refine AWP.ret ?_
      refine Next.rt ?_
      -- ret 1
      refine Ret.go (.cons (.tmp _ _ rfl) .nil) _ (Heap.le.refl _) ?_
      refine ⟨?_, rfl⟩
      simp only [packed, sgn]
      first | (rw [if_pos (by omega)]; done) | (rw [if_neg (by omega), if_pos (by omega)]; done) | (rw [if_neg (by omega), if_neg (by omega)]; done)
    · try simp only [decide_eq_false_iff_not, Int.not_lt] at hc19
      refine AWP.skip ?_
      refine Next.go ?_
      refine AWP.seq ?_
      -- region 13
      refine AWP.region ?_
      refine AList.p rfl (pure_assign ev_int) ?_
      refine AList.nil ?_
      refine Next.go ?_
      refine AWP.ret ?_
      -- ret 2
      refine Ret.go (.cons (.tmp _ _ rfl) .nil) _ (Heap.le.refl _) ?_
      refine ⟨?_, rfl⟩
      simp only [packed, sgn]
      first | (rw [if_pos (by omega)]; done) | (rw [if_neg (by omega), if_pos (by omega)]; done) | (rw [if_neg (by omega), if_neg (by omega)]; done)

set_option maxRecDepth 100000 in
theorem place_calls (k : Int) (H : Heap) : ACall Tryz.prog 31 [.int .i64 k] H (fun z H' => z = .int .i64 (PlaceK k) ∧ H' = H) := by
  refine ACall.of_body Tryz.func31 rfl Tryz.ntmps31 Tryz.results31 rfl ?_
  refine AWP.seq ?_
  -- region 0
  refine AWP.region ?_
  refine AList.p rfl (pure_assign ev_int) ?_
  refine AList.nil ?_
  refine Next.go ?_
  refine AWP.seq ?_
  refine AWP.seq ?_
  -- region 1
  refine AWP.region ?_
  refine AList.p rfl (pure_move (.tmp _ _ rfl)) ?_
  refine AList.nil ?_
  refine Next.go ?_
  refine AWP.block ?_
  refine AWP.seq ?_
  -- region 2
  refine AWP.region ?_
  refine AList.p rfl (pure_eql (.tmp _ _ rfl) ev_int) ?_
  refine AList.p rfl (pure_assign (.tmp _ _ rfl)) ?_
  refine AList.nil ?_
  refine Next.go ?_
  -- c0
  refine AWP.cond (.tmp _ _ rfl) (fun hc4 => ?_) (fun hc4 => ?_)
  · try simp only [decide_eq_true_eq] at hc4
    refine AWP.seq ?_
    -- region 3
    refine AWP.region ?_
    refine AList.p rfl (pure_assign ev_int) ?_
    refine AList.nil ?_
    refine Next.go ?_
    refine AWP.ret ?_
    refine Block.rt ?_
    refine Next.rt ?_
    -- ret 0
    refine Ret.go (.cons (.tmp _ _ rfl) .nil) _ (Heap.le.refl _) ?_
    refine ⟨?_, rfl⟩
    simp_all [packed, PlaceK]
  · try simp only [decide_eq_false_iff_not] at hc4
    refine AWP.seq ?_
    -- region 4
    refine AWP.region ?_
    refine AList.p rfl (pure_eql (.tmp _ _ rfl) ev_int) ?_
    refine AList.p rfl (pure_assign (.tmp _ _ rfl)) ?_
    refine AList.nil ?_
    refine Next.go ?_
    -- c1
    refine AWP.cond (.tmp _ _ rfl) (fun hc6 => ?_) (fun hc6 => ?_)
    · try simp only [decide_eq_true_eq] at hc6
      refine AWP.seq ?_
      -- region 5
      refine AWP.region ?_
      refine AList.p rfl (pure_assign ev_int) ?_
      refine AList.nil ?_
      refine Next.go ?_
      refine AWP.ret ?_
      refine Block.rt ?_
      refine Next.rt ?_
      -- ret 1
      refine Ret.go (.cons (.tmp _ _ rfl) .nil) _ (Heap.le.refl _) ?_
      refine ⟨?_, rfl⟩
      simp_all [packed, PlaceK]
    · try simp only [decide_eq_false_iff_not] at hc6
      refine AWP.seq ?_
      -- region 6
      refine AWP.region ?_
      refine AList.p rfl (pure_eql (.tmp _ _ rfl) ev_int) ?_
      refine AList.p rfl (pure_assign (.tmp _ _ rfl)) ?_
      refine AList.nil ?_
      refine Next.go ?_
      -- c2
      refine AWP.cond (.tmp _ _ rfl) (fun hc8 => ?_) (fun hc8 => ?_)
      · try simp only [decide_eq_true_eq] at hc8
        refine AWP.seq ?_
        -- region 7
        refine AWP.region ?_
        refine AList.p rfl (pure_assign ev_int) ?_
        refine AList.nil ?_
        refine Next.go ?_
        refine AWP.ret ?_
        refine Block.rt ?_
        refine Next.rt ?_
        -- ret 2
        refine Ret.go (.cons (.tmp _ _ rfl) .nil) _ (Heap.le.refl _) ?_
        refine ⟨?_, rfl⟩
        simp_all [packed, PlaceK]
      · try simp only [decide_eq_false_iff_not] at hc8
        refine AWP.skip ?_
        refine Block.go ?_
        refine Next.go ?_
        refine AWP.seq ?_
        -- region 8
        refine AWP.region ?_
        refine AList.p rfl (pure_assign ev_int) ?_
        refine AList.nil ?_
        refine Next.go ?_
        refine AWP.ret ?_
        -- ret 3
        refine Ret.go (.cons (.tmp _ _ rfl) .nil) _ (Heap.le.refl _) ?_
        refine ⟨?_, rfl⟩
        simp_all [packed, PlaceK]

set_option maxRecDepth 100000 in
theorem CompareString_calls (s t : List UInt8) (H : Heap) : ACall Tryz.prog 70 [.str s, .str t] H (fun z H' => z = .int .i64 (Lib.compareBytes s t) ∧ H' = H) := by
  refine ACall.of_body Tryz.func70 rfl Tryz.ntmps70 Tryz.results70 rfl ?_
  refine AWP.seq ?_
  -- region 0
  refine AWP.region ?_
  refine AList.p rfl (pure_assign ev_int) ?_
  refine AList.nil ?_
  refine Next.go ?_
  refine AWP.seq ?_
  -- region 1
  refine AWP.region ?_
  refine AList.p rfl (pure_move (.tmp _ _ rfl)) ?_
  refine AList.p rfl (pure_move (.tmp _ _ rfl)) ?_
  refine AList.s rfl (step_ext ext101 (.cons (.tmp _ _ rfl) (.cons (.tmp _ _ rfl) .nil)) (ext_cmp)) ?_
  rintro _ _ ⟨rfl, hH⟩
  obtain rfl := hH.symm
  refine AList.p rfl (pure_assign (.tmp _ _ rfl)) ?_
  refine AList.nil ?_
  refine Next.go ?_
  refine AWP.ret ?_
  -- ret 0
  refine Ret.go (.cons (.tmp _ _ rfl) .nil) _ (Heap.le.refl _) ?_
  exact ⟨rfl, rfl⟩

set_option maxRecDepth 100000 in
theorem strCompare_calls (s t : List UInt8) (H : Heap) : ACall Tryz.prog 48 [.str s, .str t] H (fun z H' => z = .int .i64 (Lib.compareBytes s t) ∧ H' = H) := by
  refine ACall.of_body Tryz.func48 rfl Tryz.ntmps48 Tryz.results48 rfl ?_
  refine AWP.seq ?_
  -- region 0
  refine AWP.region ?_
  refine AList.p rfl (pure_assign ev_int) ?_
  refine AList.nil ?_
  refine Next.go ?_
  refine AWP.seq ?_
  -- region 1
  refine AWP.region ?_
  refine AList.p rfl (pure_move (.tmp _ _ rfl)) ?_
  refine AList.p rfl (pure_move (.tmp _ _ rfl)) ?_
  refine AList.s rfl (step_call0 Tryz.call70 (.cons (.tmp _ _ rfl) (.cons (.tmp _ _ rfl) .nil)) (CompareString_calls _ _ _)) ?_
  rintro _ _ ⟨rfl, hH⟩
  obtain rfl := hH.symm
  refine AList.p rfl (pure_assign (.tmp _ _ rfl)) ?_
  refine AList.nil ?_
  refine Next.go ?_
  refine AWP.ret ?_
  -- ret 0
  refine Ret.go (.cons (.tmp _ _ rfl) .nil) _ (Heap.le.refl _) ?_
  exact ⟨rfl, rfl⟩

set_option maxRecDepth 100000 in
theorem word_calls (b : Bool) (H : Heap) : ACall Tryz.prog 49 [.bool b] H (fun z H' => z = .str (wordL b) ∧ H' = H) := by
  refine ACall.of_body Tryz.func49 rfl Tryz.ntmps49 Tryz.results49 rfl ?_
  refine AWP.seq ?_
  -- region 0
  refine AWP.region ?_
  refine AList.p rfl (pure_assign (ev_str rfl)) ?_
  refine AList.nil ?_
  refine Next.go ?_
  refine AWP.seq ?_
  refine AWP.seq ?_
  -- region 1
  refine AWP.region ?_
  refine AList.p rfl (pure_move (.tmp _ _ rfl)) ?_
  refine AList.nil ?_
  refine Next.go ?_
  -- c0
  refine AWP.cond (.tmp _ _ rfl) (fun hc3 => ?_) (fun hc3 => ?_)
  · try simp only [decide_eq_true_eq, decide_eq_false_iff_not, Bool.not_eq_true', Bool.not_eq_false', Int.not_lt, Int.not_le, ne_eq, Decidable.not_not] at hc3
    refine AWP.seq ?_
    -- region 2
    refine AWP.region ?_
    refine AList.p rfl (pure_assign (ev_str rfl)) ?_
    refine AList.nil ?_
    refine Next.go ?_
    refine AWP.ret ?_
    refine Next.rt ?_
    -- ret 0
    refine Ret.go (.cons (.tmp _ _ rfl) .nil) _ (Heap.le.refl _) ?_
    refine ⟨?_, rfl⟩
    simp_all [packed, wordL]
  · try simp only [decide_eq_true_eq, decide_eq_false_iff_not, Bool.not_eq_true', Bool.not_eq_false', Int.not_lt, Int.not_le, ne_eq, Decidable.not_not] at hc3
    refine AWP.skip ?_
    refine Next.go ?_
    refine AWP.seq ?_
    -- region 3
    refine AWP.region ?_
    refine AList.p rfl (pure_assign (ev_str rfl)) ?_
    refine AList.nil ?_
    refine Next.go ?_
    refine AWP.ret ?_
    -- ret 1
    refine Ret.go (.cons (.tmp _ _ rfl) .nil) _ (Heap.le.refl _) ?_
    refine ⟨?_, rfl⟩
    simp_all [packed, wordL]

def upper_J (s : List UInt8) (b : Nat) (c : Nat) (H : Heap) : Nat → Env → Heap → Prop := fun k env H1 => ∃ i : Nat, i ≤ s.length ∧ env = [(3, .mslice (some ⟨b, 0, none⟩) s.length c), (8, .mslice (some ⟨b, 0, none⟩) s.length c), (9, .int .i64 s.length), (10, .int .i64 i)] ∧ H1 = H.set b (.box 5 (cellsU s (List.replicate (c - s.length) (.int .u8 0)) i)) ∧ k = s.length - i

set_option maxRecDepth 100000 in
theorem upper_calls (s : List UInt8) (hs : s.length ≤ 1000000) (H : Heap) : ACall Tryz.prog 50 [.str s] H (fun z H' => z = .str (upL s) ∧ H' = H) := by
  refine ACall.of_body Tryz.func50 rfl Tryz.ntmps50 Tryz.results50 rfl ?_
  refine AWP.seq ?_
  -- region 0
  refine AWP.region ?_
  refine AList.p rfl (pure_assign (ev_str rfl)) ?_
  refine AList.nil ?_
  refine Next.go ?_
  refine AWP.seq ?_
  -- region 1
  refine AWP.region ?_
  refine AList.p rfl (pure_move (.tmp _ _ rfl)) ?_
  refine AList.s rfl (step_bytes Tryz.underlying9 Tryz.underlying115 Tryz.underlying5 (.tmp _ _ rfl) (by omega)) ?_
  rintro _ _ ⟨b7, c7, rfl, hcl7, hcm7, hb7, hH⟩
  obtain rfl := hH.symm
  refine AList.p rfl (pure_assign (.tmp _ _ rfl)) ?_
  refine AList.nil ?_
  refine Next.go ?_
  refine AWP.seq ?_
  refine AWP.seq ?_
  -- region 2
  refine AWP.region ?_
  refine AList.p rfl (pure_move (.tmp _ _ rfl)) ?_
  first | (refine AList.p rfl (pure_lenL Tryz.underlying115 (.tmp _ _ rfl)) ?_) | (refine AList.p rfl (pure_lenS Tryz.underlying115 (.tmp _ _ rfl)) ?_) | (refine AList.p rfl (pure_lenM Tryz.underlying115 (.tmp _ _ rfl)) ?_)
  refine AList.p rfl (pure_move ev_int) ?_
  refine AList.nil ?_
  refine Next.go ?_
  refine AWP.block ?_
  -- L0
  refine AWP.loopW (upper_J s b7 c7 H) (s.length) ⟨0, Nat.zero_le _, rfl, by simp [cellsU], rfl⟩ (sub_c rfl (sub_c rfl (sub_c rfl (sub_c rfl sub_n)))) (Heap.le.refl _) ?_
  rintro _ _ _ ⟨i, hi0, rfl, rfl, rfl⟩
  refine AWP.seq ?_
  -- region 3
  refine AWP.region ?_
  refine AList.p rfl (pure_lss (.tmp _ _ rfl) (.tmp _ _ rfl)) ?_
  refine AList.nil ?_
  refine Next.go ?_
  refine AWP.seq ?_
  -- c0
  refine AWP.cond (.tmp _ _ rfl) (fun hc11 => ?_) (fun hc11 => ?_)
  · try simp only [decide_eq_true_eq] at hc11
    have hi : i < s.length := by omega
    have hu8 : s[i].toNat < 256 := s[i].toNat_lt
    refine AWP.skip ?_
    refine Next.go ?_
    refine AWP.seq ?_
    refine AWP.block ?_
    refine AWP.seq ?_
    -- region 4
    refine AWP.region ?_
    refine AList.p rfl (pure_move (.tmp _ _ rfl)) ?_
    refine AList.p rfl (pure_indexM Tryz.underlying115 Tryz.sizeOf5 (.tmp _ _ rfl) (.tmp _ _ rfl) (by omega) (by omega)) ?_
    refine AList.s rfl (step_load1 Tryz.isAgg5 (.tmp _ _ rfl) (Heap.objs_set_same _ _ _) (cellsU_get hi)) ?_
    rintro _ _ ⟨rfl, hH⟩
    obtain rfl := hH.symm
    refine AList.p rfl (pure_assign (.tmp _ _ rfl)) ?_
    refine AList.p rfl (pure_assign (.tmp _ _ rfl)) ?_
    refine AList.nil ?_
    refine Next.go ?_
    refine AWP.seqTo 20 (.bool (decide (97 ≤ (s[i].toNat : Int)) && decide ((s[i].toNat : Int) ≤ 122))) [3, 8, 9, 10, 11, 4, 5] ?_ ?_
    · -- region 5
      refine AWP.region ?_
      refine AList.p rfl (pure_move (.tmp _ _ rfl)) ?_
      refine AList.p rfl (pure_geq (.tmp _ _ rfl) (ev_nat 97)) ?_
      refine AList.p rfl (pure_move (.tmp _ _ rfl)) ?_
      -- the guard in slot 17
      refine bool_casesL (t := 17) rfl (fun hg17 => ?_) (fun hg17 => ?_)
      · have hh17 := hg17; try simp only [decide_eq_true_eq] at hh17
        refine AList.gp rfl rfl rfl (by first | rfl | assumption) (pure_move (.tmp _ _ rfl)) ?_
        refine AList.gp rfl rfl rfl (by first | rfl | assumption) (pure_leq (.tmp _ _ rfl) (ev_nat 122)) ?_
        refine AList.p rfl (pure_pickT (.tmp _ _ rfl) (by first | rfl | assumption) (.tmp _ _ rfl)) ?_
        refine AList.nil ?_
        exact ⟨rfl, sub_b rfl (by first | rfl | (simp; omega) | (simp [*]; done) | simp_all) (sub_c rfl (sub_c rfl (sub_c rfl (sub_c rfl (sub_c rfl (sub_c rfl (sub_c rfl sub_n))))))), rfl⟩
      · have hh17 := hg17; try simp only [decide_eq_false_iff_not, Int.not_le] at hh17
        refine AList.gn rfl rfl rfl (by first | rfl | assumption) ?_
        refine AList.gn rfl rfl rfl (by first | rfl | assumption) ?_
        refine AList.p rfl (pure_pickF (.tmp _ _ rfl) (by first | rfl | assumption) ev_bool) ?_
        refine AList.nil ?_
        exact ⟨rfl, sub_b rfl (by first | rfl | (simp; omega) | (simp [*]; done) | simp_all) (sub_c rfl (sub_c rfl (sub_c rfl (sub_c rfl (sub_c rfl (sub_c rfl (sub_c rfl sub_n))))))), rfl⟩
    · -- c1
      refine AWP.cond (.tmp _ _ rfl) (fun hc20 => ?_) (fun hc20 => ?_)
      · try simp only [decide_eq_true_eq, decide_eq_false_iff_not, Bool.not_eq_true', Bool.not_eq_false', Int.not_lt, Int.not_le, ne_eq, Decidable.not_not] at hc20
        simp only [Bool.and_eq_true, decide_eq_true_eq] at hc20
        -- region 6
        refine AWP.region ?_
        refine AList.p rfl (pure_move (.tmp _ _ rfl)) ?_
        refine AList.p rfl (pure_move (.tmp _ _ rfl)) ?_
        refine AList.p rfl (pure_move (.tmp _ _ rfl)) ?_
        refine AList.p rfl (pure_andNot8 (.tmp _ _ rfl) (ev_nat 32) (by first | assumption | omega) (by first | assumption | omega)) ?_
        refine AList.p rfl (pure_indexM Tryz.underlying115 Tryz.sizeOf5 (.tmp _ _ rfl) (.tmp _ _ rfl) (by omega) (by omega)) ?_
        refine AList.s0 (step_store Tryz.sizeOf5 (.tmp _ _ rfl) (.tmp _ _ rfl) rfl rfl (.inl rfl) (Heap.objs_set_same _ _ _) (by rw [cellsU_len]; omega)) ?_
        rintro _ _ ⟨rfl, hH⟩
        obtain rfl := hH.symm
        rw [Heap.set_set]
        rw [show AV.cells (AV.int .u8 _) = [_] from rfl, cellsU_put hi (upB_up (by omega) (by omega))]
        refine AList.nil ?_
        refine Block.go ?_
        refine Next.go ?_
        -- region 7
        refine AWP.region ?_
        refine AList.p rfl (pure_add (.tmp _ _ rfl) ev_int (by omega)) ?_
        refine AList.p rfl (pure_move (.tmp _ _ rfl)) ?_
        refine AList.nil ?_
        refine Next.go ?_
        refine Round.mk (J := upper_J s b7 c7 H) ⟨i + 1, by omega, rfl, rfl, rfl⟩ (sub_c rfl (sub_c rfl (sub_c rfl (sub_c rfl sub_n)))) (Heap.le.refl _) (by omega)
      · try simp only [decide_eq_true_eq, decide_eq_false_iff_not, Bool.not_eq_true', Bool.not_eq_false', Int.not_lt, Int.not_le, ne_eq, Decidable.not_not] at hc20
        refine AWP.skip ?_
        refine Block.go ?_
        refine Next.go ?_
        -- region 7
        refine AWP.region ?_
        refine AList.p rfl (pure_add (.tmp _ _ rfl) ev_int (by omega)) ?_
        refine AList.p rfl (pure_move (.tmp _ _ rfl)) ?_
        refine AList.nil ?_
        refine Next.go ?_
        refine Round.mk (J := upper_J s b7 c7 H) ⟨i + 1, by omega, rfl, by rw [cellsU_same hi (upB_same (by simp only [Bool.and_eq_false_iff, decide_eq_false_iff_not] at hc20; omega))], rfl⟩ (sub_c rfl (sub_c rfl (sub_c rfl (sub_c rfl sub_n)))) (Heap.le.refl _) (by omega)
  · try simp only [decide_eq_false_iff_not, Int.not_lt] at hc11
    refine AWP.exit ?_
    refine Next.ex ?_
    refine Next.ex ?_
    refine Block.hit ?_
    refine Next.go ?_
    refine AWP.seq ?_
    -- region 8
    refine AWP.region ?_
    refine AList.p rfl (pure_move (.tmp _ _ rfl)) ?_
    refine AList.s rfl (step_text (l := upL s) Tryz.underlying115 Tryz.underlying9 Tryz.underlying5 (.tmp _ _ rfl) (Heap.objs_set_same _ _ _) (upL_len s) (cellsU_fin (by omega)) (by simp only [maxLen_eq]; omega)) ?_
    rintro _ _ ⟨rfl, hH⟩
    obtain rfl := hH.symm
    refine AList.p rfl (pure_assign (.tmp _ _ rfl)) ?_
    refine AList.nil ?_
    refine Next.go ?_
    refine AWP.ret ?_
    -- ret 0
    refine Ret.go (.cons (.tmp _ _ rfl) .nil) H (Heap.le_set hb7 _) ?_
    exact ⟨rfl, rfl⟩

end Go.Proofs.YtncoklpecffokaaGreatDoor
namespace Go.Proofs.YtncoklpecffokaaGreatDoor
open Go Go.RowKit

theorem cb_range : ∀ a b, Lib.compareBytes a b = -1 ∨ Lib.compareBytes a b = 0 ∨ Lib.compareBytes a b = 1
  | [], [] => by simp [Lib.compareBytes]
  | [], _ :: _ => by simp [Lib.compareBytes]
  | _ :: _, [] => by simp [Lib.compareBytes]
  | a :: xs, b :: ys => by
    unfold Lib.compareBytes
    split
    · exact .inl rfl
    · split
      · exact .inr (.inr rfl)
      · exact cb_range xs ys
theorem cb_anti : ∀ a b, Lib.compareBytes a b = - Lib.compareBytes b a
  | [], [] => by simp [Lib.compareBytes]
  | [], _ :: _ => by simp [Lib.compareBytes]
  | _ :: _, [] => by simp [Lib.compareBytes]
  | a :: xs, b :: ys => by
    unfold Lib.compareBytes
    by_cases h1 : a < b
    · have h2 : ¬ b < a := fun h => absurd (UInt8.lt_trans h1 h) (UInt8.lt_irrefl _)
      simp [h1, h2]
    · by_cases h2 : b < a
      · simp [h1, h2]
      · simp only [h1, h2, if_false]; exact cb_anti xs ys
theorem u8_lt {a b : UInt8} : a < b ↔ a.toNat < b.toNat := UInt8.lt_iff_toNat_lt
theorem cb_trans : ∀ a b c, Lib.compareBytes a b ≤ 0 → Lib.compareBytes b c ≤ 0 → Lib.compareBytes a c ≤ 0
  | [], _, [], _, _ => by simp [Lib.compareBytes]
  | [], _, _ :: _, _, _ => by simp [Lib.compareBytes]
  | _ :: _, [], _, h, _ => by simp [Lib.compareBytes] at h
  | _ :: _, _ :: _, [], _, h => by simp [Lib.compareBytes] at h
  | a :: xs, b :: ys, c :: zs, h1, h2 => by
    unfold Lib.compareBytes at h1 h2 ⊢
    simp only [u8_lt] at *
    split at h1
    · split at h2
      · rw [if_pos (by omega)]; decide
      · split at h2
        · exact absurd h2 (by decide)
        · rw [if_pos (by omega)]; decide
    · split at h1
      · exact absurd h1 (by decide)
      · split at h2
        · rw [if_pos (by omega)]; decide
        · split at h2
          · exact absurd h2 (by decide)
          · rw [if_neg (by omega), if_neg (by omega)]; exact cb_trans xs ys zs h1 h2
theorem cb_self (a : List UInt8) : Lib.compareBytes a a = 0 := by have := cb_anti a a; omega
theorem sgn_range (x y : Int) : sgn x y = -1 ∨ sgn x y = 0 ∨ sgn x y = 1 := by unfold sgn; split <;> (try split) <;> simp
theorem sgn_anti (x y : Int) : sgn x y = - sgn y x := by unfold sgn; split <;> split <;> (try split) <;> omega
theorem sgn_le {x y : Int} : sgn x y ≤ 0 ↔ x ≤ y := by unfold sgn; split <;> (try split) <;> omega
theorem cmpF_anti (a b : Int) : CmpF a b = - CmpF b a := by
  unfold CmpF
  by_cases h : KindF a = 4 ∨ KindF b = 4
  · rw [if_pos h, if_pos h.symm]; rfl
  · rw [if_neg h, if_neg (fun k => h k.symm)]; exact sgn_anti _ _
theorem cmpF_range (a b : Int) : CmpF a b = -1 ∨ CmpF a b = 0 ∨ CmpF a b = 1 := by
  unfold CmpF; split
  · exact .inr (.inl rfl)
  · exact sgn_range _ _
theorem cmpF_trans {a b c : Int} (ha : KindF a ≠ 4) (hb : KindF b ≠ 4) (hc : KindF c ≠ 4) (h1 : CmpF a b ≤ 0) (h2 : CmpF b c ≤ 0) : CmpF a c ≤ 0 := by
  unfold CmpF at *
  rw [if_neg (by omega)] at *
  rw [sgn_le] at *
  omega
theorem same_anti {a b : Val} (h : a.kind = b.kind) : cmpSame a b = - cmpSame b a := by
  unfold cmpSame
  rw [← h]
  split
  · exact cmpF_anti _ _
  · split
    · exact cb_anti _ _
    · exact cb_anti _ _
theorem same_range (a b : Val) : cmpSame a b = -1 ∨ cmpSame a b = 0 ∨ cmpSame a b = 1 := by
  unfold cmpSame
  split
  · exact cmpF_range _ _
  · split
    · exact cb_range _ _
    · exact cb_range _ _
theorem compare_fail {a b : Val} (h : a.kind = 4 ∨ b.kind = 4) : CompareV a b = 0 := if_pos h
theorem compare_main {a b : Val} (h : ¬ (a.kind = 4 ∨ b.kind = 4)) : CompareV a b = if a.kind = 0 then cmpSame (zeroV b.kind) b else if b.kind = 0 then cmpSame a (zeroV a.kind) else if a.kind = b.kind then cmpSame a b else sgn (PlaceK a.kind) (PlaceK b.kind) := by
  unfold CompareV
  rw [if_neg h]
  by_cases ha : a.kind = 0
  · simp [ha, zeroV]
  · by_cases hb : b.kind = 0
    · simp [ha, hb, zeroV]
    · by_cases hk : a.kind = b.kind
      · simp only [hb, if_false, hk, ne_eq, not_true, if_true]
      · simp only [ha, hb, if_false, hk, ne_eq, not_false_eq_true, if_true]
theorem compare_range (a b : Val) : CompareV a b = -1 ∨ CompareV a b = 0 ∨ CompareV a b = 1 := by
  by_cases h : a.kind = 4 ∨ b.kind = 4
  · exact .inr (.inl (compare_fail h))
  · rw [compare_main h]
    split
    · exact same_range _ _
    · split
      · exact same_range _ _
      · split
        · exact same_range _ _
        · exact sgn_range _ _
theorem same_self (a : Val) : cmpSame a a = 0 := by have := same_anti (a := a) (b := a) rfl; omega
theorem right_empty {a : Val} (h : RightV a = true) (h0 : a.kind = 0) : a = zeroV 0 := by
  unfold RightV at h
  rw [if_pos h0] at h
  exact of_decide_eq_true h
theorem compare_anti {a b : Val} (ra : RightV a = true) (rb : RightV b = true) : CompareV a b = - CompareV b a := by
  by_cases h : a.kind = 4 ∨ b.kind = 4
  · rw [compare_fail h, compare_fail h.symm]; rfl
  rw [compare_main h, compare_main (fun k => h k.symm)]
  by_cases ha : a.kind = 0 <;> by_cases hb : b.kind = 0
  · rw [right_empty ra ha, right_empty rb hb]
    simp [zeroV, same_self]
  · simp only [ha, hb, if_true, if_false]; exact same_anti rfl
  · simp only [ha, hb, if_true, if_false]; exact same_anti rfl
  · simp only [ha, hb, if_false]
    by_cases hk : a.kind = b.kind
    · rw [if_pos hk, if_pos hk.symm]; exact same_anti hk
    · rw [if_neg hk, if_neg (fun e => hk e.symm)]; exact sgn_anti _ _
theorem compare_self {a : Val} (ra : RightV a = true) : CompareV a a = 0 := by have := compare_anti ra ra; omega
theorem right_kind {a : Val} (h : RightV a = true) (h0 : a.kind ≠ 0) (h4 : a.kind ≠ 4) : (a.kind = 1 ∧ KindF a.bits ≠ 4) ∨ a.kind = 2 ∨ a.kind = 3 := by
  unfold RightV at h
  rw [if_neg h0] at h
  by_cases h1 : a.kind = 1
  · rw [if_pos h1] at h
    refine .inl ⟨h1, fun h2 => ?_⟩
    have := of_decide_eq_true h
    unfold NumV at this
    rw [if_pos (by omega)] at this
    rw [this] at h1
    simp [FailV] at h1
  rw [if_neg h1] at h
  by_cases h2 : a.kind = 2
  · exact .inr (.inl h2)
  rw [if_neg h2] at h
  by_cases h3 : a.kind = 3
  · exact .inr (.inr h3)
  rw [if_neg h3, if_neg h4] at h
  cases h
theorem compare_trans {a b c : Val} (ra : RightV a = true) (rb : RightV b = true) (rc : RightV c = true) (a0 : a.kind ≠ 0) (a4 : a.kind ≠ 4) (b0 : b.kind ≠ 0) (b4 : b.kind ≠ 4) (c0 : c.kind ≠ 0) (c4 : c.kind ≠ 4)
    (h1 : CompareV a b ≤ 0) (h2 : CompareV b c ≤ 0) : CompareV a c ≤ 0 := by
  have ka := right_kind ra a0 a4
  have kb := right_kind rb b0 b4
  have kc := right_kind rc c0 c4
  rw [compare_main (by omega)] at h1 h2 ⊢
  simp only [a0, b0, c0, if_false] at *
  by_cases hab : a.kind = b.kind <;> by_cases hbc : b.kind = c.kind
  · rw [if_pos hab] at h1
    rw [if_pos hbc] at h2
    rw [if_pos (hab.trans hbc)]
    unfold cmpSame at *
    rw [hab] at ka ⊢
    rw [hab] at h1
    split at h1
    · rename_i e
      rw [if_pos e] at h2 ⊢
      exact cmpF_trans (by omega) (by omega) (by omega) h1 h2
    · rename_i e
      rw [if_neg e] at h2 ⊢
      split at h1
      · rename_i e2
        rw [if_pos e2] at h2 ⊢
        exact cb_trans _ _ _ h1 h2
      · rename_i e2
        rw [if_neg e2] at h2 ⊢
        exact cb_trans _ _ _ h1 h2
  · rw [if_neg hbc, sgn_le] at h2
    rw [if_neg (by omega), sgn_le, hab]; exact h2
  · rw [if_neg hab, sgn_le] at h1
    rw [if_neg (by omega), sgn_le, ← hbc]; exact h1
  · rw [if_neg hab, sgn_le] at h1
    rw [if_neg hbc, sgn_le] at h2
    have : PlaceK a.kind ≤ PlaceK c.kind := by omega
    have hac : a.kind ≠ c.kind := by
      intro e
      rw [e] at h1
      have e2 : PlaceK b.kind = PlaceK c.kind := by omega
      unfold PlaceK at e2
      have kb' : b.kind = 1 ∨ b.kind = 2 ∨ b.kind = 3 := by omega
      have kc' : c.kind = 1 ∨ c.kind = 2 ∨ c.kind = 3 := by omega
      rcases kb' with h | h | h <;> rcases kc' with k | k | k <;> simp [h, k] at e2 hbc
    rw [if_neg hac, sgn_le]; exact this

/-! ### operators that compare -/
def sixOps : List (List UInt8) := [[61], [60, 62], [60], [60, 61], [62], [62, 61]]
def cmpOp (op : List UInt8) (n : Int) : Bool := if op = [61] then decide (n = 0) else if op = [60, 62] then decide (n ≠ 0) else if op = [60] then decide (n < 0) else if op = [60, 61] then decide (n ≤ 0) else if op = [62] then decide (0 < n) else decide (0 ≤ n)
def BinCmp (op : List UInt8) (a b : Val) : Val := if a.kind = 4 then a else if b.kind = 4 then b else BoolV (cmpOp op (CompareV a b))
end Go.Proofs.YtncoklpecffokaaGreatDoor
namespace Go.Proofs.YtncoklpecffokaaGreatDoor
open Go Go.RowKit

theorem right_text {a : Val} (h : RightV a = true) : a.text.length ≤ 1000000 := by
  by_cases h0 : a.kind = 0
  · rw [right_empty h h0]; exact Nat.zero_le _
  unfold RightV at h
  rw [if_neg h0] at h
  by_cases h1 : a.kind = 1
  · rw [if_pos h1] at h
    rw [of_decide_eq_true h]; unfold NumV FailV; split <;> exact Nat.zero_le _
  rw [if_neg h1] at h
  by_cases h2 : a.kind = 2
  · rw [if_pos h2] at h
    rw [of_decide_eq_true h]; exact Nat.zero_le _
  rw [if_neg h2] at h
  by_cases h3 : a.kind = 3
  · rw [if_pos h3] at h
    have h := of_decide_eq_true h
    unfold TextV at h
    by_cases h4 : 1000 < a.text.length
    · rw [if_pos h4] at h; rw [h]; exact Nat.zero_le _
    · omega
  rw [if_neg h3] at h
  by_cases h4 : a.kind = 4
  · rw [if_pos h4] at h
    simp only [Bool.and_eq_true] at h
    rw [of_decide_eq_true h.1]; exact Nat.zero_le _
  rw [if_neg h4] at h; cases h

set_option maxRecDepth 100000 in
theorem compare_calls (a b : Val) (a0 : 0 ≤ a.bits) (a1 : a.bits < 18446744073709551616) (b0 : 0 ≤ b.bits) (b1 : b.bits < 18446744073709551616) (ta : a.text.length ≤ 1000000) (tb : b.text.length ≤ 1000000) (H : Heap) : ACall Tryz.prog 32 [a.av, b.av] H (fun z H' => z = .int .i64 (cmpSame a b) ∧ H' = H) := by
  refine ACall.of_body Tryz.func32 rfl Tryz.ntmps32 Tryz.results32 rfl ?_
  refine AWP.seq ?_
  -- region 0
  refine AWP.region ?_
  refine AList.s rfl (step_boxI (.tmp _ _ rfl) (.inr ⟨_, rfl⟩)) ?_
  rintro _ _ ⟨rfl, hH⟩
  obtain rfl := hH.symm
  refine AList.s rfl (step_boxI (.tmp _ _ rfl) (.inr ⟨_, rfl⟩)) ?_
  rintro _ _ ⟨rfl, hH⟩
  obtain rfl := hH.symm
  refine AList.p rfl (pure_assign ev_int) ?_
  refine AList.nil ?_
  refine Next.go ?_
  refine AWP.seq ?_
  refine AWP.seq ?_
  -- region 1
  refine AWP.region ?_
  first | (refine AList.p rfl (pure_fieldI Tryz.underlying24 rfl Tryz.sizeOf3 (.tmp _ _ rfl)) ?_) | (refine AList.p rfl (pure_field Tryz.underlying24 rfl Tryz.sizeOf3 (.tmp _ _ rfl)) ?_)
  first | (refine AList.p rfl (pure_load1 Tryz.isAgg3 (.tmp _ _ rfl)) ?_) | (refine AList.s rfl (step_load1 Tryz.isAgg3 (.tmp _ _ rfl) (by first | assumption | exact (by assumption : Heap.le _ _).objs _ _ (by assumption) | exact Heap.objs_set_same _ _ _ | exact (Heap.objs_set_ne _ _ (by assumption)).trans (Heap.objs_set_same _ _ _) | exact (Heap.objs_set_ne _ _ (by assumption)).trans ((Heap.objs_set_ne _ _ (by assumption)).trans (Heap.objs_set_same _ _ _)) | exact (Heap.objs_set_ne _ _ (by assumption)).trans (by assumption)) rfl) ?_; rintro _ _ ⟨rfl, hH⟩; obtain rfl := hH.symm)
  refine AList.nil ?_
  refine Next.go ?_
  refine AWP.block ?_
  refine AWP.seq ?_
  -- region 2
  refine AWP.region ?_
  refine AList.p rfl (pure_eql (.tmp _ _ rfl) ev_int) ?_
  refine AList.p rfl (pure_assign (.tmp _ _ rfl)) ?_
  refine AList.nil ?_
  refine Next.go ?_
  -- c0
  refine AWP.cond (.tmp _ _ rfl) (fun hc9 => ?_) (fun hc9 => ?_)
  · try simp only [decide_eq_true_eq] at hc9
    refine AWP.seq ?_
    -- region 3
    refine AWP.region ?_
    first | (refine AList.p rfl (pure_fieldI Tryz.underlying24 rfl Tryz.sizeOf22 (.tmp _ _ rfl)) ?_) | (refine AList.p rfl (pure_field Tryz.underlying24 rfl Tryz.sizeOf22 (.tmp _ _ rfl)) ?_)
    first | (refine AList.p rfl (pure_load1 Tryz.isAgg22 (.tmp _ _ rfl)) ?_) | (refine AList.s rfl (step_load1 Tryz.isAgg22 (.tmp _ _ rfl) (by first | assumption | exact (by assumption : Heap.le _ _).objs _ _ (by assumption) | exact Heap.objs_set_same _ _ _ | exact (Heap.objs_set_ne _ _ (by assumption)).trans (Heap.objs_set_same _ _ _) | exact (Heap.objs_set_ne _ _ (by assumption)).trans ((Heap.objs_set_ne _ _ (by assumption)).trans (Heap.objs_set_same _ _ _)) | exact (Heap.objs_set_ne _ _ (by assumption)).trans (by assumption)) rfl) ?_; rintro _ _ ⟨rfl, hH⟩; obtain rfl := hH.symm)
    first | (refine AList.p rfl (pure_fieldI Tryz.underlying24 rfl Tryz.sizeOf22 (.tmp _ _ rfl)) ?_) | (refine AList.p rfl (pure_field Tryz.underlying24 rfl Tryz.sizeOf22 (.tmp _ _ rfl)) ?_)
    first | (refine AList.p rfl (pure_load1 Tryz.isAgg22 (.tmp _ _ rfl)) ?_) | (refine AList.s rfl (step_load1 Tryz.isAgg22 (.tmp _ _ rfl) (by first | assumption | exact (by assumption : Heap.le _ _).objs _ _ (by assumption) | exact Heap.objs_set_same _ _ _ | exact (Heap.objs_set_ne _ _ (by assumption)).trans (Heap.objs_set_same _ _ _) | exact (Heap.objs_set_ne _ _ (by assumption)).trans ((Heap.objs_set_ne _ _ (by assumption)).trans (Heap.objs_set_same _ _ _)) | exact (Heap.objs_set_ne _ _ (by assumption)).trans (by assumption)) rfl) ?_; rintro _ _ ⟨rfl, hH⟩; obtain rfl := hH.symm)
    refine AList.s rfl (step_call0 Tryz.call47 (.cons (.tmp _ _ rfl) (.cons (.tmp _ _ rfl) .nil)) (Cmp_calls _ _ a0 a1 b0 b1 _)) ?_
    rintro _ _ ⟨⟨cb, rfl⟩, hH⟩
    obtain rfl := hH.symm
    refine AList.p rfl (pure_move (.tmp _ _ rfl)) ?_
    refine AList.p rfl (pure_extract (.tmp _ _ rfl) rfl) ?_
    refine AList.p rfl (pure_extract (.tmp _ _ rfl) rfl) ?_
    refine AList.p rfl (pure_assign (.tmp _ _ rfl)) ?_
    refine AList.p rfl (pure_assign (.tmp _ _ rfl)) ?_
    refine AList.nil ?_
    refine Next.go ?_
    refine AWP.seq ?_
    -- region 4
    refine AWP.region ?_
    refine AList.p rfl (pure_move (.tmp _ _ rfl)) ?_
    refine AList.p rfl (pure_assign (.tmp _ _ rfl)) ?_
    refine AList.nil ?_
    refine Next.go ?_
    refine AWP.ret ?_
    refine Block.rt ?_
    refine Next.rt ?_
    -- ret 0
    refine Ret.go (.cons (.tmp _ _ rfl) .nil) _ (Heap.le.refl _) ?_
    refine ⟨?_, rfl⟩
    simp only [packed, cmpSame]
    first | (rw [if_pos (by omega)]; done) | (rw [if_neg (by omega), if_pos (by omega)]; done) | (rw [if_neg (by omega), if_neg (by omega)]; done)
  · try simp only [decide_eq_false_iff_not] at hc9
    refine AWP.seq ?_
    -- region 5
    refine AWP.region ?_
    refine AList.p rfl (pure_eql (.tmp _ _ rfl) ev_int) ?_
    refine AList.p rfl (pure_assign (.tmp _ _ rfl)) ?_
    refine AList.nil ?_
    refine Next.go ?_
    -- c1
    refine AWP.cond (.tmp _ _ rfl) (fun hc20 => ?_) (fun hc20 => ?_)
    · try simp only [decide_eq_true_eq] at hc20
      refine AWP.seq ?_
      -- region 6
      refine AWP.draw [(0, true), (1, true), (2, true), (3, true), (4, true), (5, true), (6, true), (7, true)] rfl (by decide +kernel) ?_
      first | (refine APlan.p rfl rfl (pure_fieldI Tryz.underlying24 rfl Tryz.sizeOf4 (.tmp _ _ rfl)) ?_) | (refine APlan.p rfl rfl (pure_field Tryz.underlying24 rfl Tryz.sizeOf4 (.tmp _ _ rfl)) ?_)
      first | (refine APlan.p rfl rfl (pure_load1 Tryz.isAgg4 (.tmp _ _ rfl)) ?_) | (refine APlan.f rfl rfl (fun _ => step_load1 Tryz.isAgg4 (.tmp _ _ rfl) (by first | assumption | exact (by assumption : Heap.le _ _).objs _ _ (by assumption) | exact Heap.objs_set_same _ _ _ | exact (Heap.objs_set_ne _ _ (by assumption)).trans (Heap.objs_set_same _ _ _) | exact (Heap.objs_set_ne _ _ (by assumption)).trans ((Heap.objs_set_ne _ _ (by assumption)).trans (Heap.objs_set_same _ _ _)) | exact (Heap.objs_set_ne _ _ (by assumption)).trans (by assumption)) rfl) ?_)
      refine APlan.f rfl rfl (fun _ => step_call0 Tryz.call49 (.cons (.tmp _ _ rfl) .nil) (word_calls _ _)) ?_
      first | (refine APlan.p rfl rfl (pure_fieldI Tryz.underlying24 rfl Tryz.sizeOf4 (.tmp _ _ rfl)) ?_) | (refine APlan.p rfl rfl (pure_field Tryz.underlying24 rfl Tryz.sizeOf4 (.tmp _ _ rfl)) ?_)
      first | (refine APlan.p rfl rfl (pure_load1 Tryz.isAgg4 (.tmp _ _ rfl)) ?_) | (refine APlan.f rfl rfl (fun _ => step_load1 Tryz.isAgg4 (.tmp _ _ rfl) (by first | assumption | exact (by assumption : Heap.le _ _).objs _ _ (by assumption) | exact Heap.objs_set_same _ _ _ | exact (Heap.objs_set_ne _ _ (by assumption)).trans (Heap.objs_set_same _ _ _) | exact (Heap.objs_set_ne _ _ (by assumption)).trans ((Heap.objs_set_ne _ _ (by assumption)).trans (Heap.objs_set_same _ _ _)) | exact (Heap.objs_set_ne _ _ (by assumption)).trans (by assumption)) rfl) ?_)
      refine APlan.f rfl rfl (fun _ => step_call0 Tryz.call49 (.cons (.tmp _ _ rfl) .nil) (word_calls _ _)) ?_
      refine APlan.f rfl rfl (fun _ => step_call0 Tryz.call48 (.cons (.tmp _ _ rfl) (.cons (.tmp _ _ rfl) .nil)) (strCompare_calls _ _ _)) ?_
      refine APlan.p rfl rfl (pure_assign (.tmp _ _ rfl)) ?_
      refine APlan.nil ?_
      refine Next.go ?_
      refine AWP.ret ?_
      refine Block.rt ?_
      refine Next.rt ?_
      -- ret 1
      refine Ret.go (.cons (.tmp _ _ rfl) .nil) _ (Heap.le.refl _) ?_
      refine ⟨?_, rfl⟩
      simp only [packed, cmpSame]
      first | (rw [if_pos (by omega)]; done) | (rw [if_neg (by omega), if_pos (by omega)]; done) | (rw [if_neg (by omega), if_neg (by omega)]; done)
    · try simp only [decide_eq_false_iff_not] at hc20
      refine AWP.skip ?_
      refine Block.go ?_
      refine Next.go ?_
      refine AWP.seq ?_
      -- region 7
      refine AWP.draw [(0, true), (1, true), (2, true), (3, true), (4, true), (5, true), (6, true), (7, true)] rfl (by decide +kernel) ?_
      first | (refine APlan.p rfl rfl (pure_fieldI Tryz.underlying24 rfl Tryz.sizeOf9 (.tmp _ _ rfl)) ?_) | (refine APlan.p rfl rfl (pure_field Tryz.underlying24 rfl Tryz.sizeOf9 (.tmp _ _ rfl)) ?_)
      first | (refine APlan.p rfl rfl (pure_load1 Tryz.isAgg9 (.tmp _ _ rfl)) ?_) | (refine APlan.f rfl rfl (fun _ => step_load1 Tryz.isAgg9 (.tmp _ _ rfl) (by first | assumption | exact (by assumption : Heap.le _ _).objs _ _ (by assumption) | exact Heap.objs_set_same _ _ _ | exact (Heap.objs_set_ne _ _ (by assumption)).trans (Heap.objs_set_same _ _ _) | exact (Heap.objs_set_ne _ _ (by assumption)).trans ((Heap.objs_set_ne _ _ (by assumption)).trans (Heap.objs_set_same _ _ _)) | exact (Heap.objs_set_ne _ _ (by assumption)).trans (by assumption)) rfl) ?_)
      refine APlan.f rfl rfl (fun _ => step_call0 Tryz.call50 (.cons (.tmp _ _ rfl) .nil) (upper_calls _ (by assumption) _)) ?_
      first | (refine APlan.p rfl rfl (pure_fieldI Tryz.underlying24 rfl Tryz.sizeOf9 (.tmp _ _ rfl)) ?_) | (refine APlan.p rfl rfl (pure_field Tryz.underlying24 rfl Tryz.sizeOf9 (.tmp _ _ rfl)) ?_)
      first | (refine APlan.p rfl rfl (pure_load1 Tryz.isAgg9 (.tmp _ _ rfl)) ?_) | (refine APlan.f rfl rfl (fun _ => step_load1 Tryz.isAgg9 (.tmp _ _ rfl) (by first | assumption | exact (by assumption : Heap.le _ _).objs _ _ (by assumption) | exact Heap.objs_set_same _ _ _ | exact (Heap.objs_set_ne _ _ (by assumption)).trans (Heap.objs_set_same _ _ _) | exact (Heap.objs_set_ne _ _ (by assumption)).trans ((Heap.objs_set_ne _ _ (by assumption)).trans (Heap.objs_set_same _ _ _)) | exact (Heap.objs_set_ne _ _ (by assumption)).trans (by assumption)) rfl) ?_)
      refine APlan.f rfl rfl (fun _ => step_call0 Tryz.call50 (.cons (.tmp _ _ rfl) .nil) (upper_calls _ (by assumption) _)) ?_
      refine APlan.f rfl rfl (fun _ => step_call0 Tryz.call48 (.cons (.tmp _ _ rfl) (.cons (.tmp _ _ rfl) .nil)) (strCompare_calls _ _ _)) ?_
      refine APlan.p rfl rfl (pure_assign (.tmp _ _ rfl)) ?_
      refine APlan.nil ?_
      refine Next.go ?_
      refine AWP.ret ?_
      -- ret 2
      refine Ret.go (.cons (.tmp _ _ rfl) .nil) _ (Heap.le.refl _) ?_
      refine ⟨?_, rfl⟩
      simp only [packed, cmpSame]
      first | (rw [if_pos (by omega)]; done) | (rw [if_neg (by omega), if_pos (by omega)]; done) | (rw [if_neg (by omega), if_neg (by omega)]; done)

def xOf (a b : Val) : Val := if a.kind = 0 then zeroV b.kind else a
def yOf (a b : Val) : Val := if a.kind = 0 then b else if b.kind = 0 then zeroV a.kind else b
theorem compareCall (x y : Val) (a0 : 0 ≤ x.bits) (a1 : x.bits < 18446744073709551616) (b0 : 0 ≤ y.bits) (b1 : y.bits < 18446744073709551616) (ta : x.text.length ≤ 1000000) (tb : y.text.length ≤ 1000000) : ∀ H, ACall Tryz.prog 32 [.agg [.int .i64 x.kind, .int .u64 x.bits, .bool x.is, .str x.text, .int .i64 x.fail], .agg [.int .i64 y.kind, .int .u64 y.bits, .bool y.is, .str y.text, .int .i64 y.fail]] H (fun z H' => z = .int .i64 (cmpSame x y) ∧ H' = H) := fun H => compare_calls x y a0 a1 b0 b1 ta tb H

set_option maxRecDepth 100000 in
theorem Compare_calls (p : AV) (a b : Val) (a0 : 0 ≤ a.bits) (a1 : a.bits < 18446744073709551616) (b0 : 0 ≤ b.bits) (b1 : b.bits < 18446744073709551616) (ta : a.text.length ≤ 1000000) (tb : b.text.length ≤ 1000000) (H : Heap) : ACall Tryz.prog 18 [p, a.av, b.av] H (fun z H' => z = .int .i64 (CompareV a b) ∧ H' = H) := by
  refine ACall.of_body Tryz.func18 rfl Tryz.ntmps18 Tryz.results18 rfl ?_
  refine AWP.seq ?_
  -- region 0
  refine AWP.region ?_
  refine AList.s rfl (step_box (.tmp _ _ rfl) (.inr ⟨_, rfl⟩)) ?_
  rintro _ _ ⟨b4, hb4, rfl, hH⟩
  obtain rfl := hH.symm
  refine AList.s rfl (step_box (.tmp _ _ rfl) (.inr ⟨_, rfl⟩)) ?_
  rintro _ _ ⟨b5, hb5, rfl, hH⟩
  obtain rfl := hH.symm
  have hn4_5 := Heap.ne_of (by first | assumption | exact (by assumption : Heap.le _ _).objs _ _ (by assumption) | exact Heap.objs_set_same _ _ _ | exact (Heap.objs_set_ne _ _ (by assumption)).trans (Heap.objs_set_same _ _ _) | exact (Heap.objs_set_ne _ _ (by assumption)).trans ((Heap.objs_set_ne _ _ (by assumption)).trans (Heap.objs_set_same _ _ _)) | exact (Heap.objs_set_ne _ _ (by assumption)).trans (by assumption)) hb5
  refine AList.p rfl (pure_assign ev_int) ?_
  refine AList.nil ?_
  refine Next.go ?_
  refine AWP.seq ?_
  refine AWP.block ?_
  refine AWP.seqTo 7 (.bool (decide (a.kind = 4) || decide (b.kind = 4))) [0, 1, 2, 4, 5, 6] ?_ ?_
  · -- region 1
    refine AWP.region ?_
    first | (refine AList.p rfl (pure_fieldI Tryz.underlying24 rfl Tryz.sizeOf3 (.tmp _ _ rfl)) ?_) | (refine AList.p rfl (pure_field Tryz.underlying24 rfl Tryz.sizeOf3 (.tmp _ _ rfl)) ?_)
    first | (refine AList.p rfl (pure_load1 Tryz.isAgg3 (.tmp _ _ rfl)) ?_) | (refine AList.s rfl (step_load1 Tryz.isAgg3 (.tmp _ _ rfl) (by first | assumption | exact (by assumption : Heap.le _ _).objs _ _ (by assumption) | exact Heap.objs_set_same _ _ _ | exact (Heap.objs_set_ne _ _ (by assumption)).trans (Heap.objs_set_same _ _ _) | exact (Heap.objs_set_ne _ _ (by assumption)).trans ((Heap.objs_set_ne _ _ (by assumption)).trans (Heap.objs_set_same _ _ _)) | exact (Heap.objs_set_ne _ _ (by assumption)).trans (by assumption)) rfl) ?_; rintro _ _ ⟨rfl, hH⟩; obtain rfl := hH.symm)
    refine AList.p rfl (pure_eql (.tmp _ _ rfl) ev_int) ?_
    refine AList.p rfl (pure_move (.tmp _ _ rfl)) ?_
    -- the guard in slot 11
    refine bool_casesL (t := 11) rfl (fun hg11 => ?_) (fun hg11 => ?_)
    · have hh11 := hg11; try simp only [decide_eq_true_eq] at hh11
      refine AList.gn rfl rfl rfl (by first | rfl | assumption) ?_
      refine AList.gn rfl rfl rfl (by first | rfl | assumption) ?_
      refine AList.gn rfl rfl rfl (by first | rfl | assumption) ?_
      refine AList.p rfl (pure_pickT (.tmp _ _ rfl) (by first | rfl | assumption) ev_bool) ?_
      refine AList.p rfl (pure_assign (.tmp _ _ rfl)) ?_
      refine AList.nil ?_
      exact ⟨rfl, sub_b rfl (by first | rfl | (simp; omega) | (simp [*]; done) | simp_all) (sub_c rfl (sub_c rfl (sub_c rfl (sub_c rfl (sub_c rfl (sub_c rfl sub_n)))))), rfl⟩
    · have hh11 := hg11; try simp only [decide_eq_false_iff_not] at hh11
      first | (refine AList.gp rfl rfl rfl (by first | rfl | assumption) (pure_fieldI Tryz.underlying24 rfl Tryz.sizeOf3 (.tmp _ _ rfl)) ?_) | (refine AList.gp rfl rfl rfl (by first | rfl | assumption) (pure_field Tryz.underlying24 rfl Tryz.sizeOf3 (.tmp _ _ rfl)) ?_)
      first | (refine AList.gp rfl rfl rfl (by first | rfl | assumption) (pure_load1 Tryz.isAgg3 (.tmp _ _ rfl)) ?_) | (refine AList.gs rfl rfl rfl (by first | rfl | assumption) (step_load1 Tryz.isAgg3 (.tmp _ _ rfl) (by first | assumption | exact (by assumption : Heap.le _ _).objs _ _ (by assumption) | exact Heap.objs_set_same _ _ _ | exact (Heap.objs_set_ne _ _ (by assumption)).trans (Heap.objs_set_same _ _ _) | exact (Heap.objs_set_ne _ _ (by assumption)).trans ((Heap.objs_set_ne _ _ (by assumption)).trans (Heap.objs_set_same _ _ _)) | exact (Heap.objs_set_ne _ _ (by assumption)).trans (by assumption)) rfl) ?_; rintro _ _ ⟨rfl, hH⟩; obtain rfl := hH.symm)
      refine AList.gp rfl rfl rfl (by first | rfl | assumption) (pure_eql (.tmp _ _ rfl) ev_int) ?_
      refine AList.p rfl (pure_pickF (.tmp _ _ rfl) (by first | rfl | assumption) (.tmp _ _ rfl)) ?_
      refine AList.p rfl (pure_assign (.tmp _ _ rfl)) ?_
      refine AList.nil ?_
      exact ⟨rfl, sub_b rfl (by first | rfl | (simp; omega) | (simp [*]; done) | simp_all) (sub_c rfl (sub_c rfl (sub_c rfl (sub_c rfl (sub_c rfl (sub_c rfl sub_n)))))), rfl⟩
  · -- c0
    refine AWP.cond (.tmp _ _ rfl) (fun hc7 => ?_) (fun hc7 => ?_)
    · try simp only [decide_eq_true_eq, decide_eq_false_iff_not, Bool.not_eq_true', Bool.not_eq_false', Int.not_lt, Int.not_le, ne_eq, Decidable.not_not] at hc7
      simp only [Bool.or_eq_true, decide_eq_true_eq] at hc7
      refine AWP.seq ?_
      -- region 2
      refine AWP.region ?_
      refine AList.p rfl (pure_assign ev_int) ?_
      refine AList.nil ?_
      refine Next.go ?_
      refine AWP.dropb (by first | exact hb5 | exact Heap.fresh_set hb5 _) ?_
      refine AWP.dropb (by first | exact hb4 | exact Heap.fresh_set hb4 _) ?_
      refine AWP.ret ?_
      refine Block.rt ?_
      refine Next.rt ?_
      -- ret 0
      refine Ret.go (.cons (.tmp _ _ rfl) .nil) _ (Heap.le.refl _) ?_
      refine ⟨?_, rfl⟩
      simp only [packed]
      first | (rw [compare_fail hc7]; done) | (exact (hc34 trivial).elim) | (exact (hc34 rfl).elim) | (rw [compare_main (by omega), if_pos (by omega)]; done) | (rw [compare_main (by omega), if_neg (by omega), if_pos (by omega)]; done) | (rw [compare_main (by omega), if_neg (by omega), if_neg (by omega), if_pos (by omega)]; done) | (rw [compare_main (by omega), if_neg (by omega), if_neg (by omega), if_neg (by omega)]; done)
    · try simp only [decide_eq_true_eq, decide_eq_false_iff_not, Bool.not_eq_true', Bool.not_eq_false', Int.not_lt, Int.not_le, ne_eq, Decidable.not_not] at hc7
      simp only [Bool.or_eq_false_iff, decide_eq_false_iff_not] at hc7
      refine AWP.seq ?_
      -- region 3
      refine AWP.region ?_
      first | (refine AList.p rfl (pure_fieldI Tryz.underlying24 rfl Tryz.sizeOf3 (.tmp _ _ rfl)) ?_) | (refine AList.p rfl (pure_field Tryz.underlying24 rfl Tryz.sizeOf3 (.tmp _ _ rfl)) ?_)
      first | (refine AList.p rfl (pure_load1 Tryz.isAgg3 (.tmp _ _ rfl)) ?_) | (refine AList.s rfl (step_load1 Tryz.isAgg3 (.tmp _ _ rfl) (by first | assumption | exact (by assumption : Heap.le _ _).objs _ _ (by assumption) | exact Heap.objs_set_same _ _ _ | exact (Heap.objs_set_ne _ _ (by assumption)).trans (Heap.objs_set_same _ _ _) | exact (Heap.objs_set_ne _ _ (by assumption)).trans ((Heap.objs_set_ne _ _ (by assumption)).trans (Heap.objs_set_same _ _ _)) | exact (Heap.objs_set_ne _ _ (by assumption)).trans (by assumption)) rfl) ?_; rintro _ _ ⟨rfl, hH⟩; obtain rfl := hH.symm)
      refine AList.p rfl (pure_eql (.tmp _ _ rfl) ev_int) ?_
      refine AList.p rfl (pure_assign (.tmp _ _ rfl)) ?_
      refine AList.nil ?_
      refine Next.go ?_
      -- c1
      refine AWP.cond (.tmp _ _ rfl) (fun hc16 => ?_) (fun hc16 => ?_)
      · try simp only [decide_eq_true_eq] at hc16
        -- region 4
        refine AWP.region ?_
        first | (refine AList.p rfl (pure_fieldI Tryz.underlying24 rfl Tryz.sizeOf3 (.tmp _ _ rfl)) ?_) | (refine AList.p rfl (pure_field Tryz.underlying24 rfl Tryz.sizeOf3 (.tmp _ _ rfl)) ?_)
        first | (refine AList.p rfl (pure_load1 Tryz.isAgg3 (.tmp _ _ rfl)) ?_) | (refine AList.s rfl (step_load1 Tryz.isAgg3 (.tmp _ _ rfl) (by first | assumption | exact (by assumption : Heap.le _ _).objs _ _ (by assumption) | exact Heap.objs_set_same _ _ _ | exact (Heap.objs_set_ne _ _ (by assumption)).trans (Heap.objs_set_same _ _ _) | exact (Heap.objs_set_ne _ _ (by assumption)).trans ((Heap.objs_set_ne _ _ (by assumption)).trans (Heap.objs_set_same _ _ _)) | exact (Heap.objs_set_ne _ _ (by assumption)).trans (by assumption)) rfl) ?_; rintro _ _ ⟨rfl, hH⟩; obtain rfl := hH.symm)
        refine AList.p rfl (pure_build [(0, 1), (1, 1), (2, 1), (3, 1), (4, 1)] Tryz.underlying24 Tryz.zeroValue24 (zr24) rfl (pl24 _ Tryz.underlying24) (.cons (.tmp _ _ rfl) (.inl rfl) .nil) rfl) ?_
        refine AList.s0 (step_store Tryz.sizeOf24 (.tmp _ _ rfl) (.tmp _ _ rfl) rfl rfl (.inr ⟨_, rfl⟩) (by first | assumption | exact (by assumption : Heap.le _ _).objs _ _ (by assumption) | exact Heap.objs_set_same _ _ _ | exact (Heap.objs_set_ne _ _ (by assumption)).trans (Heap.objs_set_same _ _ _) | exact (Heap.objs_set_ne _ _ (by assumption)).trans ((Heap.objs_set_ne _ _ (by assumption)).trans (Heap.objs_set_same _ _ _)) | exact (Heap.objs_set_ne _ _ (by assumption)).trans (by assumption)) (Nat.le_of_ble_eq_true rfl)) ?_
        rintro _ _ ⟨rfl, hH⟩
        obtain rfl := hH.symm
        try first | rw [Heap.set_set] | rw [Heap.set_under (by assumption)]
        refine AList.nil ?_
        refine Block.go ?_
        refine Next.go ?_
        refine AWP.seq ?_
        refine AWP.seq ?_
        -- region 7
        refine AWP.region ?_
        first | (refine AList.p rfl (pure_fieldI Tryz.underlying24 rfl Tryz.sizeOf3 (.tmp _ _ rfl)) ?_) | (refine AList.p rfl (pure_field Tryz.underlying24 rfl Tryz.sizeOf3 (.tmp _ _ rfl)) ?_)
        first | (refine AList.p rfl (pure_load1 Tryz.isAgg3 (.tmp _ _ rfl)) ?_) | (refine AList.s rfl (step_load1 Tryz.isAgg3 (.tmp _ _ rfl) (by first | assumption | exact (by assumption : Heap.le _ _).objs _ _ (by assumption) | exact Heap.objs_set_same _ _ _ | exact (Heap.objs_set_ne _ _ (by assumption)).trans (Heap.objs_set_same _ _ _) | exact (Heap.objs_set_ne _ _ (by assumption)).trans ((Heap.objs_set_ne _ _ (by assumption)).trans (Heap.objs_set_same _ _ _)) | exact (Heap.objs_set_ne _ _ (by assumption)).trans (by assumption)) rfl) ?_; rintro _ _ ⟨rfl, hH⟩; obtain rfl := hH.symm)
        first | (refine AList.p rfl (pure_fieldI Tryz.underlying24 rfl Tryz.sizeOf3 (.tmp _ _ rfl)) ?_) | (refine AList.p rfl (pure_field Tryz.underlying24 rfl Tryz.sizeOf3 (.tmp _ _ rfl)) ?_)
        first | (refine AList.p rfl (pure_load1 Tryz.isAgg3 (.tmp _ _ rfl)) ?_) | (refine AList.s rfl (step_load1 Tryz.isAgg3 (.tmp _ _ rfl) (by first | assumption | exact (by assumption : Heap.le _ _).objs _ _ (by assumption) | exact Heap.objs_set_same _ _ _ | exact (Heap.objs_set_ne _ _ (by assumption)).trans (Heap.objs_set_same _ _ _) | exact (Heap.objs_set_ne _ _ (by assumption)).trans ((Heap.objs_set_ne _ _ (by assumption)).trans (Heap.objs_set_same _ _ _)) | exact (Heap.objs_set_ne _ _ (by assumption)).trans (by assumption)) rfl) ?_; rintro _ _ ⟨rfl, hH⟩; obtain rfl := hH.symm)
        refine AList.p rfl (pure_neq (.tmp _ _ rfl) (.tmp _ _ rfl)) ?_
        refine AList.nil ?_
        refine Next.go ?_
        refine AWP.frz (t := 5) rfl (by first | exact hb5 | exact Heap.fresh_set hb5 _) ?_
        refine AWP.frz (t := 4) rfl (by first | exact hb4 | exact Heap.fresh_set hb4 _) ?_
        -- c3
        refine AWP.cond (.tmp _ _ rfl) (fun hc34 => ?_) (fun hc34 => ?_)
        · try simp only [decide_eq_true_eq, ne_eq] at hc34
          refine AWP.seq ?_
          -- region 8
          refine AWP.draw [(0, true), (1, true), (2, true), (3, true), (4, true), (5, true), (6, true), (7, true)] rfl (by decide +kernel) ?_
          first | (refine APlan.p rfl rfl (pure_fieldI Tryz.underlying24 rfl Tryz.sizeOf3 (.tmp _ _ rfl)) ?_) | (refine APlan.p rfl rfl (pure_field Tryz.underlying24 rfl Tryz.sizeOf3 (.tmp _ _ rfl)) ?_)
          first | (refine APlan.p rfl rfl (pure_load1 Tryz.isAgg3 (.tmp _ _ rfl)) ?_) | (refine APlan.f rfl rfl (fun _ => step_load1 Tryz.isAgg3 (.tmp _ _ rfl) (by first | assumption | exact (by assumption : Heap.le _ _).objs _ _ (by assumption) | exact Heap.objs_set_same _ _ _ | exact (Heap.objs_set_ne _ _ (by assumption)).trans (Heap.objs_set_same _ _ _) | exact (Heap.objs_set_ne _ _ (by assumption)).trans ((Heap.objs_set_ne _ _ (by assumption)).trans (Heap.objs_set_same _ _ _)) | exact (Heap.objs_set_ne _ _ (by assumption)).trans (by assumption)) rfl) ?_)
          refine APlan.f rfl rfl (fun _ => step_call0 Tryz.call31 (.cons (.tmp _ _ rfl) .nil) (place_calls _ _)) ?_
          first | (refine APlan.p rfl rfl (pure_fieldI Tryz.underlying24 rfl Tryz.sizeOf3 (.tmp _ _ rfl)) ?_) | (refine APlan.p rfl rfl (pure_field Tryz.underlying24 rfl Tryz.sizeOf3 (.tmp _ _ rfl)) ?_)
          first | (refine APlan.p rfl rfl (pure_load1 Tryz.isAgg3 (.tmp _ _ rfl)) ?_) | (refine APlan.f rfl rfl (fun _ => step_load1 Tryz.isAgg3 (.tmp _ _ rfl) (by first | assumption | exact (by assumption : Heap.le _ _).objs _ _ (by assumption) | exact Heap.objs_set_same _ _ _ | exact (Heap.objs_set_ne _ _ (by assumption)).trans (Heap.objs_set_same _ _ _) | exact (Heap.objs_set_ne _ _ (by assumption)).trans ((Heap.objs_set_ne _ _ (by assumption)).trans (Heap.objs_set_same _ _ _)) | exact (Heap.objs_set_ne _ _ (by assumption)).trans (by assumption)) rfl) ?_)
          refine APlan.f rfl rfl (fun _ => step_call0 Tryz.call31 (.cons (.tmp _ _ rfl) .nil) (place_calls _ _)) ?_
          refine APlan.f rfl rfl (fun _ => step_call0 Tryz.call30 (.cons (.tmp _ _ rfl) (.cons (.tmp _ _ rfl) .nil)) (cmpInt_calls _ _ _)) ?_
          refine APlan.p rfl rfl (pure_assign (.tmp _ _ rfl)) ?_
          refine APlan.nil ?_
          refine Next.go ?_
          refine AWP.ret ?_
          refine Next.rt ?_
          -- ret 1
          refine Ret.go (.cons (.tmp _ _ rfl) .nil) _ (Heap.le.refl _) ?_
          refine ⟨?_, rfl⟩
          simp only [packed]
          first | (rw [compare_fail hc7]; done) | (exact (hc34 trivial).elim) | (exact (hc34 rfl).elim) | (rw [compare_main (by omega), if_pos (by omega)]; done) | (rw [compare_main (by omega), if_neg (by omega), if_pos (by omega)]; done) | (rw [compare_main (by omega), if_neg (by omega), if_neg (by omega), if_pos (by omega)]; done) | (rw [compare_main (by omega), if_neg (by omega), if_neg (by omega), if_neg (by omega)]; done)
        · try simp only [decide_eq_false_iff_not, ne_eq, Decidable.not_not] at hc34
          refine AWP.skip ?_
          refine Next.go ?_
          refine AWP.seq ?_
          -- region 9
          refine AWP.region ?_
          first | (refine AList.p rfl (pure_loadN Tryz.isAgg24 Tryz.sizeOf24 (.tmp _ _ rfl) (Nat.le_of_ble_eq_true rfl)) ?_) | (refine AList.s rfl (step_loadN Tryz.isAgg24 Tryz.sizeOf24 (.tmp _ _ rfl) (by first | assumption | exact (by assumption : Heap.le _ _).objs _ _ (by assumption) | exact Heap.objs_set_same _ _ _ | exact (Heap.objs_set_ne _ _ (by assumption)).trans (Heap.objs_set_same _ _ _) | exact (Heap.objs_set_ne _ _ (by assumption)).trans ((Heap.objs_set_ne _ _ (by assumption)).trans (Heap.objs_set_same _ _ _)) | exact (Heap.objs_set_ne _ _ (by assumption)).trans (by assumption)) (Nat.le_of_ble_eq_true rfl)) ?_; rintro _ _ ⟨rfl, hH⟩; obtain rfl := hH.symm)
          first | (refine AList.p rfl (pure_loadN Tryz.isAgg24 Tryz.sizeOf24 (.tmp _ _ rfl) (Nat.le_of_ble_eq_true rfl)) ?_) | (refine AList.s rfl (step_loadN Tryz.isAgg24 Tryz.sizeOf24 (.tmp _ _ rfl) (by first | assumption | exact (by assumption : Heap.le _ _).objs _ _ (by assumption) | exact Heap.objs_set_same _ _ _ | exact (Heap.objs_set_ne _ _ (by assumption)).trans (Heap.objs_set_same _ _ _) | exact (Heap.objs_set_ne _ _ (by assumption)).trans ((Heap.objs_set_ne _ _ (by assumption)).trans (Heap.objs_set_same _ _ _)) | exact (Heap.objs_set_ne _ _ (by assumption)).trans (by assumption)) (Nat.le_of_ble_eq_true rfl)) ?_; rintro _ _ ⟨rfl, hH⟩; obtain rfl := hH.symm)
          refine AList.s rfl (step_call0 Tryz.call32 (.cons (.tmp _ _ rfl) (.cons (.tmp _ _ rfl) .nil)) (by first | exact compareCall a b (by first | assumption | (show (0 : Int) ≤ 0; decide) | (show (0 : Int) < 18446744073709551616; decide) | exact Nat.zero_le _) (by first | assumption | (show (0 : Int) ≤ 0; decide) | (show (0 : Int) < 18446744073709551616; decide) | exact Nat.zero_le _) (by first | assumption | (show (0 : Int) ≤ 0; decide) | (show (0 : Int) < 18446744073709551616; decide) | exact Nat.zero_le _) (by first | assumption | (show (0 : Int) ≤ 0; decide) | (show (0 : Int) < 18446744073709551616; decide) | exact Nat.zero_le _) (by first | assumption | (show (0 : Int) ≤ 0; decide) | (show (0 : Int) < 18446744073709551616; decide) | exact Nat.zero_le _) (by first | assumption | (show (0 : Int) ≤ 0; decide) | (show (0 : Int) < 18446744073709551616; decide) | exact Nat.zero_le _) _ | exact compareCall (zeroV b.kind) b (by first | assumption | (show (0 : Int) ≤ 0; decide) | (show (0 : Int) < 18446744073709551616; decide) | exact Nat.zero_le _) (by first | assumption | (show (0 : Int) ≤ 0; decide) | (show (0 : Int) < 18446744073709551616; decide) | exact Nat.zero_le _) (by first | assumption | (show (0 : Int) ≤ 0; decide) | (show (0 : Int) < 18446744073709551616; decide) | exact Nat.zero_le _) (by first | assumption | (show (0 : Int) ≤ 0; decide) | (show (0 : Int) < 18446744073709551616; decide) | exact Nat.zero_le _) (by first | assumption | (show (0 : Int) ≤ 0; decide) | (show (0 : Int) < 18446744073709551616; decide) | exact Nat.zero_le _) (by first | assumption | (show (0 : Int) ≤ 0; decide) | (show (0 : Int) < 18446744073709551616; decide) | exact Nat.zero_le _) _ | exact compareCall a (zeroV a.kind) (by first | assumption | (show (0 : Int) ≤ 0; decide) | (show (0 : Int) < 18446744073709551616; decide) | exact Nat.zero_le _) (by first | assumption | (show (0 : Int) ≤ 0; decide) | (show (0 : Int) < 18446744073709551616; decide) | exact Nat.zero_le _) (by first | assumption | (show (0 : Int) ≤ 0; decide) | (show (0 : Int) < 18446744073709551616; decide) | exact Nat.zero_le _) (by first | assumption | (show (0 : Int) ≤ 0; decide) | (show (0 : Int) < 18446744073709551616; decide) | exact Nat.zero_le _) (by first | assumption | (show (0 : Int) ≤ 0; decide) | (show (0 : Int) < 18446744073709551616; decide) | exact Nat.zero_le _) (by first | assumption | (show (0 : Int) ≤ 0; decide) | (show (0 : Int) < 18446744073709551616; decide) | exact Nat.zero_le _) _)) ?_
          rintro _ _ ⟨rfl, hH⟩
          obtain rfl := hH.symm
          refine AList.p rfl (pure_assign (.tmp _ _ rfl)) ?_
          refine AList.nil ?_
          refine Next.go ?_
          refine AWP.ret ?_
          -- ret 2
          refine Ret.go (.cons (.tmp _ _ rfl) .nil) _ (Heap.le.refl _) ?_
          refine ⟨?_, rfl⟩
          simp only [packed]
          first | (rw [compare_fail hc7]; done) | (exact (hc34 trivial).elim) | (exact (hc34 rfl).elim) | (rw [compare_main (by omega), if_pos (by omega)]; done) | (rw [compare_main (by omega), if_neg (by omega), if_pos (by omega)]; done) | (rw [compare_main (by omega), if_neg (by omega), if_neg (by omega), if_pos (by omega)]; done) | (rw [compare_main (by omega), if_neg (by omega), if_neg (by omega), if_neg (by omega)]; done)
      · try simp only [decide_eq_false_iff_not] at hc16
        refine AWP.seq ?_
        -- region 5
        refine AWP.region ?_
        first | (refine AList.p rfl (pure_fieldI Tryz.underlying24 rfl Tryz.sizeOf3 (.tmp _ _ rfl)) ?_) | (refine AList.p rfl (pure_field Tryz.underlying24 rfl Tryz.sizeOf3 (.tmp _ _ rfl)) ?_)
        first | (refine AList.p rfl (pure_load1 Tryz.isAgg3 (.tmp _ _ rfl)) ?_) | (refine AList.s rfl (step_load1 Tryz.isAgg3 (.tmp _ _ rfl) (by first | assumption | exact (by assumption : Heap.le _ _).objs _ _ (by assumption) | exact Heap.objs_set_same _ _ _ | exact (Heap.objs_set_ne _ _ (by assumption)).trans (Heap.objs_set_same _ _ _) | exact (Heap.objs_set_ne _ _ (by assumption)).trans ((Heap.objs_set_ne _ _ (by assumption)).trans (Heap.objs_set_same _ _ _)) | exact (Heap.objs_set_ne _ _ (by assumption)).trans (by assumption)) rfl) ?_; rintro _ _ ⟨rfl, hH⟩; obtain rfl := hH.symm)
        refine AList.p rfl (pure_eql (.tmp _ _ rfl) ev_int) ?_
        refine AList.p rfl (pure_assign (.tmp _ _ rfl)) ?_
        refine AList.nil ?_
        refine Next.go ?_
        -- c2
        refine AWP.cond (.tmp _ _ rfl) (fun hc23 => ?_) (fun hc23 => ?_)
        · try simp only [decide_eq_true_eq] at hc23
          -- region 6
          refine AWP.region ?_
          first | (refine AList.p rfl (pure_fieldI Tryz.underlying24 rfl Tryz.sizeOf3 (.tmp _ _ rfl)) ?_) | (refine AList.p rfl (pure_field Tryz.underlying24 rfl Tryz.sizeOf3 (.tmp _ _ rfl)) ?_)
          first | (refine AList.p rfl (pure_load1 Tryz.isAgg3 (.tmp _ _ rfl)) ?_) | (refine AList.s rfl (step_load1 Tryz.isAgg3 (.tmp _ _ rfl) (by first | assumption | exact (by assumption : Heap.le _ _).objs _ _ (by assumption) | exact Heap.objs_set_same _ _ _ | exact (Heap.objs_set_ne _ _ (by assumption)).trans (Heap.objs_set_same _ _ _) | exact (Heap.objs_set_ne _ _ (by assumption)).trans ((Heap.objs_set_ne _ _ (by assumption)).trans (Heap.objs_set_same _ _ _)) | exact (Heap.objs_set_ne _ _ (by assumption)).trans (by assumption)) rfl) ?_; rintro _ _ ⟨rfl, hH⟩; obtain rfl := hH.symm)
          refine AList.p rfl (pure_build [(0, 1), (1, 1), (2, 1), (3, 1), (4, 1)] Tryz.underlying24 Tryz.zeroValue24 (zr24) rfl (pl24 _ Tryz.underlying24) (.cons (.tmp _ _ rfl) (.inl rfl) .nil) rfl) ?_
          refine AList.s0 (step_store Tryz.sizeOf24 (.tmp _ _ rfl) (.tmp _ _ rfl) rfl rfl (.inr ⟨_, rfl⟩) (by first | assumption | exact (by assumption : Heap.le _ _).objs _ _ (by assumption) | exact Heap.objs_set_same _ _ _ | exact (Heap.objs_set_ne _ _ (by assumption)).trans (Heap.objs_set_same _ _ _) | exact (Heap.objs_set_ne _ _ (by assumption)).trans ((Heap.objs_set_ne _ _ (by assumption)).trans (Heap.objs_set_same _ _ _)) | exact (Heap.objs_set_ne _ _ (by assumption)).trans (by assumption)) (Nat.le_of_ble_eq_true rfl)) ?_
          rintro _ _ ⟨rfl, hH⟩
          obtain rfl := hH.symm
          try first | rw [Heap.set_set] | rw [Heap.set_under (by assumption)]
          refine AList.nil ?_
          refine Block.go ?_
          refine Next.go ?_
          refine AWP.seq ?_
          refine AWP.seq ?_
          -- region 7
          refine AWP.region ?_
          first | (refine AList.p rfl (pure_fieldI Tryz.underlying24 rfl Tryz.sizeOf3 (.tmp _ _ rfl)) ?_) | (refine AList.p rfl (pure_field Tryz.underlying24 rfl Tryz.sizeOf3 (.tmp _ _ rfl)) ?_)
          first | (refine AList.p rfl (pure_load1 Tryz.isAgg3 (.tmp _ _ rfl)) ?_) | (refine AList.s rfl (step_load1 Tryz.isAgg3 (.tmp _ _ rfl) (by first | assumption | exact (by assumption : Heap.le _ _).objs _ _ (by assumption) | exact Heap.objs_set_same _ _ _ | exact (Heap.objs_set_ne _ _ (by assumption)).trans (Heap.objs_set_same _ _ _) | exact (Heap.objs_set_ne _ _ (by assumption)).trans ((Heap.objs_set_ne _ _ (by assumption)).trans (Heap.objs_set_same _ _ _)) | exact (Heap.objs_set_ne _ _ (by assumption)).trans (by assumption)) rfl) ?_; rintro _ _ ⟨rfl, hH⟩; obtain rfl := hH.symm)
          first | (refine AList.p rfl (pure_fieldI Tryz.underlying24 rfl Tryz.sizeOf3 (.tmp _ _ rfl)) ?_) | (refine AList.p rfl (pure_field Tryz.underlying24 rfl Tryz.sizeOf3 (.tmp _ _ rfl)) ?_)
          first | (refine AList.p rfl (pure_load1 Tryz.isAgg3 (.tmp _ _ rfl)) ?_) | (refine AList.s rfl (step_load1 Tryz.isAgg3 (.tmp _ _ rfl) (by first | assumption | exact (by assumption : Heap.le _ _).objs _ _ (by assumption) | exact Heap.objs_set_same _ _ _ | exact (Heap.objs_set_ne _ _ (by assumption)).trans (Heap.objs_set_same _ _ _) | exact (Heap.objs_set_ne _ _ (by assumption)).trans ((Heap.objs_set_ne _ _ (by assumption)).trans (Heap.objs_set_same _ _ _)) | exact (Heap.objs_set_ne _ _ (by assumption)).trans (by assumption)) rfl) ?_; rintro _ _ ⟨rfl, hH⟩; obtain rfl := hH.symm)
          refine AList.p rfl (pure_neq (.tmp _ _ rfl) (.tmp _ _ rfl)) ?_
          refine AList.nil ?_
          refine Next.go ?_
          refine AWP.frz (t := 5) rfl (by first | exact hb5 | exact Heap.fresh_set hb5 _) ?_
          refine AWP.frz (t := 4) rfl (by first | exact hb4 | exact Heap.fresh_set hb4 _) ?_
          -- c3
          refine AWP.cond (.tmp _ _ rfl) (fun hc34 => ?_) (fun hc34 => ?_)
          · try simp only [decide_eq_true_eq, ne_eq] at hc34
            refine AWP.seq ?_
            -- region 8
            refine AWP.draw [(0, true), (1, true), (2, true), (3, true), (4, true), (5, true), (6, true), (7, true)] rfl (by decide +kernel) ?_
            first | (refine APlan.p rfl rfl (pure_fieldI Tryz.underlying24 rfl Tryz.sizeOf3 (.tmp _ _ rfl)) ?_) | (refine APlan.p rfl rfl (pure_field Tryz.underlying24 rfl Tryz.sizeOf3 (.tmp _ _ rfl)) ?_)
            first | (refine APlan.p rfl rfl (pure_load1 Tryz.isAgg3 (.tmp _ _ rfl)) ?_) | (refine APlan.f rfl rfl (fun _ => step_load1 Tryz.isAgg3 (.tmp _ _ rfl) (by first | assumption | exact (by assumption : Heap.le _ _).objs _ _ (by assumption) | exact Heap.objs_set_same _ _ _ | exact (Heap.objs_set_ne _ _ (by assumption)).trans (Heap.objs_set_same _ _ _) | exact (Heap.objs_set_ne _ _ (by assumption)).trans ((Heap.objs_set_ne _ _ (by assumption)).trans (Heap.objs_set_same _ _ _)) | exact (Heap.objs_set_ne _ _ (by assumption)).trans (by assumption)) rfl) ?_)
            refine APlan.f rfl rfl (fun _ => step_call0 Tryz.call31 (.cons (.tmp _ _ rfl) .nil) (place_calls _ _)) ?_
            first | (refine APlan.p rfl rfl (pure_fieldI Tryz.underlying24 rfl Tryz.sizeOf3 (.tmp _ _ rfl)) ?_) | (refine APlan.p rfl rfl (pure_field Tryz.underlying24 rfl Tryz.sizeOf3 (.tmp _ _ rfl)) ?_)
            first | (refine APlan.p rfl rfl (pure_load1 Tryz.isAgg3 (.tmp _ _ rfl)) ?_) | (refine APlan.f rfl rfl (fun _ => step_load1 Tryz.isAgg3 (.tmp _ _ rfl) (by first | assumption | exact (by assumption : Heap.le _ _).objs _ _ (by assumption) | exact Heap.objs_set_same _ _ _ | exact (Heap.objs_set_ne _ _ (by assumption)).trans (Heap.objs_set_same _ _ _) | exact (Heap.objs_set_ne _ _ (by assumption)).trans ((Heap.objs_set_ne _ _ (by assumption)).trans (Heap.objs_set_same _ _ _)) | exact (Heap.objs_set_ne _ _ (by assumption)).trans (by assumption)) rfl) ?_)
            refine APlan.f rfl rfl (fun _ => step_call0 Tryz.call31 (.cons (.tmp _ _ rfl) .nil) (place_calls _ _)) ?_
            refine APlan.f rfl rfl (fun _ => step_call0 Tryz.call30 (.cons (.tmp _ _ rfl) (.cons (.tmp _ _ rfl) .nil)) (cmpInt_calls _ _ _)) ?_
            refine APlan.p rfl rfl (pure_assign (.tmp _ _ rfl)) ?_
            refine APlan.nil ?_
            refine Next.go ?_
            refine AWP.ret ?_
            refine Next.rt ?_
            -- ret 3
            refine Ret.go (.cons (.tmp _ _ rfl) .nil) _ (Heap.le.refl _) ?_
            refine ⟨?_, rfl⟩
            simp only [packed]
            first | (rw [compare_fail hc7]; done) | (exact (hc34 trivial).elim) | (exact (hc34 rfl).elim) | (rw [compare_main (by omega), if_pos (by omega)]; done) | (rw [compare_main (by omega), if_neg (by omega), if_pos (by omega)]; done) | (rw [compare_main (by omega), if_neg (by omega), if_neg (by omega), if_pos (by omega)]; done) | (rw [compare_main (by omega), if_neg (by omega), if_neg (by omega), if_neg (by omega)]; done)
          · try simp only [decide_eq_false_iff_not, ne_eq, Decidable.not_not] at hc34
            refine AWP.skip ?_
            refine Next.go ?_
            refine AWP.seq ?_
            -- region 9
            refine AWP.region ?_
            first | (refine AList.p rfl (pure_loadN Tryz.isAgg24 Tryz.sizeOf24 (.tmp _ _ rfl) (Nat.le_of_ble_eq_true rfl)) ?_) | (refine AList.s rfl (step_loadN Tryz.isAgg24 Tryz.sizeOf24 (.tmp _ _ rfl) (by first | assumption | exact (by assumption : Heap.le _ _).objs _ _ (by assumption) | exact Heap.objs_set_same _ _ _ | exact (Heap.objs_set_ne _ _ (by assumption)).trans (Heap.objs_set_same _ _ _) | exact (Heap.objs_set_ne _ _ (by assumption)).trans ((Heap.objs_set_ne _ _ (by assumption)).trans (Heap.objs_set_same _ _ _)) | exact (Heap.objs_set_ne _ _ (by assumption)).trans (by assumption)) (Nat.le_of_ble_eq_true rfl)) ?_; rintro _ _ ⟨rfl, hH⟩; obtain rfl := hH.symm)
            first | (refine AList.p rfl (pure_loadN Tryz.isAgg24 Tryz.sizeOf24 (.tmp _ _ rfl) (Nat.le_of_ble_eq_true rfl)) ?_) | (refine AList.s rfl (step_loadN Tryz.isAgg24 Tryz.sizeOf24 (.tmp _ _ rfl) (by first | assumption | exact (by assumption : Heap.le _ _).objs _ _ (by assumption) | exact Heap.objs_set_same _ _ _ | exact (Heap.objs_set_ne _ _ (by assumption)).trans (Heap.objs_set_same _ _ _) | exact (Heap.objs_set_ne _ _ (by assumption)).trans ((Heap.objs_set_ne _ _ (by assumption)).trans (Heap.objs_set_same _ _ _)) | exact (Heap.objs_set_ne _ _ (by assumption)).trans (by assumption)) (Nat.le_of_ble_eq_true rfl)) ?_; rintro _ _ ⟨rfl, hH⟩; obtain rfl := hH.symm)
            refine AList.s rfl (step_call0 Tryz.call32 (.cons (.tmp _ _ rfl) (.cons (.tmp _ _ rfl) .nil)) (by first | exact compareCall a b (by first | assumption | (show (0 : Int) ≤ 0; decide) | (show (0 : Int) < 18446744073709551616; decide) | exact Nat.zero_le _) (by first | assumption | (show (0 : Int) ≤ 0; decide) | (show (0 : Int) < 18446744073709551616; decide) | exact Nat.zero_le _) (by first | assumption | (show (0 : Int) ≤ 0; decide) | (show (0 : Int) < 18446744073709551616; decide) | exact Nat.zero_le _) (by first | assumption | (show (0 : Int) ≤ 0; decide) | (show (0 : Int) < 18446744073709551616; decide) | exact Nat.zero_le _) (by first | assumption | (show (0 : Int) ≤ 0; decide) | (show (0 : Int) < 18446744073709551616; decide) | exact Nat.zero_le _) (by first | assumption | (show (0 : Int) ≤ 0; decide) | (show (0 : Int) < 18446744073709551616; decide) | exact Nat.zero_le _) _ | exact compareCall (zeroV b.kind) b (by first | assumption | (show (0 : Int) ≤ 0; decide) | (show (0 : Int) < 18446744073709551616; decide) | exact Nat.zero_le _) (by first | assumption | (show (0 : Int) ≤ 0; decide) | (show (0 : Int) < 18446744073709551616; decide) | exact Nat.zero_le _) (by first | assumption | (show (0 : Int) ≤ 0; decide) | (show (0 : Int) < 18446744073709551616; decide) | exact Nat.zero_le _) (by first | assumption | (show (0 : Int) ≤ 0; decide) | (show (0 : Int) < 18446744073709551616; decide) | exact Nat.zero_le _) (by first | assumption | (show (0 : Int) ≤ 0; decide) | (show (0 : Int) < 18446744073709551616; decide) | exact Nat.zero_le _) (by first | assumption | (show (0 : Int) ≤ 0; decide) | (show (0 : Int) < 18446744073709551616; decide) | exact Nat.zero_le _) _ | exact compareCall a (zeroV a.kind) (by first | assumption | (show (0 : Int) ≤ 0; decide) | (show (0 : Int) < 18446744073709551616; decide) | exact Nat.zero_le _) (by first | assumption | (show (0 : Int) ≤ 0; decide) | (show (0 : Int) < 18446744073709551616; decide) | exact Nat.zero_le _) (by first | assumption | (show (0 : Int) ≤ 0; decide) | (show (0 : Int) < 18446744073709551616; decide) | exact Nat.zero_le _) (by first | assumption | (show (0 : Int) ≤ 0; decide) | (show (0 : Int) < 18446744073709551616; decide) | exact Nat.zero_le _) (by first | assumption | (show (0 : Int) ≤ 0; decide) | (show (0 : Int) < 18446744073709551616; decide) | exact Nat.zero_le _) (by first | assumption | (show (0 : Int) ≤ 0; decide) | (show (0 : Int) < 18446744073709551616; decide) | exact Nat.zero_le _) _)) ?_
            rintro _ _ ⟨rfl, hH⟩
            obtain rfl := hH.symm
            refine AList.p rfl (pure_assign (.tmp _ _ rfl)) ?_
            refine AList.nil ?_
            refine Next.go ?_
            refine AWP.ret ?_
            -- ret 4
            refine Ret.go (.cons (.tmp _ _ rfl) .nil) _ (Heap.le.refl _) ?_
            refine ⟨?_, rfl⟩
            simp only [packed]
            first | (rw [compare_fail hc7]; done) | (exact (hc34 trivial).elim) | (exact (hc34 rfl).elim) | (rw [compare_main (by omega), if_pos (by omega)]; done) | (rw [compare_main (by omega), if_neg (by omega), if_pos (by omega)]; done) | (rw [compare_main (by omega), if_neg (by omega), if_neg (by omega), if_pos (by omega)]; done) | (rw [compare_main (by omega), if_neg (by omega), if_neg (by omega), if_neg (by omega)]; done)
        · try simp only [decide_eq_false_iff_not] at hc23
          refine AWP.skip ?_
          refine Block.go ?_
          refine Next.go ?_
          refine AWP.seq ?_
          refine AWP.seq ?_
          -- region 7
          refine AWP.region ?_
          first | (refine AList.p rfl (pure_fieldI Tryz.underlying24 rfl Tryz.sizeOf3 (.tmp _ _ rfl)) ?_) | (refine AList.p rfl (pure_field Tryz.underlying24 rfl Tryz.sizeOf3 (.tmp _ _ rfl)) ?_)
          first | (refine AList.p rfl (pure_load1 Tryz.isAgg3 (.tmp _ _ rfl)) ?_) | (refine AList.s rfl (step_load1 Tryz.isAgg3 (.tmp _ _ rfl) (by first | assumption | exact (by assumption : Heap.le _ _).objs _ _ (by assumption) | exact Heap.objs_set_same _ _ _ | exact (Heap.objs_set_ne _ _ (by assumption)).trans (Heap.objs_set_same _ _ _) | exact (Heap.objs_set_ne _ _ (by assumption)).trans ((Heap.objs_set_ne _ _ (by assumption)).trans (Heap.objs_set_same _ _ _)) | exact (Heap.objs_set_ne _ _ (by assumption)).trans (by assumption)) rfl) ?_; rintro _ _ ⟨rfl, hH⟩; obtain rfl := hH.symm)
          first | (refine AList.p rfl (pure_fieldI Tryz.underlying24 rfl Tryz.sizeOf3 (.tmp _ _ rfl)) ?_) | (refine AList.p rfl (pure_field Tryz.underlying24 rfl Tryz.sizeOf3 (.tmp _ _ rfl)) ?_)
          first | (refine AList.p rfl (pure_load1 Tryz.isAgg3 (.tmp _ _ rfl)) ?_) | (refine AList.s rfl (step_load1 Tryz.isAgg3 (.tmp _ _ rfl) (by first | assumption | exact (by assumption : Heap.le _ _).objs _ _ (by assumption) | exact Heap.objs_set_same _ _ _ | exact (Heap.objs_set_ne _ _ (by assumption)).trans (Heap.objs_set_same _ _ _) | exact (Heap.objs_set_ne _ _ (by assumption)).trans ((Heap.objs_set_ne _ _ (by assumption)).trans (Heap.objs_set_same _ _ _)) | exact (Heap.objs_set_ne _ _ (by assumption)).trans (by assumption)) rfl) ?_; rintro _ _ ⟨rfl, hH⟩; obtain rfl := hH.symm)
          refine AList.p rfl (pure_neq (.tmp _ _ rfl) (.tmp _ _ rfl)) ?_
          refine AList.nil ?_
          refine Next.go ?_
          refine AWP.frz (t := 5) rfl (by first | exact hb5 | exact Heap.fresh_set hb5 _) ?_
          refine AWP.frz (t := 4) rfl (by first | exact hb4 | exact Heap.fresh_set hb4 _) ?_
          -- c3
          refine AWP.cond (.tmp _ _ rfl) (fun hc34 => ?_) (fun hc34 => ?_)
          · try simp only [decide_eq_true_eq, ne_eq] at hc34
            refine AWP.seq ?_
            -- region 8
            refine AWP.draw [(0, true), (1, true), (2, true), (3, true), (4, true), (5, true), (6, true), (7, true)] rfl (by decide +kernel) ?_
            first | (refine APlan.p rfl rfl (pure_fieldI Tryz.underlying24 rfl Tryz.sizeOf3 (.tmp _ _ rfl)) ?_) | (refine APlan.p rfl rfl (pure_field Tryz.underlying24 rfl Tryz.sizeOf3 (.tmp _ _ rfl)) ?_)
            first | (refine APlan.p rfl rfl (pure_load1 Tryz.isAgg3 (.tmp _ _ rfl)) ?_) | (refine APlan.f rfl rfl (fun _ => step_load1 Tryz.isAgg3 (.tmp _ _ rfl) (by first | assumption | exact (by assumption : Heap.le _ _).objs _ _ (by assumption) | exact Heap.objs_set_same _ _ _ | exact (Heap.objs_set_ne _ _ (by assumption)).trans (Heap.objs_set_same _ _ _) | exact (Heap.objs_set_ne _ _ (by assumption)).trans ((Heap.objs_set_ne _ _ (by assumption)).trans (Heap.objs_set_same _ _ _)) | exact (Heap.objs_set_ne _ _ (by assumption)).trans (by assumption)) rfl) ?_)
            refine APlan.f rfl rfl (fun _ => step_call0 Tryz.call31 (.cons (.tmp _ _ rfl) .nil) (place_calls _ _)) ?_
            first | (refine APlan.p rfl rfl (pure_fieldI Tryz.underlying24 rfl Tryz.sizeOf3 (.tmp _ _ rfl)) ?_) | (refine APlan.p rfl rfl (pure_field Tryz.underlying24 rfl Tryz.sizeOf3 (.tmp _ _ rfl)) ?_)
            first | (refine APlan.p rfl rfl (pure_load1 Tryz.isAgg3 (.tmp _ _ rfl)) ?_) | (refine APlan.f rfl rfl (fun _ => step_load1 Tryz.isAgg3 (.tmp _ _ rfl) (by first | assumption | exact (by assumption : Heap.le _ _).objs _ _ (by assumption) | exact Heap.objs_set_same _ _ _ | exact (Heap.objs_set_ne _ _ (by assumption)).trans (Heap.objs_set_same _ _ _) | exact (Heap.objs_set_ne _ _ (by assumption)).trans ((Heap.objs_set_ne _ _ (by assumption)).trans (Heap.objs_set_same _ _ _)) | exact (Heap.objs_set_ne _ _ (by assumption)).trans (by assumption)) rfl) ?_)
            refine APlan.f rfl rfl (fun _ => step_call0 Tryz.call31 (.cons (.tmp _ _ rfl) .nil) (place_calls _ _)) ?_
            refine APlan.f rfl rfl (fun _ => step_call0 Tryz.call30 (.cons (.tmp _ _ rfl) (.cons (.tmp _ _ rfl) .nil)) (cmpInt_calls _ _ _)) ?_
            refine APlan.p rfl rfl (pure_assign (.tmp _ _ rfl)) ?_
            refine APlan.nil ?_
            refine Next.go ?_
            refine AWP.ret ?_
            refine Next.rt ?_
            -- ret 5
            refine Ret.go (.cons (.tmp _ _ rfl) .nil) _ (Heap.le.refl _) ?_
            refine ⟨?_, rfl⟩
            simp only [packed]
            first | (rw [compare_fail hc7]; done) | (exact (hc34 trivial).elim) | (exact (hc34 rfl).elim) | (rw [compare_main (by omega), if_pos (by omega)]; done) | (rw [compare_main (by omega), if_neg (by omega), if_pos (by omega)]; done) | (rw [compare_main (by omega), if_neg (by omega), if_neg (by omega), if_pos (by omega)]; done) | (rw [compare_main (by omega), if_neg (by omega), if_neg (by omega), if_neg (by omega)]; done)
          · try simp only [decide_eq_false_iff_not, ne_eq, Decidable.not_not] at hc34
            refine AWP.skip ?_
            refine Next.go ?_
            refine AWP.seq ?_
            -- region 9
            refine AWP.region ?_
            first | (refine AList.p rfl (pure_loadN Tryz.isAgg24 Tryz.sizeOf24 (.tmp _ _ rfl) (Nat.le_of_ble_eq_true rfl)) ?_) | (refine AList.s rfl (step_loadN Tryz.isAgg24 Tryz.sizeOf24 (.tmp _ _ rfl) (by first | assumption | exact (by assumption : Heap.le _ _).objs _ _ (by assumption) | exact Heap.objs_set_same _ _ _ | exact (Heap.objs_set_ne _ _ (by assumption)).trans (Heap.objs_set_same _ _ _) | exact (Heap.objs_set_ne _ _ (by assumption)).trans ((Heap.objs_set_ne _ _ (by assumption)).trans (Heap.objs_set_same _ _ _)) | exact (Heap.objs_set_ne _ _ (by assumption)).trans (by assumption)) (Nat.le_of_ble_eq_true rfl)) ?_; rintro _ _ ⟨rfl, hH⟩; obtain rfl := hH.symm)
            first | (refine AList.p rfl (pure_loadN Tryz.isAgg24 Tryz.sizeOf24 (.tmp _ _ rfl) (Nat.le_of_ble_eq_true rfl)) ?_) | (refine AList.s rfl (step_loadN Tryz.isAgg24 Tryz.sizeOf24 (.tmp _ _ rfl) (by first | assumption | exact (by assumption : Heap.le _ _).objs _ _ (by assumption) | exact Heap.objs_set_same _ _ _ | exact (Heap.objs_set_ne _ _ (by assumption)).trans (Heap.objs_set_same _ _ _) | exact (Heap.objs_set_ne _ _ (by assumption)).trans ((Heap.objs_set_ne _ _ (by assumption)).trans (Heap.objs_set_same _ _ _)) | exact (Heap.objs_set_ne _ _ (by assumption)).trans (by assumption)) (Nat.le_of_ble_eq_true rfl)) ?_; rintro _ _ ⟨rfl, hH⟩; obtain rfl := hH.symm)
            refine AList.s rfl (step_call0 Tryz.call32 (.cons (.tmp _ _ rfl) (.cons (.tmp _ _ rfl) .nil)) (by first | exact compareCall a b (by first | assumption | (show (0 : Int) ≤ 0; decide) | (show (0 : Int) < 18446744073709551616; decide) | exact Nat.zero_le _) (by first | assumption | (show (0 : Int) ≤ 0; decide) | (show (0 : Int) < 18446744073709551616; decide) | exact Nat.zero_le _) (by first | assumption | (show (0 : Int) ≤ 0; decide) | (show (0 : Int) < 18446744073709551616; decide) | exact Nat.zero_le _) (by first | assumption | (show (0 : Int) ≤ 0; decide) | (show (0 : Int) < 18446744073709551616; decide) | exact Nat.zero_le _) (by first | assumption | (show (0 : Int) ≤ 0; decide) | (show (0 : Int) < 18446744073709551616; decide) | exact Nat.zero_le _) (by first | assumption | (show (0 : Int) ≤ 0; decide) | (show (0 : Int) < 18446744073709551616; decide) | exact Nat.zero_le _) _ | exact compareCall (zeroV b.kind) b (by first | assumption | (show (0 : Int) ≤ 0; decide) | (show (0 : Int) < 18446744073709551616; decide) | exact Nat.zero_le _) (by first | assumption | (show (0 : Int) ≤ 0; decide) | (show (0 : Int) < 18446744073709551616; decide) | exact Nat.zero_le _) (by first | assumption | (show (0 : Int) ≤ 0; decide) | (show (0 : Int) < 18446744073709551616; decide) | exact Nat.zero_le _) (by first | assumption | (show (0 : Int) ≤ 0; decide) | (show (0 : Int) < 18446744073709551616; decide) | exact Nat.zero_le _) (by first | assumption | (show (0 : Int) ≤ 0; decide) | (show (0 : Int) < 18446744073709551616; decide) | exact Nat.zero_le _) (by first | assumption | (show (0 : Int) ≤ 0; decide) | (show (0 : Int) < 18446744073709551616; decide) | exact Nat.zero_le _) _ | exact compareCall a (zeroV a.kind) (by first | assumption | (show (0 : Int) ≤ 0; decide) | (show (0 : Int) < 18446744073709551616; decide) | exact Nat.zero_le _) (by first | assumption | (show (0 : Int) ≤ 0; decide) | (show (0 : Int) < 18446744073709551616; decide) | exact Nat.zero_le _) (by first | assumption | (show (0 : Int) ≤ 0; decide) | (show (0 : Int) < 18446744073709551616; decide) | exact Nat.zero_le _) (by first | assumption | (show (0 : Int) ≤ 0; decide) | (show (0 : Int) < 18446744073709551616; decide) | exact Nat.zero_le _) (by first | assumption | (show (0 : Int) ≤ 0; decide) | (show (0 : Int) < 18446744073709551616; decide) | exact Nat.zero_le _) (by first | assumption | (show (0 : Int) ≤ 0; decide) | (show (0 : Int) < 18446744073709551616; decide) | exact Nat.zero_le _) _)) ?_
            rintro _ _ ⟨rfl, hH⟩
            obtain rfl := hH.symm
            refine AList.p rfl (pure_assign (.tmp _ _ rfl)) ?_
            refine AList.nil ?_
            refine Next.go ?_
            refine AWP.ret ?_
            -- ret 6
            refine Ret.go (.cons (.tmp _ _ rfl) .nil) _ (Heap.le.refl _) ?_
            refine ⟨?_, rfl⟩
            simp only [packed]
            first | (rw [compare_fail hc7]; done) | (exact (hc34 trivial).elim) | (exact (hc34 rfl).elim) | (rw [compare_main (by omega), if_pos (by omega)]; done) | (rw [compare_main (by omega), if_neg (by omega), if_pos (by omega)]; done) | (rw [compare_main (by omega), if_neg (by omega), if_neg (by omega), if_pos (by omega)]; done) | (rw [compare_main (by omega), if_neg (by omega), if_neg (by omega), if_neg (by omega)]; done)

end Go.Proofs.YtncoklpecffokaaGreatDoor
namespace Go.Proofs.YtncoklpecffokaaGreatDoor
open Go Go.RowKit

theorem inv_cell {W : World} (h : Inv W) {n : Nat} {T : TypeId} {cs : List Cc.V} (hn : Cc.t0.get n = some (.cells T cs true true)) (hlt : n < 12) {i : Nat} {x : Cc.V} (hx : cs[i]? = some x) : ∃ g v, W.cell? ⟨n, i, none⟩ = some v ∧ Cc.RelV g x v := by
  obtain ⟨g, e, s⟩ := h
  obtain ⟨vs, fz, ⟨T', h1, _⟩, _, h3, h4, h5, h6⟩ := s.at_ n _ hn
  have hg := (g.gl n (by rw [e]; exact hlt)).2
  rw [hg] at h1
  obtain ⟨v, hv, hr⟩ := h6.at hx
  refine ⟨g, v, ?_, hr⟩
  unfold World.cell?
  rw [h1]
  have hi : i < cs.length := (List.getElem?_eq_some_iff.1 hx).1
  simp only [Array.getElem?_extract] at hv
  split at hv
  · simpa using hv
  · cases hv
theorem inv_text {W : World} (h : Inv W) {n : Nat} {T : TypeId} {cs : List Cc.V} (hn : Cc.t0.get n = some (.cells T cs true true)) (hlt : n < 12) {i : Nat} {l : List UInt8} (hx : cs[i]? = some (.str l)) : ∃ v, W.cell? ⟨n, i, none⟩ = some v ∧ ∀ g, RelV g (.str l) v := by
  obtain ⟨g, v, h1, h2⟩ := inv_cell h hn hlt hx
  cases h2 with
  | str _ hl => exact ⟨_, h1, fun _ => .str _ hl⟩
def namesL : List (List UInt8) := [[99, 104], [100, 101], [101, 110], [102, 114], [104, 105], [115, 118]]
def signsL : List (List UInt8) := [[46], [226, 128, 153], [59], [45], [67, 72, 70], [44], [46], [59], [45], [226, 130, 172], [46], [44], [44], [45], [36], [44], [226, 128, 175], [59], [45], [226, 130, 172], [46], [44], [44], [45], [226, 130, 185], [44], [194, 160], [59], [226, 136, 146], [107, 114]]
def nameAt (i : Nat) : List UInt8 := namesL.getD i []
def signAt (i : Nat) : List UInt8 := signsL.getD i []
theorem k0_is : Cc.t0.get 0 = some (.cells 47 (namesL.map .str) true true) := rfl
theorem k1_is : Cc.t0.get 1 = some (.cells 49 (signsL.map .str) true true) := rfl
theorem map_str {l : List (List UInt8)} {i : Nat} (h : i < l.length) : (l.map Cc.V.str)[i]? = some (.str (l.getD i [])) := by
  rw [List.getElem?_map, List.getD_eq_getElem?_getD, List.getElem?_eq_getElem h]; rfl
theorem inv_name {i : Nat} (hi : i < 6) : ∀ W, Inv W → ∃ v, W.cell? ⟨0, 0 + ((i : Nat) : Int).toNat * 1, none⟩ = some v ∧ ∀ g, RelV g (.str (nameAt i)) v := by
  intro W h
  rw [show 0 + ((i : Nat) : Int).toNat * 1 = i by omega]
  exact inv_text h k0_is (by decide) (map_str (by simpa [namesL] using hi))
theorem inv_sign {i : Nat} (hi : i < 6) (j : Nat) (hj : j < 5) (o : Nat) (ho : o = i * 5 + j) : ∀ W, Inv W → ∃ v, W.cell? ⟨1, o, none⟩ = some v ∧ ∀ g, RelV g (.str (signAt (i * 5 + j))) v := by
  intro W h
  subst ho
  exact inv_text h k1_is (by decide) (map_str (by simp [signsL]; omega))
structure Loc where
  name : List UInt8
  dec : List UInt8
  grp : List UInt8
  lst : List UInt8
  minus : List UInt8
  pct : List UInt8
  cur : List UInt8
  first : Bool
  space : Bool
  sizes : List Int
def Loc.cs (l : Loc) : List AV := [.str l.name, .str l.dec, .str l.grp, .str l.lst, .str l.minus, .str l.pct, .str l.cur, .bool l.first, .bool l.space, .slice 1 (l.sizes.map (.int .i64)) .full]
def Loc.none : Loc := ⟨[], [], [], [], [], [], [], false, false, []⟩
/-- The locale of number i, under a name. -/
def locOf (i : Nat) (s : List UInt8) : Loc :=
  ⟨s, signAt (i * 5), signAt (i * 5 + 1), signAt (i * 5 + 2), signAt (i * 5 + 3), [37], signAt (i * 5 + 4), decide (s = [99, 104]) || (decide (s = [104, 105]) || decide (s = [101, 110])), !(decide (s = [104, 105]) || decide (s = [101, 110])), if s = [104, 105] then [3, 2] else [3]⟩
def findL (s : List UInt8) : Option Nat := (List.range 6).find? fun i => decide (nameAt i = s)
theorem findL_some {s : List UInt8} {i : Nat} (hi : i < 6) (h : nameAt i = s) (hl : ∀ j, j < i → nameAt j ≠ s) : findL s = some i := by
  unfold findL
  rw [List.find?_eq_some_iff_append]
  refine ⟨by simp [h], List.range i, (List.range' (i + 1) (5 - i)), ?_, fun j hj => by simpa using hl j (by simpa using hj)⟩
  have : i = 0 ∨ i = 1 ∨ i = 2 ∨ i = 3 ∨ i = 4 ∨ i = 5 := by omega
  rcases this with rfl | rfl | rfl | rfl | rfl | rfl <;> rfl
theorem findL_none {s : List UInt8} (hl : ∀ j, j < 6 → nameAt j ≠ s) : findL s = none := by
  unfold findL
  rw [List.find?_eq_none]
  intro j hj
  simpa using hl j (by simpa using hj)
def findLoc (s : List UInt8) : Loc × Int := match findL s with | some i => (locOf i s, 0) | none => (Loc.none, 8)
end Go.Proofs.YtncoklpecffokaaGreatDoor
namespace Go.Proofs.YtncoklpecffokaaGreatDoor
open Go Go.RowKit

theorem zr34 : ∀ g, RelCells g [.str [], .str [], .str [], .str [], .str [], .str [], .str [], .bool false, .bool false, .slice 1 [] .full] (Value.cells (Go.Value.agg #[Go.Value.string { data := #[] }, Go.Value.string { data := #[] }, Go.Value.string { data := #[] }, Go.Value.string { data := #[] }, Go.Value.string { data := #[] }, Go.Value.string { data := #[] }, Go.Value.string { data := #[] }, Go.Value.bool false, Go.Value.bool false, Go.Value.slice none 0 0])) := fun g => RelL.cells (.cons ((.str [] (Nat.zero_le _))) (.cons ((.str [] (Nat.zero_le _))) (.cons ((.str [] (Nat.zero_le _))) (.cons ((.str [] (Nat.zero_le _))) (.cons ((.str [] (Nat.zero_le _))) (.cons ((.str [] (Nat.zero_le _))) (.cons ((.str [] (Nat.zero_le _))) (.cons (.bool _) (.cons (.bool _) (.cons (.nilSlice _ _) .nil))))))))))
theorem pl34 (fs : Array Field) (hfs : Tryz.prog.underlying 34 = some (.struct fs)) : ∀ (i : Nat) f p, fs[i]? = some f → [(0, 1), (1, 1), (2, 1), (3, 1), (4, 1), (5, 1), (6, 1), (7, 1), (8, 1), (9, 1)][i]? = some p → ∀ w, (sizeOf f.type).run Tryz.prog w = .ok p.2 w := by
  have e := (Option.some.inj (hfs.symm.trans Tryz.underlying34))
  cases e
  intro i f p hf hp w
  match i with
  | 0 => cases hf; cases hp; exact Tryz.sizeOf9 w
  | 1 => cases hf; cases hp; exact Tryz.sizeOf9 w
  | 2 => cases hf; cases hp; exact Tryz.sizeOf9 w
  | 3 => cases hf; cases hp; exact Tryz.sizeOf9 w
  | 4 => cases hf; cases hp; exact Tryz.sizeOf9 w
  | 5 => cases hf; cases hp; exact Tryz.sizeOf9 w
  | 6 => cases hf; cases hp; exact Tryz.sizeOf9 w
  | 7 => cases hf; cases hp; exact Tryz.sizeOf4 w
  | 8 => cases hf; cases hp; exact Tryz.sizeOf4 w
  | 9 => cases hf; cases hp; exact Tryz.sizeOf32 w
  | i + 10 => simp at hp
theorem zr53 : ∀ g, RelCells g [.str [], .str [], .str [], .str [], .str [], .str [], .str [], .bool false, .bool false, .slice 1 [] .full, .ptr none] (Value.cells (Go.Value.agg #[Go.Value.string { data := #[] }, Go.Value.string { data := #[] }, Go.Value.string { data := #[] }, Go.Value.string { data := #[] }, Go.Value.string { data := #[] }, Go.Value.string { data := #[] }, Go.Value.string { data := #[] }, Go.Value.bool false, Go.Value.bool false, Go.Value.slice none 0 0, Go.Value.pointer none])) := fun g => RelL.cells (.cons ((.str [] (Nat.zero_le _))) (.cons ((.str [] (Nat.zero_le _))) (.cons ((.str [] (Nat.zero_le _))) (.cons ((.str [] (Nat.zero_le _))) (.cons ((.str [] (Nat.zero_le _))) (.cons ((.str [] (Nat.zero_le _))) (.cons ((.str [] (Nat.zero_le _))) (.cons (.bool _) (.cons (.bool _) (.cons (.nilSlice _ _) (.cons (.ptr _) .nil)))))))))))
theorem pl53 (fs : Array Field) (hfs : Tryz.prog.underlying 53 = some (.struct fs)) : ∀ (i : Nat) f p, fs[i]? = some f → [(0, 10), (10, 1)][i]? = some p → ∀ w, (sizeOf f.type).run Tryz.prog w = .ok p.2 w := by
  have e := (Option.some.inj (hfs.symm.trans Tryz.underlying53))
  cases e
  intro i f p hf hp w
  match i with
  | 0 => cases hf; cases hp; exact Tryz.sizeOf34 w
  | 1 => cases hf; cases hp; exact Tryz.sizeOf50 w
  | i + 2 => simp at hp
theorem zr73 : ∀ g, RelCells g [.str [], .str [], .str [], .str [], .str [], .str [], .str [], .bool false, .bool false, .slice 1 [] .full, .ptr none] (Value.cells (Go.Value.agg #[Go.Value.string { data := #[] }, Go.Value.string { data := #[] }, Go.Value.string { data := #[] }, Go.Value.string { data := #[] }, Go.Value.string { data := #[] }, Go.Value.string { data := #[] }, Go.Value.string { data := #[] }, Go.Value.bool false, Go.Value.bool false, Go.Value.slice none 0 0, Go.Value.pointer none])) := fun g => RelL.cells (.cons ((.str [] (Nat.zero_le _))) (.cons ((.str [] (Nat.zero_le _))) (.cons ((.str [] (Nat.zero_le _))) (.cons ((.str [] (Nat.zero_le _))) (.cons ((.str [] (Nat.zero_le _))) (.cons ((.str [] (Nat.zero_le _))) (.cons ((.str [] (Nat.zero_le _))) (.cons (.bool _) (.cons (.bool _) (.cons (.nilSlice _ _) (.cons (.ptr _) .nil)))))))))))
theorem pl73 (fs : Array Field) (hfs : Tryz.prog.underlying 73 = some (.struct fs)) : ∀ (i : Nat) f p, fs[i]? = some f → [(0, 10), (10, 1)][i]? = some p → ∀ w, (sizeOf f.type).run Tryz.prog w = .ok p.2 w := by
  have e := (Option.some.inj (hfs.symm.trans Tryz.underlying73))
  cases e
  intro i f p hf hp w
  match i with
  | 0 => cases hf; cases hp; exact Tryz.sizeOf34 w
  | 1 => cases hf; cases hp; exact Tryz.sizeOf70 w
  | i + 2 => simp at hp

theorem zr114 : ∀ g, RelCells g (Tryz.zeroCells114.toList.map AV.raw) (Value.cells (.agg Tryz.zeroCells114)) := fun g => raw_cells g _
theorem pl114 (fs : Array Field) (hfs : Tryz.prog.underlying 114 = some (.struct fs)) : ∀ (i : Nat) f p, fs[i]? = some f → [(0, 5607)][i]? = some p → ∀ w, (sizeOf f.type).run Tryz.prog w = .ok p.2 w := by
  have e := (Option.some.inj (hfs.symm.trans Tryz.underlying114))
  cases e
  intro i f p hf hp w
  match i with
  | 0 => cases hf; cases hp; exact Tryz.sizeOf112 w
  | i + 1 => simp at hp

set_option maxRecDepth 100000 in
theorem is_calls (b : Bool) (H : Heap) : ACall Tryz.prog 20 [.bool b] H (fun y H' => y = (BoolV b).av ∧ H' = H) := by
  refine ACall.of_body Tryz.func20 rfl Tryz.ntmps20 Tryz.results20 rfl ?_
  refine AWP.seq ?_
  -- region 0
  refine AWP.region ?_
  refine AList.s rfl (step_alloc Tryz.zeroValue24 (zr24)) ?_
  rintro _ _ ⟨b2, hb2, rfl, hH⟩
  obtain rfl := hH.symm
  refine AList.nil ?_
  refine Next.go ?_
  refine AWP.seq ?_
  -- region 1
  refine AWP.region ?_
  refine AList.p rfl (pure_move (.tmp _ _ rfl)) ?_
  refine AList.p rfl (pure_build [(0, 1), (1, 1), (2, 1), (3, 1), (4, 1)] Tryz.underlying24 Tryz.zeroValue24 (zr24) rfl (pl24 _ Tryz.underlying24) (.cons ev_int (.inl rfl) (.cons (.tmp _ _ rfl) (.inl rfl) .nil)) rfl) ?_
  refine AList.s0 (step_store Tryz.sizeOf24 (.tmp _ _ rfl) (.tmp _ _ rfl) rfl rfl (.inr ⟨_, rfl⟩) (by first | assumption | exact (by assumption : Heap.le _ _).objs _ _ (by assumption) | exact Heap.objs_set_same _ _ _ | exact (Heap.objs_set_ne _ _ (by assumption)).trans (Heap.objs_set_same _ _ _) | exact (Heap.objs_set_ne _ _ (by assumption)).trans ((Heap.objs_set_ne _ _ (by assumption)).trans (Heap.objs_set_same _ _ _)) | exact (Heap.objs_set_ne _ _ (by assumption)).trans (by assumption)) (Nat.le_of_ble_eq_true rfl)) ?_
  rintro _ _ ⟨rfl, hH⟩
  obtain rfl := hH.symm
  try first | rw [Heap.set_set] | rw [Heap.set_under (by assumption)]
  refine AList.nil ?_
  refine Next.go ?_
  refine AWP.frz (t := 2) rfl (by first | exact hb2 | exact Heap.fresh_set hb2 _) ?_
  refine AWP.ret ?_
  -- ret 0
  refine Ret.go (.cons (.cellI _ _ _ _ rfl Tryz.isAgg24 Tryz.sizeOf24 rfl) .nil) _ (Heap.le.refl _) ?_
  exact ⟨rfl, rfl⟩

noncomputable def readCells : List AV := (AV.agg (Tryz.zeroCells114.toList.map AV.raw)).cells
theorem readNewF (H : Heap) : ACall Tryz.prog 45 [] H (fun y H' => y = .iptr readCells ∧ H' = H) := by
  refine ACall.of_body Tryz.func45 rfl Tryz.ntmps45 Tryz.results45 rfl ?_
  refine AWP.seq ?_
  -- region 0
  refine AWP.region ?_
  refine AList.p rfl (pure_assign ev_nilptr) ?_
  refine AList.nil ?_
  refine Next.go ?_
  refine AWP.seq ?_
  -- region 1
  refine AWP.region ?_
  refine AList.p rfl (pure_build [(0, 5607)] Tryz.underlying114 Tryz.zeroValue114 (zr114) rfl (pl114 _ Tryz.underlying114) .nil rfl) ?_
  refine AList.s rfl (step_boxI (.tmp _ _ rfl) (.inr ⟨_, rfl⟩)) ?_
  rintro _ _ ⟨rfl, hH⟩
  obtain rfl := hH.symm
  refine AList.p rfl (pure_assign (.tmp _ _ rfl)) ?_
  refine AList.nil ?_
  refine Next.go ?_
  refine AWP.ret ?_
  -- ret 0
  refine Ret.go (.cons (.tmp _ _ rfl) .nil) _ (Heap.le.refl _) ?_
  exact ⟨rfl, rfl⟩

set_option maxRecDepth 100000 in
theorem entryNew_calls (l : Loc) (H : Heap) : ACall Tryz.prog 29 [.agg l.cs] H (fun y H' => y = .iptr (l.cs ++ [.iptr readCells]) ∧ H' = H) := by
  refine ACall.of_body Tryz.func29 rfl Tryz.ntmps29 Tryz.results29 rfl ?_
  refine AWP.seq ?_
  -- region 0
  refine AWP.region ?_
  refine AList.s rfl (step_boxI (.tmp _ _ rfl) (.inr ⟨_, rfl⟩)) ?_
  rintro _ _ ⟨rfl, hH⟩
  obtain rfl := hH.symm
  refine AList.p rfl (pure_assign ev_nilptr) ?_
  refine AList.nil ?_
  refine Next.go ?_
  refine AWP.seq ?_
  -- region 1
  refine AWP.draw [(0, true), (1, true), (2, true), (3, true), (4, true)] rfl (by decide +kernel) ?_
  first | (refine APlan.p rfl rfl (pure_loadN Tryz.isAgg34 Tryz.sizeOf34 (.tmp _ _ rfl) (Nat.le_of_ble_eq_true rfl)) ?_) | (refine APlan.f rfl rfl (fun _ => step_loadN Tryz.isAgg34 Tryz.sizeOf34 (.tmp _ _ rfl) (by first | assumption | exact (by assumption : Heap.le _ _).objs _ _ (by assumption) | exact Heap.objs_set_same _ _ _ | exact (Heap.objs_set_ne _ _ (by assumption)).trans (Heap.objs_set_same _ _ _) | exact (Heap.objs_set_ne _ _ (by assumption)).trans ((Heap.objs_set_ne _ _ (by assumption)).trans (Heap.objs_set_same _ _ _)) | exact (Heap.objs_set_ne _ _ (by assumption)).trans (by assumption)) (Nat.le_of_ble_eq_true rfl)) ?_)
  refine APlan.f rfl rfl (fun _ => step_call0 Tryz.call45 .nil (readNewF _)) ?_
  refine APlan.p rfl rfl (pure_build [(0, 10), (10, 1)] Tryz.underlying73 Tryz.zeroValue73 (zr73) rfl (pl73 _ Tryz.underlying73) (.cons (.tmp _ _ rfl) (.inr ⟨_, rfl⟩) (.cons (.tmp _ _ rfl) (.inl rfl) .nil)) rfl) ?_
  refine APlan.f rfl rfl (fun _ => step_boxI (.tmp _ _ rfl) (.inr ⟨_, rfl⟩)) ?_
  refine APlan.p rfl rfl (pure_assign (.tmp _ _ rfl)) ?_
  refine APlan.nil ?_
  refine Next.go ?_
  refine AWP.ret ?_
  -- ret 0
  refine Ret.go (.cons (.tmp _ _ rfl) .nil) _ (Heap.le.refl _) ?_
  exact ⟨rfl, rfl⟩

set_option maxRecDepth 100000 in
theorem valueNew_calls (l : Loc) (H : Heap) : ACall Tryz.prog 17 [.agg l.cs] H (fun y H' => y = .iptr (l.cs ++ [.iptr (l.cs ++ [.iptr readCells])]) ∧ H' = H) := by
  refine ACall.of_body Tryz.func17 rfl Tryz.ntmps17 Tryz.results17 rfl ?_
  refine AWP.seq ?_
  -- region 0
  refine AWP.region ?_
  refine AList.s rfl (step_boxI (.tmp _ _ rfl) (.inr ⟨_, rfl⟩)) ?_
  rintro _ _ ⟨rfl, hH⟩
  obtain rfl := hH.symm
  refine AList.p rfl (pure_assign ev_nilptr) ?_
  refine AList.nil ?_
  refine Next.go ?_
  refine AWP.seq ?_
  -- region 1
  refine AWP.draw [(0, true), (1, true), (2, true), (3, true), (4, true), (5, true)] rfl (by decide +kernel) ?_
  first | (refine APlan.p rfl rfl (pure_loadN Tryz.isAgg34 Tryz.sizeOf34 (.tmp _ _ rfl) (Nat.le_of_ble_eq_true rfl)) ?_) | (refine APlan.f rfl rfl (fun _ => step_loadN Tryz.isAgg34 Tryz.sizeOf34 (.tmp _ _ rfl) (by first | assumption | exact (by assumption : Heap.le _ _).objs _ _ (by assumption) | exact Heap.objs_set_same _ _ _ | exact (Heap.objs_set_ne _ _ (by assumption)).trans (Heap.objs_set_same _ _ _) | exact (Heap.objs_set_ne _ _ (by assumption)).trans ((Heap.objs_set_ne _ _ (by assumption)).trans (Heap.objs_set_same _ _ _)) | exact (Heap.objs_set_ne _ _ (by assumption)).trans (by assumption)) (Nat.le_of_ble_eq_true rfl)) ?_)
  first | (refine APlan.p rfl rfl (pure_loadN Tryz.isAgg34 Tryz.sizeOf34 (.tmp _ _ rfl) (Nat.le_of_ble_eq_true rfl)) ?_) | (refine APlan.f rfl rfl (fun _ => step_loadN Tryz.isAgg34 Tryz.sizeOf34 (.tmp _ _ rfl) (by first | assumption | exact (by assumption : Heap.le _ _).objs _ _ (by assumption) | exact Heap.objs_set_same _ _ _ | exact (Heap.objs_set_ne _ _ (by assumption)).trans (Heap.objs_set_same _ _ _) | exact (Heap.objs_set_ne _ _ (by assumption)).trans ((Heap.objs_set_ne _ _ (by assumption)).trans (Heap.objs_set_same _ _ _)) | exact (Heap.objs_set_ne _ _ (by assumption)).trans (by assumption)) (Nat.le_of_ble_eq_true rfl)) ?_)
  refine APlan.f rfl rfl (fun _ => step_call0 Tryz.call29 (.cons (.tmp _ _ rfl) .nil) (entryNew_calls l _)) ?_
  refine APlan.p rfl rfl (pure_build [(0, 10), (10, 1)] Tryz.underlying53 Tryz.zeroValue53 (zr53) rfl (pl53 _ Tryz.underlying53) (.cons (.tmp _ _ rfl) (.inr ⟨_, rfl⟩) (.cons (.tmp _ _ rfl) (.inl rfl) .nil)) rfl) ?_
  refine APlan.f rfl rfl (fun _ => step_boxI (.tmp _ _ rfl) (.inr ⟨_, rfl⟩)) ?_
  refine APlan.p rfl rfl (pure_assign (.tmp _ _ rfl)) ?_
  refine APlan.nil ?_
  refine Next.go ?_
  refine AWP.ret ?_
  -- ret 0
  refine Ret.go (.cons (.tmp _ _ rfl) .nil) _ (Heap.le.refl _) ?_
  exact ⟨rfl, rfl⟩

def find_J (s : List UInt8) (b2 : Nat) (H : Heap) : Nat → Env → Heap → Prop := fun k env H1 => ∃ i : Nat, i ≤ 6 ∧ (∀ j, j < i → nameAt j ≠ s) ∧ env = [(0, .str s), (2, .ptr (some ⟨b2, 0, none⟩)), (6, .int .i64 i)] ∧ H1 = H.set b2 (.box 34 [.str [], .str [], .str [], .str [], .str [], .str [], .str [], .bool false, .bool false, .slice 1 [] .full]) ∧ k = 6 - i

set_option maxRecDepth 100000 in
theorem Find_calls (s : List UInt8) (H : Heap) : ACall Tryz.prog 16 [.str s] H (fun y H' => y = .tuple [.agg (findLoc s).1.cs, .int .i64 (findLoc s).2] ∧ H' = H) := by
  refine ACall.of_body Tryz.func16 rfl Tryz.ntmps16 Tryz.results16 rfl ?_
  refine AWP.seq ?_
  -- region 0
  refine AWP.region ?_
  refine AList.s rfl (step_alloc Tryz.zeroValue34 (zr34)) ?_
  rintro _ _ ⟨b2, hb2, rfl, hH⟩
  obtain rfl := hH.symm
  refine AList.p rfl (pure_assign ev_int) ?_
  refine AList.nil ?_
  refine Next.go ?_
  refine AWP.seq ?_
  refine AWP.seq ?_
  -- region 1
  refine AWP.region ?_
  refine AList.p rfl (pure_move ev_int) ?_
  refine AList.nil ?_
  refine Next.go ?_
  refine AWP.block ?_
  -- L0
  refine AWP.loopW (find_J s b2 H) (6) ⟨0, Nat.zero_le _, fun j h => absurd h (Nat.not_lt_zero _), rfl, rfl, rfl⟩ (sub_c rfl (sub_c rfl (sub_c rfl sub_n))) (Heap.le.refl _) ?_
  rintro _ _ _ ⟨i, hi, hl, rfl, rfl, rfl⟩
  refine AWP.seq ?_
  -- region 2
  refine AWP.region ?_
  refine AList.p rfl (pure_lss (.tmp _ _ rfl) ev_int) ?_
  refine AList.nil ?_
  refine Next.go ?_
  refine AWP.seq ?_
  -- c0
  refine AWP.cond (.tmp _ _ rfl) (fun hc7 => ?_) (fun hc7 => ?_)
  · try simp only [decide_eq_true_eq] at hc7
    have hi6 : i < 6 := by omega
    refine AWP.skip ?_
    refine Next.go ?_
    refine AWP.seq ?_
    refine AWP.block ?_
    refine AWP.seq ?_
    -- region 3
    refine AWP.region ?_
    refine AList.p rfl (pure_move (.tmp _ _ rfl)) ?_
    refine AList.p rfl (pure_assign (.tmp _ _ rfl)) ?_
    refine AList.nil ?_
    refine Next.go ?_
    refine AWP.seq ?_
    refine AWP.seq ?_
    -- region 4
    refine AWP.region ?_
    refine AList.p rfl (pure_move (.tmp _ _ rfl)) ?_
    first | (refine AList.p rfl (pure_indexA Tryz.underlying47 Tryz.sizeOf9 (.global _) (.tmp _ _ rfl) (by omega) (by omega)) ?_) | (refine AList.p rfl (pure_indexB Tryz.underlying47 Tryz.sizeOf9 (.global _) (.tmp _ _ rfl) (by omega) (by omega)) ?_)
    refine AList.s rfl (step_loadK Tryz.isAgg9 (.tmp _ _ rfl) (inv_name hi6)) ?_
    rintro _ _ ⟨rfl, hH⟩
    obtain rfl := hH.symm
    refine AList.p rfl (pure_move (.tmp _ _ rfl)) ?_
    refine AList.p rfl (pure_neqStr (.tmp _ _ rfl) (.tmp _ _ rfl)) ?_
    refine AList.nil ?_
    refine Next.go ?_
    -- c1
    refine AWP.cond (.tmp _ _ rfl) (fun hc13 => ?_) (fun hc13 => ?_)
    · try simp only [decide_eq_false_iff_not, Bool.not_eq_true'] at hc13
      refine AWP.exit ?_
      refine Next.ex ?_
      refine Block.hit ?_
      refine Next.go ?_
      -- region 14
      refine AWP.region ?_
      refine AList.p rfl (pure_add (.tmp _ _ rfl) ev_int (by omega)) ?_
      refine AList.p rfl (pure_move (.tmp _ _ rfl)) ?_
      refine AList.nil ?_
      refine Next.go ?_
      refine Round.mk (J := find_J s b2 H) ⟨i + 1, by omega, fun j hj => by rcases Nat.lt_or_ge j i with h | h; exact hl j h; rw [show j = i by omega]; exact hc13, rfl, rfl, rfl⟩ (sub_c rfl (sub_c rfl (sub_c rfl sub_n))) (Heap.le.refl _) (by omega)
    · try simp only [decide_eq_true_eq, Bool.not_eq_false'] at hc13
      refine AWP.skip ?_
      refine Next.go ?_
      refine AWP.seq ?_
      -- region 5
      refine AWP.draw [(0, true), (1, true), (2, true), (3, true), (4, true), (5, true), (6, true), (7, true), (8, true), (9, true), (10, true), (11, true), (12, true), (13, true), (14, true), (15, true), (16, true), (17, true), (18, true), (19, true), (20, true), (21, true), (22, true), (23, false), (24, false)] rfl (by decide +kernel) ?_
      refine APlan.p rfl rfl (pure_move (.tmp _ _ rfl)) ?_
      refine APlan.p rfl rfl (pure_move (.tmp _ _ rfl)) ?_
      first | (refine APlan.p rfl rfl (pure_indexA Tryz.underlying49 Tryz.sizeOf48 (.global _) (.tmp _ _ rfl) (by omega) (by omega)) ?_) | (refine APlan.p rfl rfl (pure_indexB Tryz.underlying49 Tryz.sizeOf48 (.global _) (.tmp _ _ rfl) (by omega) (by omega)) ?_)
      first | (refine APlan.p rfl rfl (pure_indexA Tryz.underlying48 Tryz.sizeOf9 (.tmp _ _ rfl) ev_int (by omega) (by omega)) ?_) | (refine APlan.p rfl rfl (pure_indexB Tryz.underlying48 Tryz.sizeOf9 (.tmp _ _ rfl) ev_int (by omega) (by omega)) ?_)
      refine APlan.f rfl rfl (fun _ => step_loadK Tryz.isAgg9 (.tmp _ _ rfl) (inv_sign hi6 0 (by decide) _ (by omega))) ?_
      refine APlan.p rfl rfl (pure_move (.tmp _ _ rfl)) ?_
      first | (refine APlan.p rfl rfl (pure_indexA Tryz.underlying49 Tryz.sizeOf48 (.global _) (.tmp _ _ rfl) (by omega) (by omega)) ?_) | (refine APlan.p rfl rfl (pure_indexB Tryz.underlying49 Tryz.sizeOf48 (.global _) (.tmp _ _ rfl) (by omega) (by omega)) ?_)
      first | (refine APlan.p rfl rfl (pure_indexA Tryz.underlying48 Tryz.sizeOf9 (.tmp _ _ rfl) ev_int (by omega) (by omega)) ?_) | (refine APlan.p rfl rfl (pure_indexB Tryz.underlying48 Tryz.sizeOf9 (.tmp _ _ rfl) ev_int (by omega) (by omega)) ?_)
      refine APlan.f rfl rfl (fun _ => step_loadK Tryz.isAgg9 (.tmp _ _ rfl) (inv_sign hi6 1 (by decide) _ (by omega))) ?_
      refine APlan.p rfl rfl (pure_move (.tmp _ _ rfl)) ?_
      first | (refine APlan.p rfl rfl (pure_indexA Tryz.underlying49 Tryz.sizeOf48 (.global _) (.tmp _ _ rfl) (by omega) (by omega)) ?_) | (refine APlan.p rfl rfl (pure_indexB Tryz.underlying49 Tryz.sizeOf48 (.global _) (.tmp _ _ rfl) (by omega) (by omega)) ?_)
      first | (refine APlan.p rfl rfl (pure_indexA Tryz.underlying48 Tryz.sizeOf9 (.tmp _ _ rfl) ev_int (by omega) (by omega)) ?_) | (refine APlan.p rfl rfl (pure_indexB Tryz.underlying48 Tryz.sizeOf9 (.tmp _ _ rfl) ev_int (by omega) (by omega)) ?_)
      refine APlan.f rfl rfl (fun _ => step_loadK Tryz.isAgg9 (.tmp _ _ rfl) (inv_sign hi6 2 (by decide) _ (by omega))) ?_
      refine APlan.p rfl rfl (pure_move (.tmp _ _ rfl)) ?_
      first | (refine APlan.p rfl rfl (pure_indexA Tryz.underlying49 Tryz.sizeOf48 (.global _) (.tmp _ _ rfl) (by omega) (by omega)) ?_) | (refine APlan.p rfl rfl (pure_indexB Tryz.underlying49 Tryz.sizeOf48 (.global _) (.tmp _ _ rfl) (by omega) (by omega)) ?_)
      first | (refine APlan.p rfl rfl (pure_indexA Tryz.underlying48 Tryz.sizeOf9 (.tmp _ _ rfl) ev_int (by omega) (by omega)) ?_) | (refine APlan.p rfl rfl (pure_indexB Tryz.underlying48 Tryz.sizeOf9 (.tmp _ _ rfl) ev_int (by omega) (by omega)) ?_)
      refine APlan.f rfl rfl (fun _ => step_loadK Tryz.isAgg9 (.tmp _ _ rfl) (inv_sign hi6 3 (by decide) _ (by omega))) ?_
      refine APlan.p rfl rfl (pure_move (.tmp _ _ rfl)) ?_
      first | (refine APlan.p rfl rfl (pure_indexA Tryz.underlying49 Tryz.sizeOf48 (.global _) (.tmp _ _ rfl) (by omega) (by omega)) ?_) | (refine APlan.p rfl rfl (pure_indexB Tryz.underlying49 Tryz.sizeOf48 (.global _) (.tmp _ _ rfl) (by omega) (by omega)) ?_)
      first | (refine APlan.p rfl rfl (pure_indexA Tryz.underlying48 Tryz.sizeOf9 (.tmp _ _ rfl) ev_int (by omega) (by omega)) ?_) | (refine APlan.p rfl rfl (pure_indexB Tryz.underlying48 Tryz.sizeOf9 (.tmp _ _ rfl) ev_int (by omega) (by omega)) ?_)
      refine APlan.f rfl rfl (fun _ => step_loadK Tryz.isAgg9 (.tmp _ _ rfl) (inv_sign hi6 4 (by decide) _ (by omega))) ?_
      refine APlan.f rfl rfl (fun _ => step_bs1 Tryz.underlying32 Tryz.sizeOf3 Tryz.zeroValue3 rfl ev_int (.inl rfl) ⟨rfl, rfl⟩) ?_
      refine APlan.p rfl rfl (pure_buildS [(0, 1), (1, 1), (2, 1), (3, 1), (4, 1), (5, 1), (6, 1), (7, 1), (8, 1), (9, 1)] Tryz.underlying34 Tryz.zeroValue34 (zr34) rfl (pl34 _ Tryz.underlying34) (.cons (.tmp _ _ rfl) (.inl rfl) (.cons (.tmp _ _ rfl) (.inl rfl) (.cons (.tmp _ _ rfl) (.inl rfl) (.cons (.tmp _ _ rfl) (.inl rfl) (.cons (.tmp _ _ rfl) (.inl rfl) (.cons (ev_str rfl) (.inl rfl) (.cons (.tmp _ _ rfl) (.inl rfl) (.cons ev_bool (.inl rfl) (.cons ev_bool (.inl rfl) (.cons (.tmp _ _ rfl) (.inl rfl) .nil)))))))))) rfl rfl) ?_
      refine APlan.s rfl rfl (step_alloc Tryz.zeroValue34 (zr34)) ?_
      rintro _ _ ⟨b5, hb5, rfl, hH⟩
      obtain rfl := hH.symm
      have hn2_5 := Heap.ne_of (by first | assumption | exact (by assumption : Heap.le _ _).objs _ _ (by assumption) | exact Heap.objs_set_same _ _ _ | exact (Heap.objs_set_ne _ _ (by assumption)).trans (Heap.objs_set_same _ _ _) | exact (Heap.objs_set_ne _ _ (by assumption)).trans ((Heap.objs_set_ne _ _ (by assumption)).trans (Heap.objs_set_same _ _ _)) | exact (Heap.objs_set_ne _ _ (by assumption)).trans (by assumption)) hb5
      refine APlan.s0 rfl (step_store Tryz.sizeOf34 (.tmp _ _ rfl) (.tmp _ _ rfl) rfl rfl (.inr ⟨_, rfl⟩) (by first | assumption | exact (by assumption : Heap.le _ _).objs _ _ (by assumption) | exact Heap.objs_set_same _ _ _ | exact (Heap.objs_set_ne _ _ (by assumption)).trans (Heap.objs_set_same _ _ _) | exact (Heap.objs_set_ne _ _ (by assumption)).trans ((Heap.objs_set_ne _ _ (by assumption)).trans (Heap.objs_set_same _ _ _)) | exact (Heap.objs_set_ne _ _ (by assumption)).trans (by assumption)) (Nat.le_of_ble_eq_true rfl)) ?_
      rintro _ _ ⟨rfl, hH⟩
      obtain rfl := hH.symm
      try first | rw [Heap.set_set] | rw [Heap.set_under (by assumption)]
      refine APlan.nil ?_
      refine Next.go ?_
      refine AWP.seq ?_
      refine AWP.seq ?_
      -- region 6
      refine AWP.region ?_
      refine AList.p rfl (pure_move (.tmp _ _ rfl)) ?_
      refine AList.nil ?_
      refine Next.go ?_
      refine AWP.block ?_
      refine AWP.seq ?_
      refine AWP.block ?_
      refine AWP.seq ?_
      refine AWP.block ?_
      refine AWP.seq ?_
      refine AWP.block ?_
      refine AWP.seq ?_
      refine AWP.seq ?_
      refine AWP.seq ?_
      -- region 7
      refine AWP.region ?_
      refine AList.p rfl (pure_eqlStr (.tmp _ _ rfl) (ev_str rfl)) ?_
      refine AList.p rfl (pure_assign (.tmp _ _ rfl)) ?_
      refine AList.nil ?_
      refine Next.go ?_
      -- c2
      refine AWP.cond (.tmp _ _ rfl) (fun hc38 => ?_) (fun hc38 => ?_)
      · try simp only [decide_eq_true_eq] at hc38
        refine AWP.exit ?_
        refine Next.ex ?_
        refine Next.ex ?_
        refine Block.hit ?_
        refine Next.go ?_
        refine AWP.seq ?_
        -- region 10
        refine AWP.region ?_
        first | (refine AList.p rfl (pure_fieldI Tryz.underlying34 rfl Tryz.sizeOf4 (.tmp _ _ rfl)) ?_) | (refine AList.p rfl (pure_field Tryz.underlying34 rfl Tryz.sizeOf4 (.tmp _ _ rfl)) ?_)
        refine AList.s0 (step_store Tryz.sizeOf4 (.tmp _ _ rfl) ev_bool rfl rfl (.inl rfl) (by first | assumption | exact (by assumption : Heap.le _ _).objs _ _ (by assumption) | exact Heap.objs_set_same _ _ _ | exact (Heap.objs_set_ne _ _ (by assumption)).trans (Heap.objs_set_same _ _ _) | exact (Heap.objs_set_ne _ _ (by assumption)).trans ((Heap.objs_set_ne _ _ (by assumption)).trans (Heap.objs_set_same _ _ _)) | exact (Heap.objs_set_ne _ _ (by assumption)).trans (by assumption)) (Nat.le_of_ble_eq_true rfl)) ?_
        rintro _ _ ⟨rfl, hH⟩
        obtain rfl := hH.symm
        try first | rw [Heap.set_set] | rw [Heap.set_under (by assumption)]
        refine AList.nil ?_
        refine Next.go ?_
        refine AWP.exit ?_
        refine Block.miss rfl ?_
        refine Next.ex ?_
        refine Block.miss rfl ?_
        refine Next.ex ?_
        refine Block.hit ?_
        refine Next.go ?_
        refine AWP.seq ?_
        -- region 13
        refine AWP.region ?_
        first | (refine AList.p rfl (pure_loadN Tryz.isAgg34 Tryz.sizeOf34 (.tmp _ _ rfl) (Nat.le_of_ble_eq_true rfl)) ?_) | (refine AList.s rfl (step_loadN Tryz.isAgg34 Tryz.sizeOf34 (.tmp _ _ rfl) (by first | assumption | exact (by assumption : Heap.le _ _).objs _ _ (by assumption) | exact Heap.objs_set_same _ _ _ | exact (Heap.objs_set_ne _ _ (by assumption)).trans (Heap.objs_set_same _ _ _) | exact (Heap.objs_set_ne _ _ (by assumption)).trans ((Heap.objs_set_ne _ _ (by assumption)).trans (Heap.objs_set_same _ _ _)) | exact (Heap.objs_set_ne _ _ (by assumption)).trans (by assumption)) (Nat.le_of_ble_eq_true rfl)) ?_; rintro _ _ ⟨rfl, hH⟩; obtain rfl := hH.symm)
        refine AList.s0 (step_store Tryz.sizeOf34 (.tmp _ _ rfl) (.tmp _ _ rfl) rfl rfl (.inr ⟨_, rfl⟩) (by first | assumption | exact (by assumption : Heap.le _ _).objs _ _ (by assumption) | exact Heap.objs_set_same _ _ _ | exact (Heap.objs_set_ne _ _ (by assumption)).trans (Heap.objs_set_same _ _ _) | exact (Heap.objs_set_ne _ _ (by assumption)).trans ((Heap.objs_set_ne _ _ (by assumption)).trans (Heap.objs_set_same _ _ _)) | exact (Heap.objs_set_ne _ _ (by assumption)).trans (by assumption)) (Nat.le_of_ble_eq_true rfl)) ?_
        rintro _ _ ⟨rfl, hH⟩
        obtain rfl := hH.symm
        try first | rw [Heap.set_set] | rw [Heap.set_under (by assumption)]
        refine AList.p rfl (pure_assign ev_int) ?_
        refine AList.nil ?_
        refine Next.go ?_
        refine AWP.dropb (by first | exact hb5 | exact Heap.fresh_set hb5 _) ?_
        refine AWP.frz (t := 2) rfl (by first | exact hb2 | exact Heap.fresh_set hb2 _) ?_
        refine AWP.ret ?_
        refine Block.rt ?_
        refine Next.rt ?_
        refine Next.rt ?_
        refine Block.rt ?_
        refine Next.rt ?_
        -- ret 0
        refine Ret.go (.cons (.cellI _ _ _ _ rfl Tryz.isAgg34 Tryz.sizeOf34 rfl) (.cons (.tmp _ _ rfl) .nil)) _ (Heap.le.refl _) ?_
        refine ⟨?_, rfl⟩
        have hf : findL s = some i := findL_some hi6 hc13 hl
        simp only [packed, findLoc, hf]
        simp_all [locOf, Loc.cs]
        all_goals rfl
      · try simp only [decide_eq_false_iff_not] at hc38
        refine AWP.skip ?_
        refine Next.go ?_
        refine AWP.seq ?_
        refine AWP.seq ?_
        -- region 8
        refine AWP.region ?_
        refine AList.p rfl (pure_eqlStr (.tmp _ _ rfl) (ev_str rfl)) ?_
        refine AList.p rfl (pure_assign (.tmp _ _ rfl)) ?_
        refine AList.nil ?_
        refine Next.go ?_
        -- c3
        refine AWP.cond (.tmp _ _ rfl) (fun hc40 => ?_) (fun hc40 => ?_)
        · try simp only [decide_eq_true_eq] at hc40
          refine AWP.exit ?_
          refine Next.ex ?_
          refine Next.ex ?_
          refine Block.miss rfl ?_
          refine Next.ex ?_
          refine Block.hit ?_
          refine Next.go ?_
          -- region 11
          refine AWP.region ?_
          refine AList.s rfl (step_bs2 Tryz.underlying32 Tryz.sizeOf3 Tryz.zeroValue3 rfl ev_int (.inl rfl) ⟨rfl, rfl⟩ ev_int (.inl rfl) ⟨rfl, rfl⟩) ?_
          rintro _ _ ⟨rfl, hH⟩
          obtain rfl := hH.symm
          first | (refine AList.p rfl (pure_fieldI Tryz.underlying34 rfl Tryz.sizeOf32 (.tmp _ _ rfl)) ?_) | (refine AList.p rfl (pure_field Tryz.underlying34 rfl Tryz.sizeOf32 (.tmp _ _ rfl)) ?_)
          refine AList.s0 (step_store Tryz.sizeOf32 (.tmp _ _ rfl) (.tmp _ _ rfl) rfl rfl (.inl rfl) (by first | assumption | exact (by assumption : Heap.le _ _).objs _ _ (by assumption) | exact Heap.objs_set_same _ _ _ | exact (Heap.objs_set_ne _ _ (by assumption)).trans (Heap.objs_set_same _ _ _) | exact (Heap.objs_set_ne _ _ (by assumption)).trans ((Heap.objs_set_ne _ _ (by assumption)).trans (Heap.objs_set_same _ _ _)) | exact (Heap.objs_set_ne _ _ (by assumption)).trans (by assumption)) (Nat.le_of_ble_eq_true rfl)) ?_
          rintro _ _ ⟨rfl, hH⟩
          obtain rfl := hH.symm
          try first | rw [Heap.set_set] | rw [Heap.set_under (by assumption)]
          refine AList.nil ?_
          refine Block.go ?_
          refine Next.go ?_
          refine AWP.seq ?_
          -- region 12
          refine AWP.region ?_
          first | (refine AList.p rfl (pure_fieldI Tryz.underlying34 rfl Tryz.sizeOf4 (.tmp _ _ rfl)) ?_) | (refine AList.p rfl (pure_field Tryz.underlying34 rfl Tryz.sizeOf4 (.tmp _ _ rfl)) ?_)
          refine AList.s0 (step_store Tryz.sizeOf4 (.tmp _ _ rfl) ev_bool rfl rfl (.inl rfl) (by first | assumption | exact (by assumption : Heap.le _ _).objs _ _ (by assumption) | exact Heap.objs_set_same _ _ _ | exact (Heap.objs_set_ne _ _ (by assumption)).trans (Heap.objs_set_same _ _ _) | exact (Heap.objs_set_ne _ _ (by assumption)).trans ((Heap.objs_set_ne _ _ (by assumption)).trans (Heap.objs_set_same _ _ _)) | exact (Heap.objs_set_ne _ _ (by assumption)).trans (by assumption)) (Nat.le_of_ble_eq_true rfl)) ?_
          rintro _ _ ⟨rfl, hH⟩
          obtain rfl := hH.symm
          try first | rw [Heap.set_set] | rw [Heap.set_under (by assumption)]
          first | (refine AList.p rfl (pure_fieldI Tryz.underlying34 rfl Tryz.sizeOf4 (.tmp _ _ rfl)) ?_) | (refine AList.p rfl (pure_field Tryz.underlying34 rfl Tryz.sizeOf4 (.tmp _ _ rfl)) ?_)
          refine AList.s0 (step_store Tryz.sizeOf4 (.tmp _ _ rfl) ev_bool rfl rfl (.inl rfl) (by first | assumption | exact (by assumption : Heap.le _ _).objs _ _ (by assumption) | exact Heap.objs_set_same _ _ _ | exact (Heap.objs_set_ne _ _ (by assumption)).trans (Heap.objs_set_same _ _ _) | exact (Heap.objs_set_ne _ _ (by assumption)).trans ((Heap.objs_set_ne _ _ (by assumption)).trans (Heap.objs_set_same _ _ _)) | exact (Heap.objs_set_ne _ _ (by assumption)).trans (by assumption)) (Nat.le_of_ble_eq_true rfl)) ?_
          rintro _ _ ⟨rfl, hH⟩
          obtain rfl := hH.symm
          try first | rw [Heap.set_set] | rw [Heap.set_under (by assumption)]
          refine AList.nil ?_
          refine Next.go ?_
          refine AWP.exit ?_
          refine Block.hit ?_
          refine Next.go ?_
          refine AWP.seq ?_
          -- region 13
          refine AWP.region ?_
          first | (refine AList.p rfl (pure_loadN Tryz.isAgg34 Tryz.sizeOf34 (.tmp _ _ rfl) (Nat.le_of_ble_eq_true rfl)) ?_) | (refine AList.s rfl (step_loadN Tryz.isAgg34 Tryz.sizeOf34 (.tmp _ _ rfl) (by first | assumption | exact (by assumption : Heap.le _ _).objs _ _ (by assumption) | exact Heap.objs_set_same _ _ _ | exact (Heap.objs_set_ne _ _ (by assumption)).trans (Heap.objs_set_same _ _ _) | exact (Heap.objs_set_ne _ _ (by assumption)).trans ((Heap.objs_set_ne _ _ (by assumption)).trans (Heap.objs_set_same _ _ _)) | exact (Heap.objs_set_ne _ _ (by assumption)).trans (by assumption)) (Nat.le_of_ble_eq_true rfl)) ?_; rintro _ _ ⟨rfl, hH⟩; obtain rfl := hH.symm)
          refine AList.s0 (step_store Tryz.sizeOf34 (.tmp _ _ rfl) (.tmp _ _ rfl) rfl rfl (.inr ⟨_, rfl⟩) (by first | assumption | exact (by assumption : Heap.le _ _).objs _ _ (by assumption) | exact Heap.objs_set_same _ _ _ | exact (Heap.objs_set_ne _ _ (by assumption)).trans (Heap.objs_set_same _ _ _) | exact (Heap.objs_set_ne _ _ (by assumption)).trans ((Heap.objs_set_ne _ _ (by assumption)).trans (Heap.objs_set_same _ _ _)) | exact (Heap.objs_set_ne _ _ (by assumption)).trans (by assumption)) (Nat.le_of_ble_eq_true rfl)) ?_
          rintro _ _ ⟨rfl, hH⟩
          obtain rfl := hH.symm
          try first | rw [Heap.set_set] | rw [Heap.set_under (by assumption)]
          refine AList.p rfl (pure_assign ev_int) ?_
          refine AList.nil ?_
          refine Next.go ?_
          refine AWP.dropb (by first | exact hb5 | exact Heap.fresh_set hb5 _) ?_
          refine AWP.frz (t := 2) rfl (by first | exact hb2 | exact Heap.fresh_set hb2 _) ?_
          refine AWP.ret ?_
          refine Block.rt ?_
          refine Next.rt ?_
          refine Next.rt ?_
          refine Block.rt ?_
          refine Next.rt ?_
          -- ret 1
          refine Ret.go (.cons (.cellI _ _ _ _ rfl Tryz.isAgg34 Tryz.sizeOf34 rfl) (.cons (.tmp _ _ rfl) .nil)) _ (Heap.le.refl _) ?_
          refine ⟨?_, rfl⟩
          have hf : findL s = some i := findL_some hi6 hc13 hl
          simp only [packed, findLoc, hf]
          simp_all [locOf, Loc.cs]
          all_goals rfl
        · try simp only [decide_eq_false_iff_not] at hc40
          refine AWP.skip ?_
          refine Next.go ?_
          refine AWP.seq ?_
          -- region 9
          refine AWP.region ?_
          refine AList.p rfl (pure_eqlStr (.tmp _ _ rfl) (ev_str rfl)) ?_
          refine AList.p rfl (pure_assign (.tmp _ _ rfl)) ?_
          refine AList.nil ?_
          refine Next.go ?_
          -- c4
          refine AWP.cond (.tmp _ _ rfl) (fun hc42 => ?_) (fun hc42 => ?_)
          · try simp only [decide_eq_true_eq] at hc42
            refine AWP.exit ?_
            refine Next.ex ?_
            refine Block.miss rfl ?_
            refine Next.ex ?_
            refine Block.miss rfl ?_
            refine Next.ex ?_
            refine Block.hit ?_
            refine Next.go ?_
            refine AWP.seq ?_
            -- region 12
            refine AWP.region ?_
            first | (refine AList.p rfl (pure_fieldI Tryz.underlying34 rfl Tryz.sizeOf4 (.tmp _ _ rfl)) ?_) | (refine AList.p rfl (pure_field Tryz.underlying34 rfl Tryz.sizeOf4 (.tmp _ _ rfl)) ?_)
            refine AList.s0 (step_store Tryz.sizeOf4 (.tmp _ _ rfl) ev_bool rfl rfl (.inl rfl) (by first | assumption | exact (by assumption : Heap.le _ _).objs _ _ (by assumption) | exact Heap.objs_set_same _ _ _ | exact (Heap.objs_set_ne _ _ (by assumption)).trans (Heap.objs_set_same _ _ _) | exact (Heap.objs_set_ne _ _ (by assumption)).trans ((Heap.objs_set_ne _ _ (by assumption)).trans (Heap.objs_set_same _ _ _)) | exact (Heap.objs_set_ne _ _ (by assumption)).trans (by assumption)) (Nat.le_of_ble_eq_true rfl)) ?_
            rintro _ _ ⟨rfl, hH⟩
            obtain rfl := hH.symm
            try first | rw [Heap.set_set] | rw [Heap.set_under (by assumption)]
            first | (refine AList.p rfl (pure_fieldI Tryz.underlying34 rfl Tryz.sizeOf4 (.tmp _ _ rfl)) ?_) | (refine AList.p rfl (pure_field Tryz.underlying34 rfl Tryz.sizeOf4 (.tmp _ _ rfl)) ?_)
            refine AList.s0 (step_store Tryz.sizeOf4 (.tmp _ _ rfl) ev_bool rfl rfl (.inl rfl) (by first | assumption | exact (by assumption : Heap.le _ _).objs _ _ (by assumption) | exact Heap.objs_set_same _ _ _ | exact (Heap.objs_set_ne _ _ (by assumption)).trans (Heap.objs_set_same _ _ _) | exact (Heap.objs_set_ne _ _ (by assumption)).trans ((Heap.objs_set_ne _ _ (by assumption)).trans (Heap.objs_set_same _ _ _)) | exact (Heap.objs_set_ne _ _ (by assumption)).trans (by assumption)) (Nat.le_of_ble_eq_true rfl)) ?_
            rintro _ _ ⟨rfl, hH⟩
            obtain rfl := hH.symm
            try first | rw [Heap.set_set] | rw [Heap.set_under (by assumption)]
            refine AList.nil ?_
            refine Next.go ?_
            refine AWP.exit ?_
            refine Block.hit ?_
            refine Next.go ?_
            refine AWP.seq ?_
            -- region 13
            refine AWP.region ?_
            first | (refine AList.p rfl (pure_loadN Tryz.isAgg34 Tryz.sizeOf34 (.tmp _ _ rfl) (Nat.le_of_ble_eq_true rfl)) ?_) | (refine AList.s rfl (step_loadN Tryz.isAgg34 Tryz.sizeOf34 (.tmp _ _ rfl) (by first | assumption | exact (by assumption : Heap.le _ _).objs _ _ (by assumption) | exact Heap.objs_set_same _ _ _ | exact (Heap.objs_set_ne _ _ (by assumption)).trans (Heap.objs_set_same _ _ _) | exact (Heap.objs_set_ne _ _ (by assumption)).trans ((Heap.objs_set_ne _ _ (by assumption)).trans (Heap.objs_set_same _ _ _)) | exact (Heap.objs_set_ne _ _ (by assumption)).trans (by assumption)) (Nat.le_of_ble_eq_true rfl)) ?_; rintro _ _ ⟨rfl, hH⟩; obtain rfl := hH.symm)
            refine AList.s0 (step_store Tryz.sizeOf34 (.tmp _ _ rfl) (.tmp _ _ rfl) rfl rfl (.inr ⟨_, rfl⟩) (by first | assumption | exact (by assumption : Heap.le _ _).objs _ _ (by assumption) | exact Heap.objs_set_same _ _ _ | exact (Heap.objs_set_ne _ _ (by assumption)).trans (Heap.objs_set_same _ _ _) | exact (Heap.objs_set_ne _ _ (by assumption)).trans ((Heap.objs_set_ne _ _ (by assumption)).trans (Heap.objs_set_same _ _ _)) | exact (Heap.objs_set_ne _ _ (by assumption)).trans (by assumption)) (Nat.le_of_ble_eq_true rfl)) ?_
            rintro _ _ ⟨rfl, hH⟩
            obtain rfl := hH.symm
            try first | rw [Heap.set_set] | rw [Heap.set_under (by assumption)]
            refine AList.p rfl (pure_assign ev_int) ?_
            refine AList.nil ?_
            refine Next.go ?_
            refine AWP.dropb (by first | exact hb5 | exact Heap.fresh_set hb5 _) ?_
            refine AWP.frz (t := 2) rfl (by first | exact hb2 | exact Heap.fresh_set hb2 _) ?_
            refine AWP.ret ?_
            refine Block.rt ?_
            refine Next.rt ?_
            refine Next.rt ?_
            refine Block.rt ?_
            refine Next.rt ?_
            -- ret 2
            refine Ret.go (.cons (.cellI _ _ _ _ rfl Tryz.isAgg34 Tryz.sizeOf34 rfl) (.cons (.tmp _ _ rfl) .nil)) _ (Heap.le.refl _) ?_
            refine ⟨?_, rfl⟩
            have hf : findL s = some i := findL_some hi6 hc13 hl
            simp only [packed, findLoc, hf]
            simp_all [locOf, Loc.cs]
            all_goals rfl
          · try simp only [decide_eq_false_iff_not] at hc42
            refine AWP.skip ?_
            refine Next.go ?_
            refine AWP.exit ?_
            refine Block.miss rfl ?_
            refine Next.ex ?_
            refine Block.miss rfl ?_
            refine Next.ex ?_
            refine Block.miss rfl ?_
            refine Next.ex ?_
            refine Block.hit ?_
            refine Next.go ?_
            refine AWP.seq ?_
            -- region 13
            refine AWP.region ?_
            first | (refine AList.p rfl (pure_loadN Tryz.isAgg34 Tryz.sizeOf34 (.tmp _ _ rfl) (Nat.le_of_ble_eq_true rfl)) ?_) | (refine AList.s rfl (step_loadN Tryz.isAgg34 Tryz.sizeOf34 (.tmp _ _ rfl) (by first | assumption | exact (by assumption : Heap.le _ _).objs _ _ (by assumption) | exact Heap.objs_set_same _ _ _ | exact (Heap.objs_set_ne _ _ (by assumption)).trans (Heap.objs_set_same _ _ _) | exact (Heap.objs_set_ne _ _ (by assumption)).trans ((Heap.objs_set_ne _ _ (by assumption)).trans (Heap.objs_set_same _ _ _)) | exact (Heap.objs_set_ne _ _ (by assumption)).trans (by assumption)) (Nat.le_of_ble_eq_true rfl)) ?_; rintro _ _ ⟨rfl, hH⟩; obtain rfl := hH.symm)
            refine AList.s0 (step_store Tryz.sizeOf34 (.tmp _ _ rfl) (.tmp _ _ rfl) rfl rfl (.inr ⟨_, rfl⟩) (by first | assumption | exact (by assumption : Heap.le _ _).objs _ _ (by assumption) | exact Heap.objs_set_same _ _ _ | exact (Heap.objs_set_ne _ _ (by assumption)).trans (Heap.objs_set_same _ _ _) | exact (Heap.objs_set_ne _ _ (by assumption)).trans ((Heap.objs_set_ne _ _ (by assumption)).trans (Heap.objs_set_same _ _ _)) | exact (Heap.objs_set_ne _ _ (by assumption)).trans (by assumption)) (Nat.le_of_ble_eq_true rfl)) ?_
            rintro _ _ ⟨rfl, hH⟩
            obtain rfl := hH.symm
            try first | rw [Heap.set_set] | rw [Heap.set_under (by assumption)]
            refine AList.p rfl (pure_assign ev_int) ?_
            refine AList.nil ?_
            refine Next.go ?_
            refine AWP.dropb (by first | exact hb5 | exact Heap.fresh_set hb5 _) ?_
            refine AWP.frz (t := 2) rfl (by first | exact hb2 | exact Heap.fresh_set hb2 _) ?_
            refine AWP.ret ?_
            refine Block.rt ?_
            refine Next.rt ?_
            refine Next.rt ?_
            refine Block.rt ?_
            refine Next.rt ?_
            -- ret 3
            refine Ret.go (.cons (.cellI _ _ _ _ rfl Tryz.isAgg34 Tryz.sizeOf34 rfl) (.cons (.tmp _ _ rfl) .nil)) _ (Heap.le.refl _) ?_
            refine ⟨?_, rfl⟩
            have hf : findL s = some i := findL_some hi6 hc13 hl
            simp only [packed, findLoc, hf]
            simp_all [locOf, Loc.cs]
            all_goals rfl
  · try simp only [decide_eq_false_iff_not, Int.not_lt] at hc7
    refine AWP.exit ?_
    refine Next.ex ?_
    refine Next.ex ?_
    refine Block.hit ?_
    refine Next.go ?_
    refine AWP.seq ?_
    -- region 15
    refine AWP.region ?_
    refine AList.p rfl (pure_build [(0, 1), (1, 1), (2, 1), (3, 1), (4, 1), (5, 1), (6, 1), (7, 1), (8, 1), (9, 1)] Tryz.underlying34 Tryz.zeroValue34 (zr34) rfl (pl34 _ Tryz.underlying34) .nil rfl) ?_
    refine AList.s0 (step_store Tryz.sizeOf34 (.tmp _ _ rfl) (.tmp _ _ rfl) rfl rfl (.inr ⟨_, rfl⟩) (by first | assumption | exact (by assumption : Heap.le _ _).objs _ _ (by assumption) | exact Heap.objs_set_same _ _ _ | exact (Heap.objs_set_ne _ _ (by assumption)).trans (Heap.objs_set_same _ _ _) | exact (Heap.objs_set_ne _ _ (by assumption)).trans ((Heap.objs_set_ne _ _ (by assumption)).trans (Heap.objs_set_same _ _ _)) | exact (Heap.objs_set_ne _ _ (by assumption)).trans (by assumption)) (Nat.le_of_ble_eq_true rfl)) ?_
    rintro _ _ ⟨rfl, hH⟩
    obtain rfl := hH.symm
    try first | rw [Heap.set_set] | rw [Heap.set_under (by assumption)]
    refine AList.p rfl (pure_assign ev_int) ?_
    refine AList.nil ?_
    refine Next.go ?_
    refine AWP.frz (t := 2) rfl (by first | exact hb2 | exact Heap.fresh_set hb2 _) ?_
    refine AWP.ret ?_
    -- ret 4
    refine Ret.go (.cons (.cellI _ _ _ _ rfl Tryz.isAgg34 Tryz.sizeOf34 rfl) (.cons (.tmp _ _ rfl) .nil)) _ (Heap.le.refl _) ?_
    refine ⟨?_, rfl⟩
    have hf : findL s = none := findL_none fun j hj => hl j (by omega)
    simp only [packed, findLoc, hf]
    rfl

set_option maxRecDepth 100000 in
theorem BinCmp_calls (p : AV) (op : List UInt8) (hop : op = [61] ∨ op = [60, 62] ∨ op = [60] ∨ op = [60, 61] ∨ op = [62] ∨ op = [62, 61]) (a b : Val) (a0 : 0 ≤ a.bits) (a1 : a.bits < 18446744073709551616) (b0 : 0 ≤ b.bits) (b1 : b.bits < 18446744073709551616) (ta : a.text.length ≤ 1000000) (tb : b.text.length ≤ 1000000) (H : Heap) : ACall Tryz.prog 19 [p, .str op, a.av, b.av] H (fun z H' => z = (BinCmp op a b).av ∧ H' = H) := by
  refine ACall.of_body Tryz.func19 rfl Tryz.ntmps19 Tryz.results19 rfl ?_
  refine AWP.seq ?_
  -- region 0
  refine AWP.region ?_
  refine AList.s rfl (step_boxI (.tmp _ _ rfl) (.inr ⟨_, rfl⟩)) ?_
  rintro _ _ ⟨rfl, hH⟩
  obtain rfl := hH.symm
  refine AList.s rfl (step_boxI (.tmp _ _ rfl) (.inr ⟨_, rfl⟩)) ?_
  rintro _ _ ⟨rfl, hH⟩
  obtain rfl := hH.symm
  refine AList.s rfl (step_alloc Tryz.zeroValue24 (zr24)) ?_
  rintro _ _ ⟨b8, hb8, rfl, hH⟩
  obtain rfl := hH.symm
  refine AList.nil ?_
  refine Next.go ?_
  refine AWP.seq ?_
  refine AWP.block ?_
  refine AWP.seq ?_
  -- region 1
  refine AWP.region ?_
  first | (refine AList.p rfl (pure_fieldI Tryz.underlying24 rfl Tryz.sizeOf3 (.tmp _ _ rfl)) ?_) | (refine AList.p rfl (pure_field Tryz.underlying24 rfl Tryz.sizeOf3 (.tmp _ _ rfl)) ?_)
  first | (refine AList.p rfl (pure_load1 Tryz.isAgg3 (.tmp _ _ rfl)) ?_) | (refine AList.s rfl (step_load1 Tryz.isAgg3 (.tmp _ _ rfl) (by first | assumption | exact (by assumption : Heap.le _ _).objs _ _ (by assumption) | exact Heap.objs_set_same _ _ _ | exact (Heap.objs_set_ne _ _ (by assumption)).trans (Heap.objs_set_same _ _ _) | exact (Heap.objs_set_ne _ _ (by assumption)).trans ((Heap.objs_set_ne _ _ (by assumption)).trans (Heap.objs_set_same _ _ _)) | exact (Heap.objs_set_ne _ _ (by assumption)).trans (by assumption)) rfl) ?_; rintro _ _ ⟨rfl, hH⟩; obtain rfl := hH.symm)
  refine AList.p rfl (pure_eql (.tmp _ _ rfl) ev_int) ?_
  refine AList.p rfl (pure_assign (.tmp _ _ rfl)) ?_
  refine AList.nil ?_
  refine Next.go ?_
  -- c0
  refine AWP.cond (.tmp _ _ rfl) (fun hc14 => ?_) (fun hc14 => ?_)
  · try simp only [decide_eq_true_eq] at hc14
    refine AWP.seq ?_
    -- region 2
    refine AWP.region ?_
    first | (refine AList.p rfl (pure_loadN Tryz.isAgg24 Tryz.sizeOf24 (.tmp _ _ rfl) (Nat.le_of_ble_eq_true rfl)) ?_) | (refine AList.s rfl (step_loadN Tryz.isAgg24 Tryz.sizeOf24 (.tmp _ _ rfl) (by first | assumption | exact (by assumption : Heap.le _ _).objs _ _ (by assumption) | exact Heap.objs_set_same _ _ _ | exact (Heap.objs_set_ne _ _ (by assumption)).trans (Heap.objs_set_same _ _ _) | exact (Heap.objs_set_ne _ _ (by assumption)).trans ((Heap.objs_set_ne _ _ (by assumption)).trans (Heap.objs_set_same _ _ _)) | exact (Heap.objs_set_ne _ _ (by assumption)).trans (by assumption)) (Nat.le_of_ble_eq_true rfl)) ?_; rintro _ _ ⟨rfl, hH⟩; obtain rfl := hH.symm)
    refine AList.s0 (step_store Tryz.sizeOf24 (.tmp _ _ rfl) (.tmp _ _ rfl) rfl rfl (.inr ⟨_, rfl⟩) (by first | assumption | exact (by assumption : Heap.le _ _).objs _ _ (by assumption) | exact Heap.objs_set_same _ _ _ | exact (Heap.objs_set_ne _ _ (by assumption)).trans (Heap.objs_set_same _ _ _) | exact (Heap.objs_set_ne _ _ (by assumption)).trans ((Heap.objs_set_ne _ _ (by assumption)).trans (Heap.objs_set_same _ _ _)) | exact (Heap.objs_set_ne _ _ (by assumption)).trans (by assumption)) (Nat.le_of_ble_eq_true rfl)) ?_
    rintro _ _ ⟨rfl, hH⟩
    obtain rfl := hH.symm
    try first | rw [Heap.set_set] | rw [Heap.set_under (by assumption)]
    refine AList.nil ?_
    refine Next.go ?_
    refine AWP.frz (t := 8) rfl (by first | exact hb8 | exact Heap.fresh_set hb8 _) ?_
    refine AWP.ret ?_
    refine Block.rt ?_
    refine Next.rt ?_
    -- ret 0
    refine Ret.go (.cons (.cellI _ _ _ _ rfl Tryz.isAgg24 Tryz.sizeOf24 rfl) .nil) _ (Heap.le.refl _) ?_
    refine ⟨?_, rfl⟩
    simp only [packed, BinCmp]
    first | (rw [if_pos (by omega)]; rfl) | (rw [if_neg (by omega), if_pos (by omega)]; rfl) | (rw [if_neg (by omega), if_neg (by omega)]; simp_all [cmpOp, BoolV, Val.av, Val.cs]; rfl)
  · try simp only [decide_eq_false_iff_not] at hc14
    refine AWP.seq ?_
    -- region 3
    refine AWP.region ?_
    first | (refine AList.p rfl (pure_fieldI Tryz.underlying24 rfl Tryz.sizeOf3 (.tmp _ _ rfl)) ?_) | (refine AList.p rfl (pure_field Tryz.underlying24 rfl Tryz.sizeOf3 (.tmp _ _ rfl)) ?_)
    first | (refine AList.p rfl (pure_load1 Tryz.isAgg3 (.tmp _ _ rfl)) ?_) | (refine AList.s rfl (step_load1 Tryz.isAgg3 (.tmp _ _ rfl) (by first | assumption | exact (by assumption : Heap.le _ _).objs _ _ (by assumption) | exact Heap.objs_set_same _ _ _ | exact (Heap.objs_set_ne _ _ (by assumption)).trans (Heap.objs_set_same _ _ _) | exact (Heap.objs_set_ne _ _ (by assumption)).trans ((Heap.objs_set_ne _ _ (by assumption)).trans (Heap.objs_set_same _ _ _)) | exact (Heap.objs_set_ne _ _ (by assumption)).trans (by assumption)) rfl) ?_; rintro _ _ ⟨rfl, hH⟩; obtain rfl := hH.symm)
    refine AList.p rfl (pure_eql (.tmp _ _ rfl) ev_int) ?_
    refine AList.p rfl (pure_assign (.tmp _ _ rfl)) ?_
    refine AList.nil ?_
    refine Next.go ?_
    -- c1
    refine AWP.cond (.tmp _ _ rfl) (fun hc19 => ?_) (fun hc19 => ?_)
    · try simp only [decide_eq_true_eq] at hc19
      refine AWP.seq ?_
      -- region 4
      refine AWP.region ?_
      first | (refine AList.p rfl (pure_loadN Tryz.isAgg24 Tryz.sizeOf24 (.tmp _ _ rfl) (Nat.le_of_ble_eq_true rfl)) ?_) | (refine AList.s rfl (step_loadN Tryz.isAgg24 Tryz.sizeOf24 (.tmp _ _ rfl) (by first | assumption | exact (by assumption : Heap.le _ _).objs _ _ (by assumption) | exact Heap.objs_set_same _ _ _ | exact (Heap.objs_set_ne _ _ (by assumption)).trans (Heap.objs_set_same _ _ _) | exact (Heap.objs_set_ne _ _ (by assumption)).trans ((Heap.objs_set_ne _ _ (by assumption)).trans (Heap.objs_set_same _ _ _)) | exact (Heap.objs_set_ne _ _ (by assumption)).trans (by assumption)) (Nat.le_of_ble_eq_true rfl)) ?_; rintro _ _ ⟨rfl, hH⟩; obtain rfl := hH.symm)
      refine AList.s0 (step_store Tryz.sizeOf24 (.tmp _ _ rfl) (.tmp _ _ rfl) rfl rfl (.inr ⟨_, rfl⟩) (by first | assumption | exact (by assumption : Heap.le _ _).objs _ _ (by assumption) | exact Heap.objs_set_same _ _ _ | exact (Heap.objs_set_ne _ _ (by assumption)).trans (Heap.objs_set_same _ _ _) | exact (Heap.objs_set_ne _ _ (by assumption)).trans ((Heap.objs_set_ne _ _ (by assumption)).trans (Heap.objs_set_same _ _ _)) | exact (Heap.objs_set_ne _ _ (by assumption)).trans (by assumption)) (Nat.le_of_ble_eq_true rfl)) ?_
      rintro _ _ ⟨rfl, hH⟩
      obtain rfl := hH.symm
      try first | rw [Heap.set_set] | rw [Heap.set_under (by assumption)]
      refine AList.nil ?_
      refine Next.go ?_
      refine AWP.frz (t := 8) rfl (by first | exact hb8 | exact Heap.fresh_set hb8 _) ?_
      refine AWP.ret ?_
      refine Block.rt ?_
      refine Next.rt ?_
      -- ret 1
      refine Ret.go (.cons (.cellI _ _ _ _ rfl Tryz.isAgg24 Tryz.sizeOf24 rfl) .nil) _ (Heap.le.refl _) ?_
      refine ⟨?_, rfl⟩
      simp only [packed, BinCmp]
      first | (rw [if_pos (by omega)]; rfl) | (rw [if_neg (by omega), if_pos (by omega)]; rfl) | (rw [if_neg (by omega), if_neg (by omega)]; simp_all [cmpOp, BoolV, Val.av, Val.cs]; rfl)
    · try simp only [decide_eq_false_iff_not] at hc19
      refine AWP.skip ?_
      refine Block.go ?_
      refine Next.go ?_
      refine AWP.seq ?_
      -- region 5
      refine AWP.region ?_
      refine AList.p rfl (pure_move (.tmp _ _ rfl)) ?_
      first | (refine AList.p rfl (pure_loadN Tryz.isAgg24 Tryz.sizeOf24 (.tmp _ _ rfl) (Nat.le_of_ble_eq_true rfl)) ?_) | (refine AList.s rfl (step_loadN Tryz.isAgg24 Tryz.sizeOf24 (.tmp _ _ rfl) (by first | assumption | exact (by assumption : Heap.le _ _).objs _ _ (by assumption) | exact Heap.objs_set_same _ _ _ | exact (Heap.objs_set_ne _ _ (by assumption)).trans (Heap.objs_set_same _ _ _) | exact (Heap.objs_set_ne _ _ (by assumption)).trans ((Heap.objs_set_ne _ _ (by assumption)).trans (Heap.objs_set_same _ _ _)) | exact (Heap.objs_set_ne _ _ (by assumption)).trans (by assumption)) (Nat.le_of_ble_eq_true rfl)) ?_; rintro _ _ ⟨rfl, hH⟩; obtain rfl := hH.symm)
      first | (refine AList.p rfl (pure_loadN Tryz.isAgg24 Tryz.sizeOf24 (.tmp _ _ rfl) (Nat.le_of_ble_eq_true rfl)) ?_) | (refine AList.s rfl (step_loadN Tryz.isAgg24 Tryz.sizeOf24 (.tmp _ _ rfl) (by first | assumption | exact (by assumption : Heap.le _ _).objs _ _ (by assumption) | exact Heap.objs_set_same _ _ _ | exact (Heap.objs_set_ne _ _ (by assumption)).trans (Heap.objs_set_same _ _ _) | exact (Heap.objs_set_ne _ _ (by assumption)).trans ((Heap.objs_set_ne _ _ (by assumption)).trans (Heap.objs_set_same _ _ _)) | exact (Heap.objs_set_ne _ _ (by assumption)).trans (by assumption)) (Nat.le_of_ble_eq_true rfl)) ?_; rintro _ _ ⟨rfl, hH⟩; obtain rfl := hH.symm)
      refine AList.s rfl (step_call0 Tryz.call18 (.cons (.tmp _ _ rfl) (.cons (.tmp _ _ rfl) (.cons (.tmp _ _ rfl) .nil))) (Compare_calls _ a b a0 a1 b0 b1 ta tb _)) ?_
      rintro _ _ ⟨rfl, hH⟩
      obtain rfl := hH.symm
      refine AList.p rfl (pure_assign (.tmp _ _ rfl)) ?_
      refine AList.nil ?_
      refine Next.go ?_
      refine AWP.seq ?_
      refine AWP.seq ?_
      -- region 6
      refine AWP.region ?_
      refine AList.p rfl (pure_move (.tmp _ _ rfl)) ?_
      refine AList.nil ?_
      refine Next.go ?_
      refine AWP.block ?_
      refine AWP.seq ?_
      -- region 7
      refine AWP.region ?_
      refine AList.p rfl (pure_eqlStr (.tmp _ _ rfl) (ev_str rfl)) ?_
      refine AList.p rfl (pure_assign (.tmp _ _ rfl)) ?_
      refine AList.nil ?_
      refine Next.go ?_
      -- c2
      refine AWP.cond (.tmp _ _ rfl) (fun hc29 => ?_) (fun hc29 => ?_)
      · try simp only [decide_eq_true_eq] at hc29
        refine AWP.seq ?_
        -- region 8
        refine AWP.region ?_
        refine AList.p rfl (pure_move (.tmp _ _ rfl)) ?_
        refine AList.p rfl (pure_eql (.tmp _ _ rfl) ev_int) ?_
        refine AList.s rfl (step_call0 Tryz.call12 (.cons (.tmp _ _ rfl) .nil) (vBool_calls _ _)) ?_
        rintro _ _ ⟨rfl, hH⟩
        obtain rfl := hH.symm
        refine AList.s0 (step_store Tryz.sizeOf24 (.tmp _ _ rfl) (.tmp _ _ rfl) rfl rfl (.inr ⟨_, rfl⟩) (by first | assumption | exact (by assumption : Heap.le _ _).objs _ _ (by assumption) | exact Heap.objs_set_same _ _ _ | exact (Heap.objs_set_ne _ _ (by assumption)).trans (Heap.objs_set_same _ _ _) | exact (Heap.objs_set_ne _ _ (by assumption)).trans ((Heap.objs_set_ne _ _ (by assumption)).trans (Heap.objs_set_same _ _ _)) | exact (Heap.objs_set_ne _ _ (by assumption)).trans (by assumption)) (Nat.le_of_ble_eq_true rfl)) ?_
        rintro _ _ ⟨rfl, hH⟩
        obtain rfl := hH.symm
        try first | rw [Heap.set_set] | rw [Heap.set_under (by assumption)]
        refine AList.nil ?_
        refine Next.go ?_
        refine AWP.frz (t := 8) rfl (by first | exact hb8 | exact Heap.fresh_set hb8 _) ?_
        refine AWP.ret ?_
        refine Block.rt ?_
        refine Next.rt ?_
        -- ret 2
        refine Ret.go (.cons (.cellI _ _ _ _ rfl Tryz.isAgg24 Tryz.sizeOf24 rfl) .nil) _ (Heap.le.refl _) ?_
        refine ⟨?_, rfl⟩
        simp only [packed, BinCmp]
        first | (rw [if_pos (by omega)]; rfl) | (rw [if_neg (by omega), if_pos (by omega)]; rfl) | (rw [if_neg (by omega), if_neg (by omega)]; simp_all [cmpOp, BoolV, Val.av, Val.cs]; rfl)
      · try simp only [decide_eq_false_iff_not] at hc29
        refine AWP.seq ?_
        -- region 9
        refine AWP.region ?_
        refine AList.p rfl (pure_eqlStr (.tmp _ _ rfl) (ev_str rfl)) ?_
        refine AList.p rfl (pure_assign (.tmp _ _ rfl)) ?_
        refine AList.nil ?_
        refine Next.go ?_
        -- c3
        refine AWP.cond (.tmp _ _ rfl) (fun hc34 => ?_) (fun hc34 => ?_)
        · try simp only [decide_eq_true_eq] at hc34
          refine AWP.seq ?_
          -- region 10
          refine AWP.region ?_
          refine AList.p rfl (pure_move (.tmp _ _ rfl)) ?_
          refine AList.p rfl (pure_neq (.tmp _ _ rfl) ev_int) ?_
          refine AList.s rfl (step_call0 Tryz.call12 (.cons (.tmp _ _ rfl) .nil) (vBool_calls _ _)) ?_
          rintro _ _ ⟨rfl, hH⟩
          obtain rfl := hH.symm
          refine AList.s0 (step_store Tryz.sizeOf24 (.tmp _ _ rfl) (.tmp _ _ rfl) rfl rfl (.inr ⟨_, rfl⟩) (by first | assumption | exact (by assumption : Heap.le _ _).objs _ _ (by assumption) | exact Heap.objs_set_same _ _ _ | exact (Heap.objs_set_ne _ _ (by assumption)).trans (Heap.objs_set_same _ _ _) | exact (Heap.objs_set_ne _ _ (by assumption)).trans ((Heap.objs_set_ne _ _ (by assumption)).trans (Heap.objs_set_same _ _ _)) | exact (Heap.objs_set_ne _ _ (by assumption)).trans (by assumption)) (Nat.le_of_ble_eq_true rfl)) ?_
          rintro _ _ ⟨rfl, hH⟩
          obtain rfl := hH.symm
          try first | rw [Heap.set_set] | rw [Heap.set_under (by assumption)]
          refine AList.nil ?_
          refine Next.go ?_
          refine AWP.frz (t := 8) rfl (by first | exact hb8 | exact Heap.fresh_set hb8 _) ?_
          refine AWP.ret ?_
          refine Block.rt ?_
          refine Next.rt ?_
          -- ret 3
          refine Ret.go (.cons (.cellI _ _ _ _ rfl Tryz.isAgg24 Tryz.sizeOf24 rfl) .nil) _ (Heap.le.refl _) ?_
          refine ⟨?_, rfl⟩
          simp only [packed, BinCmp]
          first | (rw [if_pos (by omega)]; rfl) | (rw [if_neg (by omega), if_pos (by omega)]; rfl) | (rw [if_neg (by omega), if_neg (by omega)]; simp_all [cmpOp, BoolV, Val.av, Val.cs]; rfl)
        · try simp only [decide_eq_false_iff_not] at hc34
          refine AWP.seq ?_
          -- region 11
          refine AWP.region ?_
          refine AList.p rfl (pure_eqlStr (.tmp _ _ rfl) (ev_str rfl)) ?_
          refine AList.p rfl (pure_assign (.tmp _ _ rfl)) ?_
          refine AList.nil ?_
          refine Next.go ?_
          -- c4
          refine AWP.cond (.tmp _ _ rfl) (fun hc39 => ?_) (fun hc39 => ?_)
          · try simp only [decide_eq_true_eq] at hc39
            refine AWP.seq ?_
            -- region 12
            refine AWP.region ?_
            refine AList.p rfl (pure_move (.tmp _ _ rfl)) ?_
            refine AList.p rfl (pure_lss (.tmp _ _ rfl) ev_int) ?_
            refine AList.s rfl (step_call0 Tryz.call12 (.cons (.tmp _ _ rfl) .nil) (vBool_calls _ _)) ?_
            rintro _ _ ⟨rfl, hH⟩
            obtain rfl := hH.symm
            refine AList.s0 (step_store Tryz.sizeOf24 (.tmp _ _ rfl) (.tmp _ _ rfl) rfl rfl (.inr ⟨_, rfl⟩) (by first | assumption | exact (by assumption : Heap.le _ _).objs _ _ (by assumption) | exact Heap.objs_set_same _ _ _ | exact (Heap.objs_set_ne _ _ (by assumption)).trans (Heap.objs_set_same _ _ _) | exact (Heap.objs_set_ne _ _ (by assumption)).trans ((Heap.objs_set_ne _ _ (by assumption)).trans (Heap.objs_set_same _ _ _)) | exact (Heap.objs_set_ne _ _ (by assumption)).trans (by assumption)) (Nat.le_of_ble_eq_true rfl)) ?_
            rintro _ _ ⟨rfl, hH⟩
            obtain rfl := hH.symm
            try first | rw [Heap.set_set] | rw [Heap.set_under (by assumption)]
            refine AList.nil ?_
            refine Next.go ?_
            refine AWP.frz (t := 8) rfl (by first | exact hb8 | exact Heap.fresh_set hb8 _) ?_
            refine AWP.ret ?_
            refine Block.rt ?_
            refine Next.rt ?_
            -- ret 4
            refine Ret.go (.cons (.cellI _ _ _ _ rfl Tryz.isAgg24 Tryz.sizeOf24 rfl) .nil) _ (Heap.le.refl _) ?_
            refine ⟨?_, rfl⟩
            simp only [packed, BinCmp]
            first | (rw [if_pos (by omega)]; rfl) | (rw [if_neg (by omega), if_pos (by omega)]; rfl) | (rw [if_neg (by omega), if_neg (by omega)]; simp_all [cmpOp, BoolV, Val.av, Val.cs]; rfl)
          · try simp only [decide_eq_false_iff_not] at hc39
            refine AWP.seq ?_
            -- region 13
            refine AWP.region ?_
            refine AList.p rfl (pure_eqlStr (.tmp _ _ rfl) (ev_str rfl)) ?_
            refine AList.p rfl (pure_assign (.tmp _ _ rfl)) ?_
            refine AList.nil ?_
            refine Next.go ?_
            -- c5
            refine AWP.cond (.tmp _ _ rfl) (fun hc44 => ?_) (fun hc44 => ?_)
            · try simp only [decide_eq_true_eq] at hc44
              refine AWP.seq ?_
              -- region 14
              refine AWP.region ?_
              refine AList.p rfl (pure_move (.tmp _ _ rfl)) ?_
              refine AList.p rfl (pure_leq (.tmp _ _ rfl) ev_int) ?_
              refine AList.s rfl (step_call0 Tryz.call12 (.cons (.tmp _ _ rfl) .nil) (vBool_calls _ _)) ?_
              rintro _ _ ⟨rfl, hH⟩
              obtain rfl := hH.symm
              refine AList.s0 (step_store Tryz.sizeOf24 (.tmp _ _ rfl) (.tmp _ _ rfl) rfl rfl (.inr ⟨_, rfl⟩) (by first | assumption | exact (by assumption : Heap.le _ _).objs _ _ (by assumption) | exact Heap.objs_set_same _ _ _ | exact (Heap.objs_set_ne _ _ (by assumption)).trans (Heap.objs_set_same _ _ _) | exact (Heap.objs_set_ne _ _ (by assumption)).trans ((Heap.objs_set_ne _ _ (by assumption)).trans (Heap.objs_set_same _ _ _)) | exact (Heap.objs_set_ne _ _ (by assumption)).trans (by assumption)) (Nat.le_of_ble_eq_true rfl)) ?_
              rintro _ _ ⟨rfl, hH⟩
              obtain rfl := hH.symm
              try first | rw [Heap.set_set] | rw [Heap.set_under (by assumption)]
              refine AList.nil ?_
              refine Next.go ?_
              refine AWP.frz (t := 8) rfl (by first | exact hb8 | exact Heap.fresh_set hb8 _) ?_
              refine AWP.ret ?_
              refine Block.rt ?_
              refine Next.rt ?_
              -- ret 5
              refine Ret.go (.cons (.cellI _ _ _ _ rfl Tryz.isAgg24 Tryz.sizeOf24 rfl) .nil) _ (Heap.le.refl _) ?_
              refine ⟨?_, rfl⟩
              simp only [packed, BinCmp]
              first | (rw [if_pos (by omega)]; rfl) | (rw [if_neg (by omega), if_pos (by omega)]; rfl) | (rw [if_neg (by omega), if_neg (by omega)]; simp_all [cmpOp, BoolV, Val.av, Val.cs]; rfl)
            · try simp only [decide_eq_false_iff_not] at hc44
              refine AWP.seq ?_
              -- region 15
              refine AWP.region ?_
              refine AList.p rfl (pure_eqlStr (.tmp _ _ rfl) (ev_str rfl)) ?_
              refine AList.p rfl (pure_assign (.tmp _ _ rfl)) ?_
              refine AList.nil ?_
              refine Next.go ?_
              -- c6
              refine AWP.cond (.tmp _ _ rfl) (fun hc49 => ?_) (fun hc49 => ?_)
              · try simp only [decide_eq_true_eq] at hc49
                refine AWP.seq ?_
                -- region 16
                refine AWP.region ?_
                refine AList.p rfl (pure_move (.tmp _ _ rfl)) ?_
                refine AList.p rfl (pure_gtr (.tmp _ _ rfl) ev_int) ?_
                refine AList.s rfl (step_call0 Tryz.call12 (.cons (.tmp _ _ rfl) .nil) (vBool_calls _ _)) ?_
                rintro _ _ ⟨rfl, hH⟩
                obtain rfl := hH.symm
                refine AList.s0 (step_store Tryz.sizeOf24 (.tmp _ _ rfl) (.tmp _ _ rfl) rfl rfl (.inr ⟨_, rfl⟩) (by first | assumption | exact (by assumption : Heap.le _ _).objs _ _ (by assumption) | exact Heap.objs_set_same _ _ _ | exact (Heap.objs_set_ne _ _ (by assumption)).trans (Heap.objs_set_same _ _ _) | exact (Heap.objs_set_ne _ _ (by assumption)).trans ((Heap.objs_set_ne _ _ (by assumption)).trans (Heap.objs_set_same _ _ _)) | exact (Heap.objs_set_ne _ _ (by assumption)).trans (by assumption)) (Nat.le_of_ble_eq_true rfl)) ?_
                rintro _ _ ⟨rfl, hH⟩
                obtain rfl := hH.symm
                try first | rw [Heap.set_set] | rw [Heap.set_under (by assumption)]
                refine AList.nil ?_
                refine Next.go ?_
                refine AWP.frz (t := 8) rfl (by first | exact hb8 | exact Heap.fresh_set hb8 _) ?_
                refine AWP.ret ?_
                refine Block.rt ?_
                refine Next.rt ?_
                -- ret 6
                refine Ret.go (.cons (.cellI _ _ _ _ rfl Tryz.isAgg24 Tryz.sizeOf24 rfl) .nil) _ (Heap.le.refl _) ?_
                refine ⟨?_, rfl⟩
                simp only [packed, BinCmp]
                first | (rw [if_pos (by omega)]; rfl) | (rw [if_neg (by omega), if_pos (by omega)]; rfl) | (rw [if_neg (by omega), if_neg (by omega)]; simp_all [cmpOp, BoolV, Val.av, Val.cs]; rfl)
              · try simp only [decide_eq_false_iff_not] at hc49
                refine AWP.seq ?_
                -- region 17
                refine AWP.region ?_
                refine AList.p rfl (pure_eqlStr (.tmp _ _ rfl) (ev_str rfl)) ?_
                refine AList.p rfl (pure_assign (.tmp _ _ rfl)) ?_
                refine AList.nil ?_
                refine Next.go ?_
                -- c7
                refine AWP.cond (.tmp _ _ rfl) (fun hc54 => ?_) (fun hc54 => ?_)
                · try simp only [decide_eq_true_eq] at hc54
                  refine AWP.seq ?_
                  -- region 18
                  refine AWP.region ?_
                  refine AList.p rfl (pure_move (.tmp _ _ rfl)) ?_
                  refine AList.p rfl (pure_geq (.tmp _ _ rfl) ev_int) ?_
                  refine AList.s rfl (step_call0 Tryz.call12 (.cons (.tmp _ _ rfl) .nil) (vBool_calls _ _)) ?_
                  rintro _ _ ⟨rfl, hH⟩
                  obtain rfl := hH.symm
                  refine AList.s0 (step_store Tryz.sizeOf24 (.tmp _ _ rfl) (.tmp _ _ rfl) rfl rfl (.inr ⟨_, rfl⟩) (by first | assumption | exact (by assumption : Heap.le _ _).objs _ _ (by assumption) | exact Heap.objs_set_same _ _ _ | exact (Heap.objs_set_ne _ _ (by assumption)).trans (Heap.objs_set_same _ _ _) | exact (Heap.objs_set_ne _ _ (by assumption)).trans ((Heap.objs_set_ne _ _ (by assumption)).trans (Heap.objs_set_same _ _ _)) | exact (Heap.objs_set_ne _ _ (by assumption)).trans (by assumption)) (Nat.le_of_ble_eq_true rfl)) ?_
                  rintro _ _ ⟨rfl, hH⟩
                  obtain rfl := hH.symm
                  try first | rw [Heap.set_set] | rw [Heap.set_under (by assumption)]
                  refine AList.nil ?_
                  refine Next.go ?_
                  refine AWP.frz (t := 8) rfl (by first | exact hb8 | exact Heap.fresh_set hb8 _) ?_
                  refine AWP.ret ?_
                  refine Block.rt ?_
                  refine Next.rt ?_
                  -- ret 7
                  refine Ret.go (.cons (.cellI _ _ _ _ rfl Tryz.isAgg24 Tryz.sizeOf24 rfl) .nil) _ (Heap.le.refl _) ?_
                  refine ⟨?_, rfl⟩
                  simp only [packed, BinCmp]
                  first | (rw [if_pos (by omega)]; rfl) | (rw [if_neg (by omega), if_pos (by omega)]; rfl) | (rw [if_neg (by omega), if_neg (by omega)]; simp_all [cmpOp, BoolV, Val.av, Val.cs]; rfl)
                · try simp only [decide_eq_false_iff_not] at hc54
                  exfalso; rcases hop with h | h | h | h | h | h <;> contradiction

end Go.Proofs.YtncoklpecffokaaGreatDoor
namespace Go.Proofs.YtncoklpecffokaaGreatDoor
open Go Go.RowKit

theorem bin_six {op : List UInt8} {a b : Val} {x : Bool} (ha : a.kind ≠ 4) (hb : b.kind ≠ 4) (hx : cmpOp op (CompareV a b) = x) : (!decide (BinCmp op a b = BoolV x)) = false := by
  rw [BinCmp, if_neg ha, if_neg hb, hx]; simp
attribute [local irreducible] CompareV RightV BinCmp BoolV findLoc

set_option maxRecDepth 100000 in
set_option maxHeartbeats 1000000 in
theorem Orders_calls (a b c : Val) (a0 : 0 ≤ a.bits) (a1 : a.bits < 18446744073709551616) (ma : a.text.length ≤ maxLen) (b0 : 0 ≤ b.bits) (b1 : b.bits < 18446744073709551616) (mb : b.text.length ≤ maxLen) (c0 : 0 ≤ c.bits) (c1 : c.bits < 18446744073709551616) (mc : c.text.length ≤ maxLen) (H : Heap) : ACall Tryz.prog 4 [a.av, b.av, c.av] H (fun z H' => z = .bool true ∧ H' = H) := by
  refine ACall.of_body Tryz.func4 rfl Tryz.ntmps4 Tryz.results4 rfl ?_
  refine AWP.seq ?_
  -- region 0
  refine AWP.region ?_
  refine AList.s rfl (step_boxI (.tmp _ _ rfl) (.inr ⟨_, rfl⟩)) ?_
  rintro _ _ ⟨rfl, hH⟩
  obtain rfl := hH.symm
  refine AList.s rfl (step_boxI (.tmp _ _ rfl) (.inr ⟨_, rfl⟩)) ?_
  rintro _ _ ⟨rfl, hH⟩
  obtain rfl := hH.symm
  refine AList.s rfl (step_boxI (.tmp _ _ rfl) (.inr ⟨_, rfl⟩)) ?_
  rintro _ _ ⟨rfl, hH⟩
  obtain rfl := hH.symm
  refine AList.p rfl (pure_assign ev_bool) ?_
  refine AList.nil ?_
  refine Next.go ?_
  refine AWP.seq ?_
  -- region 1
  refine AWP.region ?_
  refine AList.s rfl (step_call0 Tryz.call5 .nil (shown_calls _)) ?_
  rintro _ _ ⟨rfl, hH⟩
  obtain rfl := hH.symm
  refine AList.p rfl (pure_assign (.tmp _ _ rfl)) ?_
  refine AList.nil ?_
  refine Next.go ?_
  refine AWP.seq ?_
  -- region 2
  refine AWP.region ?_
  first | (refine AList.p rfl (pure_loadN Tryz.isAgg24 Tryz.sizeOf24 (.tmp _ _ rfl) (Nat.le_of_ble_eq_true rfl)) ?_) | (refine AList.s rfl (step_loadN Tryz.isAgg24 Tryz.sizeOf24 (.tmp _ _ rfl) (by first | assumption | exact (by assumption : Heap.le _ _).objs _ _ (by assumption) | exact Heap.objs_set_same _ _ _ | exact (Heap.objs_set_ne _ _ (by assumption)).trans (Heap.objs_set_same _ _ _) | exact (Heap.objs_set_ne _ _ (by assumption)).trans ((Heap.objs_set_ne _ _ (by assumption)).trans (Heap.objs_set_same _ _ _)) | exact (Heap.objs_set_ne _ _ (by assumption)).trans (by assumption)) (Nat.le_of_ble_eq_true rfl)) ?_; rintro _ _ ⟨rfl, hH⟩; obtain rfl := hH.symm)
  refine AList.s rfl (step_call0 Tryz.call6 (.cons (.tmp _ _ rfl) .nil) (by first | exact vRight_calls a a0 a1 ma _ | exact vRight_calls b b0 b1 mb _ | exact vRight_calls c c0 c1 mc _)) ?_
  rintro _ _ ⟨rfl, hH⟩
  obtain rfl := hH.symm
  refine AList.p rfl (pure_assign (.tmp _ _ rfl)) ?_
  refine AList.nil ?_
  refine Next.go ?_
  refine AWP.seq ?_
  -- region 3
  refine AWP.region ?_
  first | (refine AList.p rfl (pure_loadN Tryz.isAgg24 Tryz.sizeOf24 (.tmp _ _ rfl) (Nat.le_of_ble_eq_true rfl)) ?_) | (refine AList.s rfl (step_loadN Tryz.isAgg24 Tryz.sizeOf24 (.tmp _ _ rfl) (by first | assumption | exact (by assumption : Heap.le _ _).objs _ _ (by assumption) | exact Heap.objs_set_same _ _ _ | exact (Heap.objs_set_ne _ _ (by assumption)).trans (Heap.objs_set_same _ _ _) | exact (Heap.objs_set_ne _ _ (by assumption)).trans ((Heap.objs_set_ne _ _ (by assumption)).trans (Heap.objs_set_same _ _ _)) | exact (Heap.objs_set_ne _ _ (by assumption)).trans (by assumption)) (Nat.le_of_ble_eq_true rfl)) ?_; rintro _ _ ⟨rfl, hH⟩; obtain rfl := hH.symm)
  refine AList.s rfl (step_call0 Tryz.call6 (.cons (.tmp _ _ rfl) .nil) (by first | exact vRight_calls a a0 a1 ma _ | exact vRight_calls b b0 b1 mb _ | exact vRight_calls c c0 c1 mc _)) ?_
  rintro _ _ ⟨rfl, hH⟩
  obtain rfl := hH.symm
  refine AList.p rfl (pure_assign (.tmp _ _ rfl)) ?_
  refine AList.nil ?_
  refine Next.go ?_
  refine AWP.seq ?_
  -- region 4
  refine AWP.region ?_
  first | (refine AList.p rfl (pure_loadN Tryz.isAgg24 Tryz.sizeOf24 (.tmp _ _ rfl) (Nat.le_of_ble_eq_true rfl)) ?_) | (refine AList.s rfl (step_loadN Tryz.isAgg24 Tryz.sizeOf24 (.tmp _ _ rfl) (by first | assumption | exact (by assumption : Heap.le _ _).objs _ _ (by assumption) | exact Heap.objs_set_same _ _ _ | exact (Heap.objs_set_ne _ _ (by assumption)).trans (Heap.objs_set_same _ _ _) | exact (Heap.objs_set_ne _ _ (by assumption)).trans ((Heap.objs_set_ne _ _ (by assumption)).trans (Heap.objs_set_same _ _ _)) | exact (Heap.objs_set_ne _ _ (by assumption)).trans (by assumption)) (Nat.le_of_ble_eq_true rfl)) ?_; rintro _ _ ⟨rfl, hH⟩; obtain rfl := hH.symm)
  refine AList.s rfl (step_call0 Tryz.call6 (.cons (.tmp _ _ rfl) .nil) (by first | exact vRight_calls a a0 a1 ma _ | exact vRight_calls b b0 b1 mb _ | exact vRight_calls c c0 c1 mc _)) ?_
  rintro _ _ ⟨rfl, hH⟩
  obtain rfl := hH.symm
  refine AList.p rfl (pure_assign (.tmp _ _ rfl)) ?_
  refine AList.nil ?_
  refine Next.go ?_
  refine AWP.seq ?_
  refine AWP.seqTo 35 (.bool (!RightV a || !RightV b || !RightV c)) [3, 4, 5, 6, 7] ?_ ?_
  · -- region 5
    refine AWP.region ?_
    refine AList.p rfl (pure_move (.tmp _ _ rfl)) ?_
    refine AList.p rfl (pure_not (.tmp _ _ rfl)) ?_
    refine AList.p rfl (pure_move (.tmp _ _ rfl)) ?_
    refine AList.gp rfl rfl rfl (by first | rfl | assumption) (pure_move (.tmp _ _ rfl)) ?_
    refine AList.gp rfl rfl rfl (by first | rfl | assumption) (pure_not (.tmp _ _ rfl)) ?_
    refine AList.p rfl (pure_pickF (.tmp _ _ rfl) (by first | rfl | assumption) (.tmp _ _ rfl)) ?_
    refine AList.p rfl (pure_move (.tmp _ _ rfl)) ?_
    -- the guard in slot 28
    refine bool_casesL (t := 28) rfl (fun hg28 => ?_) (fun hg28 => ?_)
    · have hh28 := hg28; try simp only [Bool.not_eq_true'] at hh28
      refine AList.gn rfl rfl rfl (by first | rfl | assumption) ?_
      refine AList.gn rfl rfl rfl (by first | rfl | assumption) ?_
      refine AList.p rfl (pure_pickT (.tmp _ _ rfl) (by first | rfl | assumption) ev_bool) ?_
      refine AList.p rfl (pure_move (.tmp _ _ rfl)) ?_
      refine AList.gn rfl rfl rfl (by first | rfl | assumption) ?_
      refine AList.gn rfl rfl rfl (by first | rfl | assumption) ?_
      refine AList.p rfl (pure_pickT (.tmp _ _ rfl) (by first | rfl | assumption) ev_bool) ?_
      refine AList.nil ?_
      exact ⟨rfl, sub_b rfl (by first | (simp [*]; done) | (simp; omega) | simp_all) (sub_c rfl (sub_c rfl (sub_c rfl (sub_c rfl (sub_c rfl sub_n))))), rfl⟩
    · have hh28 := hg28; try simp only [Bool.not_eq_false'] at hh28
      refine AList.gp rfl rfl rfl (by first | rfl | assumption) (pure_move (.tmp _ _ rfl)) ?_
      refine AList.gp rfl rfl rfl (by first | rfl | assumption) (pure_not (.tmp _ _ rfl)) ?_
      refine AList.p rfl (pure_pickF (.tmp _ _ rfl) (by first | rfl | assumption) (.tmp _ _ rfl)) ?_
      refine AList.p rfl (pure_move (.tmp _ _ rfl)) ?_
      -- the guard in slot 32
      refine bool_casesL (t := 32) rfl (fun hg32 => ?_) (fun hg32 => ?_)
      · have hh32 := hg32; try simp only [Bool.not_eq_true'] at hh32
        refine AList.gn rfl rfl rfl (by first | rfl | assumption) ?_
        refine AList.gn rfl rfl rfl (by first | rfl | assumption) ?_
        refine AList.p rfl (pure_pickT (.tmp _ _ rfl) (by first | rfl | assumption) ev_bool) ?_
        refine AList.nil ?_
        exact ⟨rfl, sub_b rfl (by first | (simp [*]; done) | (simp; omega) | simp_all) (sub_c rfl (sub_c rfl (sub_c rfl (sub_c rfl (sub_c rfl sub_n))))), rfl⟩
      · have hh32 := hg32; try simp only [Bool.not_eq_false'] at hh32
        refine AList.gp rfl rfl rfl (by first | rfl | assumption) (pure_move (.tmp _ _ rfl)) ?_
        refine AList.gp rfl rfl rfl (by first | rfl | assumption) (pure_not (.tmp _ _ rfl)) ?_
        refine AList.p rfl (pure_pickF (.tmp _ _ rfl) (by first | rfl | assumption) (.tmp _ _ rfl)) ?_
        refine AList.nil ?_
        exact ⟨rfl, sub_b rfl (by first | (simp [*]; done) | (simp; omega) | simp_all) (sub_c rfl (sub_c rfl (sub_c rfl (sub_c rfl (sub_c rfl sub_n))))), rfl⟩
  · refine AWP.sub [(35, _), (3, _), (4, _), (5, _), (6, _), (7, _)] (sub_c rfl (sub_c rfl (sub_c rfl (sub_c rfl (sub_c rfl (sub_c rfl sub_n)))))) ?_
    -- c0
    refine AWP.cond (.tmp _ _ rfl) (fun hc35 => ?_) (fun hc35 => ?_)
    · try simp only [decide_eq_true_eq, decide_eq_false_iff_not, Bool.not_eq_true', Bool.not_eq_false', Int.not_lt, Int.not_le, ne_eq, Decidable.not_not] at hc35
      refine AWP.seq ?_
      -- region 6
      refine AWP.region ?_
      refine AList.p rfl (pure_move (.tmp _ _ rfl)) ?_
      refine AList.p rfl (pure_assign (.tmp _ _ rfl)) ?_
      refine AList.nil ?_
      refine Next.go ?_
      refine AWP.ret ?_
      refine Next.rt ?_
      -- ret 0
      refine Ret.go (.cons (.tmp _ _ rfl) .nil) _ (Heap.le.refl _) ?_
      exact ⟨rfl, rfl⟩
    · try simp only [decide_eq_true_eq, decide_eq_false_iff_not, Bool.not_eq_true', Bool.not_eq_false', Int.not_lt, Int.not_le, ne_eq, Decidable.not_not] at hc35
      simp only [Bool.or_eq_false_iff, Bool.not_eq_false'] at hc35
      obtain ⟨⟨ra, rb⟩, rc⟩ := hc35
      have ta := right_text ra
      have tb := right_text rb
      have tc := right_text rc
      have hrange := compare_range a b
      have hanti := compare_anti ra rb
      have hself := compare_self ra
      refine AWP.skip ?_
      refine Next.go ?_
      refine AWP.seq ?_
      -- region 7
      refine AWP.region ?_
      refine AList.s rfl (step_call0 Tryz.call16 (.cons (ev_str rfl) .nil) (Find_calls _ _)) ?_
      rintro _ _ ⟨rfl, hH⟩
      obtain rfl := hH.symm
      refine AList.p rfl (pure_move (.tmp _ _ rfl)) ?_
      refine AList.p rfl (pure_extract (.tmp _ _ rfl) rfl) ?_
      refine AList.p rfl (pure_extract (.tmp _ _ rfl) rfl) ?_
      refine AList.s rfl (step_alloc Tryz.zeroValue34 (zr34)) ?_
      rintro _ _ ⟨b11, hb11, rfl, hH⟩
      obtain rfl := hH.symm
      refine AList.s0 (step_store Tryz.sizeOf34 (.tmp _ _ rfl) (.tmp _ _ rfl) rfl rfl (.inr ⟨_, rfl⟩) (by first | assumption | exact (by assumption : Heap.le _ _).objs _ _ (by assumption) | exact Heap.objs_set_same _ _ _ | exact (Heap.objs_set_ne _ _ (by assumption)).trans (Heap.objs_set_same _ _ _) | exact (Heap.objs_set_ne _ _ (by assumption)).trans ((Heap.objs_set_ne _ _ (by assumption)).trans (Heap.objs_set_same _ _ _)) | exact (Heap.objs_set_ne _ _ (by assumption)).trans (by assumption)) (Nat.le_of_ble_eq_true rfl)) ?_
      rintro _ _ ⟨rfl, hH⟩
      obtain rfl := hH.symm
      try first | rw [Heap.set_set] | rw [Heap.set_under (by assumption)]
      refine AList.p rfl (pure_assign (.tmp _ _ rfl)) ?_
      refine AList.nil ?_
      refine Next.go ?_
      refine AWP.frz (t := 11) rfl (by first | exact hb11 | exact Heap.fresh_set hb11 _) ?_
      refine AWP.seq ?_
      -- region 8
      refine AWP.region ?_
      first | (refine AList.p rfl (pure_loadN Tryz.isAgg34 Tryz.sizeOf34 (.tmp _ _ rfl) (Nat.le_of_ble_eq_true rfl)) ?_) | (refine AList.s rfl (step_loadN Tryz.isAgg34 Tryz.sizeOf34 (.tmp _ _ rfl) (by first | assumption | exact (by assumption : Heap.le _ _).objs _ _ (by assumption) | exact Heap.objs_set_same _ _ _ | exact (Heap.objs_set_ne _ _ (by assumption)).trans (Heap.objs_set_same _ _ _) | exact (Heap.objs_set_ne _ _ (by assumption)).trans ((Heap.objs_set_ne _ _ (by assumption)).trans (Heap.objs_set_same _ _ _)) | exact (Heap.objs_set_ne _ _ (by assumption)).trans (by assumption)) (Nat.le_of_ble_eq_true rfl)) ?_; rintro _ _ ⟨rfl, hH⟩; obtain rfl := hH.symm)
      refine AList.s rfl (step_call0 Tryz.call17 (.cons (.tmp _ _ rfl) .nil) (valueNew_calls (findLoc _).1 _)) ?_
      rintro _ _ ⟨rfl, hH⟩
      obtain rfl := hH.symm
      refine AList.p rfl (pure_assign (.tmp _ _ rfl)) ?_
      refine AList.nil ?_
      refine Next.go ?_
      refine AWP.seq ?_
      -- region 9
      refine AWP.region ?_
      refine AList.p rfl (pure_move (.tmp _ _ rfl)) ?_
      first | (refine AList.p rfl (pure_loadN Tryz.isAgg24 Tryz.sizeOf24 (.tmp _ _ rfl) (Nat.le_of_ble_eq_true rfl)) ?_) | (refine AList.s rfl (step_loadN Tryz.isAgg24 Tryz.sizeOf24 (.tmp _ _ rfl) (by first | assumption | exact (by assumption : Heap.le _ _).objs _ _ (by assumption) | exact Heap.objs_set_same _ _ _ | exact (Heap.objs_set_ne _ _ (by assumption)).trans (Heap.objs_set_same _ _ _) | exact (Heap.objs_set_ne _ _ (by assumption)).trans ((Heap.objs_set_ne _ _ (by assumption)).trans (Heap.objs_set_same _ _ _)) | exact (Heap.objs_set_ne _ _ (by assumption)).trans (by assumption)) (Nat.le_of_ble_eq_true rfl)) ?_; rintro _ _ ⟨rfl, hH⟩; obtain rfl := hH.symm)
      first | (refine AList.p rfl (pure_loadN Tryz.isAgg24 Tryz.sizeOf24 (.tmp _ _ rfl) (Nat.le_of_ble_eq_true rfl)) ?_) | (refine AList.s rfl (step_loadN Tryz.isAgg24 Tryz.sizeOf24 (.tmp _ _ rfl) (by first | assumption | exact (by assumption : Heap.le _ _).objs _ _ (by assumption) | exact Heap.objs_set_same _ _ _ | exact (Heap.objs_set_ne _ _ (by assumption)).trans (Heap.objs_set_same _ _ _) | exact (Heap.objs_set_ne _ _ (by assumption)).trans ((Heap.objs_set_ne _ _ (by assumption)).trans (Heap.objs_set_same _ _ _)) | exact (Heap.objs_set_ne _ _ (by assumption)).trans (by assumption)) (Nat.le_of_ble_eq_true rfl)) ?_; rintro _ _ ⟨rfl, hH⟩; obtain rfl := hH.symm)
      refine AList.s rfl (step_call0 Tryz.call18 (.cons (.tmp _ _ rfl) (.cons (.tmp _ _ rfl) (.cons (.tmp _ _ rfl) .nil))) (by first | exact Compare_calls _ a b a0 a1 b0 b1 ta tb _ | exact Compare_calls _ b a b0 b1 a0 a1 tb ta _ | exact Compare_calls _ a a a0 a1 a0 a1 ta ta _ | exact Compare_calls _ b c b0 b1 c0 c1 tb tc _ | exact Compare_calls _ a c a0 a1 c0 c1 ta tc _)) ?_
      rintro _ _ ⟨rfl, hH⟩
      obtain rfl := hH.symm
      refine AList.p rfl (pure_assign (.tmp _ _ rfl)) ?_
      refine AList.nil ?_
      refine Next.go ?_
      refine AWP.seq ?_
      refine AWP.seq ?_
      have h53 : decide (CompareV a b ≠ -CompareV b a) = false := decide_eq_false (by omega)
      have h59 : decide (CompareV a a ≠ 0) = false := decide_eq_false (by omega)
      have h63 : decide (CompareV a b < -1) = false := decide_eq_false (by omega)
      have h67 : decide (1 < CompareV a b) = false := decide_eq_false (by omega)
      -- region 10
      refine AWP.region ?_
      refine AList.p rfl (pure_move (.tmp _ _ rfl)) ?_
      refine AList.p rfl (pure_move (.tmp _ _ rfl)) ?_
      first | (refine AList.p rfl (pure_loadN Tryz.isAgg24 Tryz.sizeOf24 (.tmp _ _ rfl) (Nat.le_of_ble_eq_true rfl)) ?_) | (refine AList.s rfl (step_loadN Tryz.isAgg24 Tryz.sizeOf24 (.tmp _ _ rfl) (by first | assumption | exact (by assumption : Heap.le _ _).objs _ _ (by assumption) | exact Heap.objs_set_same _ _ _ | exact (Heap.objs_set_ne _ _ (by assumption)).trans (Heap.objs_set_same _ _ _) | exact (Heap.objs_set_ne _ _ (by assumption)).trans ((Heap.objs_set_ne _ _ (by assumption)).trans (Heap.objs_set_same _ _ _)) | exact (Heap.objs_set_ne _ _ (by assumption)).trans (by assumption)) (Nat.le_of_ble_eq_true rfl)) ?_; rintro _ _ ⟨rfl, hH⟩; obtain rfl := hH.symm)
      first | (refine AList.p rfl (pure_loadN Tryz.isAgg24 Tryz.sizeOf24 (.tmp _ _ rfl) (Nat.le_of_ble_eq_true rfl)) ?_) | (refine AList.s rfl (step_loadN Tryz.isAgg24 Tryz.sizeOf24 (.tmp _ _ rfl) (by first | assumption | exact (by assumption : Heap.le _ _).objs _ _ (by assumption) | exact Heap.objs_set_same _ _ _ | exact (Heap.objs_set_ne _ _ (by assumption)).trans (Heap.objs_set_same _ _ _) | exact (Heap.objs_set_ne _ _ (by assumption)).trans ((Heap.objs_set_ne _ _ (by assumption)).trans (Heap.objs_set_same _ _ _)) | exact (Heap.objs_set_ne _ _ (by assumption)).trans (by assumption)) (Nat.le_of_ble_eq_true rfl)) ?_; rintro _ _ ⟨rfl, hH⟩; obtain rfl := hH.symm)
      refine AList.s rfl (step_call0 Tryz.call18 (.cons (.tmp _ _ rfl) (.cons (.tmp _ _ rfl) (.cons (.tmp _ _ rfl) .nil))) (by first | exact Compare_calls _ a b a0 a1 b0 b1 ta tb _ | exact Compare_calls _ b a b0 b1 a0 a1 tb ta _ | exact Compare_calls _ a a a0 a1 a0 a1 ta ta _ | exact Compare_calls _ b c b0 b1 c0 c1 tb tc _ | exact Compare_calls _ a c a0 a1 c0 c1 ta tc _)) ?_
      rintro _ _ ⟨rfl, hH⟩
      obtain rfl := hH.symm
      refine AList.p rfl (pure_neg (.tmp _ _ rfl) (by omega)) ?_
      refine AList.p rfl (pure_neq (.tmp _ _ rfl) (.tmp _ _ rfl)) ?_
      refine AList.p rfl (pure_move (.tmp _ _ rfl)) ?_
      refine AList.gp rfl rfl rfl (by first | rfl | assumption) (pure_move (.tmp _ _ rfl)) ?_
      first | (refine AList.gp rfl rfl rfl (by first | rfl | assumption) (pure_loadN Tryz.isAgg24 Tryz.sizeOf24 (.tmp _ _ rfl) (Nat.le_of_ble_eq_true rfl)) ?_) | (refine AList.gs rfl rfl rfl (by first | rfl | assumption) (step_loadN Tryz.isAgg24 Tryz.sizeOf24 (.tmp _ _ rfl) (by first | assumption | exact (by assumption : Heap.le _ _).objs _ _ (by assumption) | exact Heap.objs_set_same _ _ _ | exact (Heap.objs_set_ne _ _ (by assumption)).trans (Heap.objs_set_same _ _ _) | exact (Heap.objs_set_ne _ _ (by assumption)).trans ((Heap.objs_set_ne _ _ (by assumption)).trans (Heap.objs_set_same _ _ _)) | exact (Heap.objs_set_ne _ _ (by assumption)).trans (by assumption)) (Nat.le_of_ble_eq_true rfl)) ?_; rintro _ _ ⟨rfl, hH⟩; obtain rfl := hH.symm)
      first | (refine AList.gp rfl rfl rfl (by first | rfl | assumption) (pure_loadN Tryz.isAgg24 Tryz.sizeOf24 (.tmp _ _ rfl) (Nat.le_of_ble_eq_true rfl)) ?_) | (refine AList.gs rfl rfl rfl (by first | rfl | assumption) (step_loadN Tryz.isAgg24 Tryz.sizeOf24 (.tmp _ _ rfl) (by first | assumption | exact (by assumption : Heap.le _ _).objs _ _ (by assumption) | exact Heap.objs_set_same _ _ _ | exact (Heap.objs_set_ne _ _ (by assumption)).trans (Heap.objs_set_same _ _ _) | exact (Heap.objs_set_ne _ _ (by assumption)).trans ((Heap.objs_set_ne _ _ (by assumption)).trans (Heap.objs_set_same _ _ _)) | exact (Heap.objs_set_ne _ _ (by assumption)).trans (by assumption)) (Nat.le_of_ble_eq_true rfl)) ?_; rintro _ _ ⟨rfl, hH⟩; obtain rfl := hH.symm)
      refine AList.gs rfl rfl rfl (by first | rfl | assumption) (step_call0 Tryz.call18 (.cons (.tmp _ _ rfl) (.cons (.tmp _ _ rfl) (.cons (.tmp _ _ rfl) .nil))) (by first | exact Compare_calls _ a b a0 a1 b0 b1 ta tb _ | exact Compare_calls _ b a b0 b1 a0 a1 tb ta _ | exact Compare_calls _ a a a0 a1 a0 a1 ta ta _ | exact Compare_calls _ b c b0 b1 c0 c1 tb tc _ | exact Compare_calls _ a c a0 a1 c0 c1 ta tc _)) ?_
      rintro _ _ ⟨rfl, hH⟩
      obtain rfl := hH.symm
      refine AList.gp rfl rfl rfl (by first | rfl | assumption) (pure_neq (.tmp _ _ rfl) ev_int) ?_
      refine AList.p rfl (pure_pickF (.tmp _ _ rfl) (by first | rfl | assumption) (.tmp _ _ rfl)) ?_
      refine AList.p rfl (pure_move (.tmp _ _ rfl)) ?_
      refine AList.gp rfl rfl rfl (by first | rfl | assumption) (pure_move (.tmp _ _ rfl)) ?_
      refine AList.gp rfl rfl rfl (by first | rfl | assumption) (pure_lss (.tmp _ _ rfl) ev_int) ?_
      refine AList.p rfl (pure_pickF (.tmp _ _ rfl) (by first | rfl | assumption) (.tmp _ _ rfl)) ?_
      refine AList.p rfl (pure_move (.tmp _ _ rfl)) ?_
      refine AList.gp rfl rfl rfl (by first | rfl | assumption) (pure_move (.tmp _ _ rfl)) ?_
      refine AList.gp rfl rfl rfl (by first | rfl | assumption) (pure_gtr (.tmp _ _ rfl) ev_int) ?_
      refine AList.p rfl (pure_pickF (.tmp _ _ rfl) (by first | rfl | assumption) (.tmp _ _ rfl)) ?_
      refine AList.nil ?_
      refine Next.go ?_
      -- c1
      refine AWP.cond_false (.tmp _ _ rfl) (by first | rfl | assumption) ?_
      refine AWP.skip ?_
      refine Next.go ?_
      refine AWP.seq ?_
      refine AWP.seqTo 76 (.bool (decide (a.kind = 4) || decide (b.kind = 4))) [3, 4, 5, 6, 13, 14] ?_ ?_
      · -- region 12
        refine AWP.region ?_
        first | (refine AList.p rfl (pure_fieldI Tryz.underlying24 rfl Tryz.sizeOf3 (.tmp _ _ rfl)) ?_) | (refine AList.p rfl (pure_field Tryz.underlying24 rfl Tryz.sizeOf3 (.tmp _ _ rfl)) ?_)
        first | (refine AList.p rfl (pure_load1 Tryz.isAgg3 (.tmp _ _ rfl)) ?_) | (refine AList.s rfl (step_load1 Tryz.isAgg3 (.tmp _ _ rfl) (by first | assumption | exact (by assumption : Heap.le _ _).objs _ _ (by assumption) | exact Heap.objs_set_same _ _ _ | exact (Heap.objs_set_ne _ _ (by assumption)).trans (Heap.objs_set_same _ _ _) | exact (Heap.objs_set_ne _ _ (by assumption)).trans ((Heap.objs_set_ne _ _ (by assumption)).trans (Heap.objs_set_same _ _ _)) | exact (Heap.objs_set_ne _ _ (by assumption)).trans (by assumption)) rfl) ?_; rintro _ _ ⟨rfl, hH⟩; obtain rfl := hH.symm)
        refine AList.p rfl (pure_eql (.tmp _ _ rfl) ev_int) ?_
        refine AList.p rfl (pure_move (.tmp _ _ rfl)) ?_
        -- the guard in slot 72
        refine bool_casesL (t := 72) rfl (fun hg72 => ?_) (fun hg72 => ?_)
        · have hh72 := hg72; try simp only [decide_eq_true_eq] at hh72
          refine AList.gn rfl rfl rfl (by first | rfl | assumption) ?_
          refine AList.gn rfl rfl rfl (by first | rfl | assumption) ?_
          refine AList.gn rfl rfl rfl (by first | rfl | assumption) ?_
          refine AList.p rfl (pure_pickT (.tmp _ _ rfl) (by first | rfl | assumption) ev_bool) ?_
          refine AList.nil ?_
          exact ⟨rfl, sub_b rfl (by first | (simp [*]; done) | (simp; omega) | simp_all) (sub_c rfl (sub_c rfl (sub_c rfl (sub_c rfl (sub_c rfl (sub_c rfl sub_n)))))), rfl⟩
        · have hh72 := hg72; try simp only [decide_eq_false_iff_not] at hh72
          first | (refine AList.gp rfl rfl rfl (by first | rfl | assumption) (pure_fieldI Tryz.underlying24 rfl Tryz.sizeOf3 (.tmp _ _ rfl)) ?_) | (refine AList.gp rfl rfl rfl (by first | rfl | assumption) (pure_field Tryz.underlying24 rfl Tryz.sizeOf3 (.tmp _ _ rfl)) ?_)
          first | (refine AList.gp rfl rfl rfl (by first | rfl | assumption) (pure_load1 Tryz.isAgg3 (.tmp _ _ rfl)) ?_) | (refine AList.gs rfl rfl rfl (by first | rfl | assumption) (step_load1 Tryz.isAgg3 (.tmp _ _ rfl) (by first | assumption | exact (by assumption : Heap.le _ _).objs _ _ (by assumption) | exact Heap.objs_set_same _ _ _ | exact (Heap.objs_set_ne _ _ (by assumption)).trans (Heap.objs_set_same _ _ _) | exact (Heap.objs_set_ne _ _ (by assumption)).trans ((Heap.objs_set_ne _ _ (by assumption)).trans (Heap.objs_set_same _ _ _)) | exact (Heap.objs_set_ne _ _ (by assumption)).trans (by assumption)) rfl) ?_; rintro _ _ ⟨rfl, hH⟩; obtain rfl := hH.symm)
          refine AList.gp rfl rfl rfl (by first | rfl | assumption) (pure_eql (.tmp _ _ rfl) ev_int) ?_
          refine AList.p rfl (pure_pickF (.tmp _ _ rfl) (by first | rfl | assumption) (.tmp _ _ rfl)) ?_
          refine AList.nil ?_
          exact ⟨rfl, sub_b rfl (by first | (simp [*]; done) | (simp; omega) | simp_all) (sub_c rfl (sub_c rfl (sub_c rfl (sub_c rfl (sub_c rfl (sub_c rfl sub_n)))))), rfl⟩
      · refine AWP.sub [(76, _), (3, _), (4, _), (5, _), (6, _), (13, _), (14, _)] (sub_c rfl (sub_c rfl (sub_c rfl (sub_c rfl (sub_c rfl (sub_c rfl (sub_c rfl sub_n))))))) ?_
        -- c2
        refine AWP.cond (.tmp _ _ rfl) (fun hc76 => ?_) (fun hc76 => ?_)
        · try simp only [decide_eq_true_eq, decide_eq_false_iff_not, Bool.not_eq_true', Bool.not_eq_false', Int.not_lt, Int.not_le, ne_eq, Decidable.not_not] at hc76
          simp only [Bool.or_eq_true, decide_eq_true_eq] at hc76
          refine AWP.seq ?_
          -- region 13
          refine AWP.region ?_
          refine AList.p rfl (pure_move (.tmp _ _ rfl)) ?_
          refine AList.p rfl (pure_eql (.tmp _ _ rfl) ev_int) ?_
          refine AList.p rfl (pure_assign (.tmp _ _ rfl)) ?_
          refine AList.nil ?_
          refine Next.go ?_
          refine AWP.ret ?_
          refine Next.rt ?_
          -- ret 1
          refine Ret.go (.cons (.tmp _ _ rfl) .nil) _ (Heap.le.refl _) ?_
          refine ⟨?_, rfl⟩
          rw [compare_fail hc76]; rfl
        · try simp only [decide_eq_true_eq, decide_eq_false_iff_not, Bool.not_eq_true', Bool.not_eq_false', Int.not_lt, Int.not_le, ne_eq, Decidable.not_not] at hc76
          simp only [Bool.or_eq_false_iff, decide_eq_false_iff_not] at hc76
          refine AWP.skip ?_
          refine Next.go ?_
          refine AWP.seq ?_
          refine AWP.seq ?_
          have h86 : (!decide (BinCmp [60] a b = BoolV (decide (CompareV a b < 0)))) = false := bin_six hc76.1 hc76.2 rfl
          have h95 : (!decide (BinCmp [62, 61] a b = BoolV (decide (0 ≤ CompareV a b)))) = false := bin_six hc76.1 hc76.2 rfl
          have h105 : (!decide (BinCmp [61] a b = BoolV (decide (CompareV a b = 0)))) = false := bin_six hc76.1 hc76.2 rfl
          have h115 : (!decide (BinCmp [60, 62] a b = BoolV (decide (CompareV a b ≠ 0)))) = false := bin_six hc76.1 hc76.2 rfl
          have h125 : (!decide (BinCmp [60, 61] a b = BoolV (decide (CompareV a b ≤ 0)))) = false := bin_six hc76.1 hc76.2 rfl
          have h135 : (!decide (BinCmp [62] a b = BoolV (decide (0 < CompareV a b)))) = false := bin_six hc76.1 hc76.2 rfl
          -- region 14
          refine AWP.region ?_
          refine AList.p rfl (pure_move (.tmp _ _ rfl)) ?_
          first | (refine AList.p rfl (pure_loadN Tryz.isAgg24 Tryz.sizeOf24 (.tmp _ _ rfl) (Nat.le_of_ble_eq_true rfl)) ?_) | (refine AList.s rfl (step_loadN Tryz.isAgg24 Tryz.sizeOf24 (.tmp _ _ rfl) (by first | assumption | exact (by assumption : Heap.le _ _).objs _ _ (by assumption) | exact Heap.objs_set_same _ _ _ | exact (Heap.objs_set_ne _ _ (by assumption)).trans (Heap.objs_set_same _ _ _) | exact (Heap.objs_set_ne _ _ (by assumption)).trans ((Heap.objs_set_ne _ _ (by assumption)).trans (Heap.objs_set_same _ _ _)) | exact (Heap.objs_set_ne _ _ (by assumption)).trans (by assumption)) (Nat.le_of_ble_eq_true rfl)) ?_; rintro _ _ ⟨rfl, hH⟩; obtain rfl := hH.symm)
          first | (refine AList.p rfl (pure_loadN Tryz.isAgg24 Tryz.sizeOf24 (.tmp _ _ rfl) (Nat.le_of_ble_eq_true rfl)) ?_) | (refine AList.s rfl (step_loadN Tryz.isAgg24 Tryz.sizeOf24 (.tmp _ _ rfl) (by first | assumption | exact (by assumption : Heap.le _ _).objs _ _ (by assumption) | exact Heap.objs_set_same _ _ _ | exact (Heap.objs_set_ne _ _ (by assumption)).trans (Heap.objs_set_same _ _ _) | exact (Heap.objs_set_ne _ _ (by assumption)).trans ((Heap.objs_set_ne _ _ (by assumption)).trans (Heap.objs_set_same _ _ _)) | exact (Heap.objs_set_ne _ _ (by assumption)).trans (by assumption)) (Nat.le_of_ble_eq_true rfl)) ?_; rintro _ _ ⟨rfl, hH⟩; obtain rfl := hH.symm)
          refine AList.s rfl (step_call0 Tryz.call19 (.cons (.tmp _ _ rfl) (.cons (ev_str rfl) (.cons (.tmp _ _ rfl) (.cons (.tmp _ _ rfl) .nil)))) (BinCmp_calls _ _ (by simp) a b a0 a1 b0 b1 ta tb _)) ?_
          rintro _ _ ⟨rfl, hH⟩
          obtain rfl := hH.symm
          refine AList.p rfl (pure_move (.tmp _ _ rfl)) ?_
          refine AList.p rfl (pure_lss (.tmp _ _ rfl) ev_int) ?_
          refine AList.s rfl (step_call0 Tryz.call20 (.cons (.tmp _ _ rfl) .nil) (is_calls _ _)) ?_
          rintro _ _ ⟨rfl, hH⟩
          obtain rfl := hH.symm
          refine AList.p rfl (pure_neqA Tryz.eqGuardType24 (.tmp _ _ rfl) (.tmp _ _ rfl) (eqVal (BinCmp [60] a b) (BoolV (decide (CompareV a b < 0))))) ?_
          refine AList.p rfl (pure_move (.tmp _ _ rfl)) ?_
          refine AList.gp rfl rfl rfl (by first | rfl | assumption) (pure_move (.tmp _ _ rfl)) ?_
          first | (refine AList.gp rfl rfl rfl (by first | rfl | assumption) (pure_loadN Tryz.isAgg24 Tryz.sizeOf24 (.tmp _ _ rfl) (Nat.le_of_ble_eq_true rfl)) ?_) | (refine AList.gs rfl rfl rfl (by first | rfl | assumption) (step_loadN Tryz.isAgg24 Tryz.sizeOf24 (.tmp _ _ rfl) (by first | assumption | exact (by assumption : Heap.le _ _).objs _ _ (by assumption) | exact Heap.objs_set_same _ _ _ | exact (Heap.objs_set_ne _ _ (by assumption)).trans (Heap.objs_set_same _ _ _) | exact (Heap.objs_set_ne _ _ (by assumption)).trans ((Heap.objs_set_ne _ _ (by assumption)).trans (Heap.objs_set_same _ _ _)) | exact (Heap.objs_set_ne _ _ (by assumption)).trans (by assumption)) (Nat.le_of_ble_eq_true rfl)) ?_; rintro _ _ ⟨rfl, hH⟩; obtain rfl := hH.symm)
          first | (refine AList.gp rfl rfl rfl (by first | rfl | assumption) (pure_loadN Tryz.isAgg24 Tryz.sizeOf24 (.tmp _ _ rfl) (Nat.le_of_ble_eq_true rfl)) ?_) | (refine AList.gs rfl rfl rfl (by first | rfl | assumption) (step_loadN Tryz.isAgg24 Tryz.sizeOf24 (.tmp _ _ rfl) (by first | assumption | exact (by assumption : Heap.le _ _).objs _ _ (by assumption) | exact Heap.objs_set_same _ _ _ | exact (Heap.objs_set_ne _ _ (by assumption)).trans (Heap.objs_set_same _ _ _) | exact (Heap.objs_set_ne _ _ (by assumption)).trans ((Heap.objs_set_ne _ _ (by assumption)).trans (Heap.objs_set_same _ _ _)) | exact (Heap.objs_set_ne _ _ (by assumption)).trans (by assumption)) (Nat.le_of_ble_eq_true rfl)) ?_; rintro _ _ ⟨rfl, hH⟩; obtain rfl := hH.symm)
          refine AList.gs rfl rfl rfl (by first | rfl | assumption) (step_call0 Tryz.call19 (.cons (.tmp _ _ rfl) (.cons (ev_str rfl) (.cons (.tmp _ _ rfl) (.cons (.tmp _ _ rfl) .nil)))) (BinCmp_calls _ _ (by simp) a b a0 a1 b0 b1 ta tb _)) ?_
          rintro _ _ ⟨rfl, hH⟩
          obtain rfl := hH.symm
          refine AList.gp rfl rfl rfl (by first | rfl | assumption) (pure_move (.tmp _ _ rfl)) ?_
          refine AList.gp rfl rfl rfl (by first | rfl | assumption) (pure_geq (.tmp _ _ rfl) ev_int) ?_
          refine AList.gs rfl rfl rfl (by first | rfl | assumption) (step_call0 Tryz.call20 (.cons (.tmp _ _ rfl) .nil) (is_calls _ _)) ?_
          rintro _ _ ⟨rfl, hH⟩
          obtain rfl := hH.symm
          refine AList.gp rfl rfl rfl (by first | rfl | assumption) (pure_neqA Tryz.eqGuardType24 (.tmp _ _ rfl) (.tmp _ _ rfl) (eqVal (BinCmp [62, 61] a b) (BoolV (decide (0 ≤ CompareV a b))))) ?_
          refine AList.p rfl (pure_pickF (.tmp _ _ rfl) (by first | rfl | assumption) (.tmp _ _ rfl)) ?_
          refine AList.p rfl (pure_move (.tmp _ _ rfl)) ?_
          refine AList.gp rfl rfl rfl (by first | rfl | assumption) (pure_move (.tmp _ _ rfl)) ?_
          first | (refine AList.gp rfl rfl rfl (by first | rfl | assumption) (pure_loadN Tryz.isAgg24 Tryz.sizeOf24 (.tmp _ _ rfl) (Nat.le_of_ble_eq_true rfl)) ?_) | (refine AList.gs rfl rfl rfl (by first | rfl | assumption) (step_loadN Tryz.isAgg24 Tryz.sizeOf24 (.tmp _ _ rfl) (by first | assumption | exact (by assumption : Heap.le _ _).objs _ _ (by assumption) | exact Heap.objs_set_same _ _ _ | exact (Heap.objs_set_ne _ _ (by assumption)).trans (Heap.objs_set_same _ _ _) | exact (Heap.objs_set_ne _ _ (by assumption)).trans ((Heap.objs_set_ne _ _ (by assumption)).trans (Heap.objs_set_same _ _ _)) | exact (Heap.objs_set_ne _ _ (by assumption)).trans (by assumption)) (Nat.le_of_ble_eq_true rfl)) ?_; rintro _ _ ⟨rfl, hH⟩; obtain rfl := hH.symm)
          first | (refine AList.gp rfl rfl rfl (by first | rfl | assumption) (pure_loadN Tryz.isAgg24 Tryz.sizeOf24 (.tmp _ _ rfl) (Nat.le_of_ble_eq_true rfl)) ?_) | (refine AList.gs rfl rfl rfl (by first | rfl | assumption) (step_loadN Tryz.isAgg24 Tryz.sizeOf24 (.tmp _ _ rfl) (by first | assumption | exact (by assumption : Heap.le _ _).objs _ _ (by assumption) | exact Heap.objs_set_same _ _ _ | exact (Heap.objs_set_ne _ _ (by assumption)).trans (Heap.objs_set_same _ _ _) | exact (Heap.objs_set_ne _ _ (by assumption)).trans ((Heap.objs_set_ne _ _ (by assumption)).trans (Heap.objs_set_same _ _ _)) | exact (Heap.objs_set_ne _ _ (by assumption)).trans (by assumption)) (Nat.le_of_ble_eq_true rfl)) ?_; rintro _ _ ⟨rfl, hH⟩; obtain rfl := hH.symm)
          refine AList.gs rfl rfl rfl (by first | rfl | assumption) (step_call0 Tryz.call19 (.cons (.tmp _ _ rfl) (.cons (ev_str rfl) (.cons (.tmp _ _ rfl) (.cons (.tmp _ _ rfl) .nil)))) (BinCmp_calls _ _ (by simp) a b a0 a1 b0 b1 ta tb _)) ?_
          rintro _ _ ⟨rfl, hH⟩
          obtain rfl := hH.symm
          refine AList.gp rfl rfl rfl (by first | rfl | assumption) (pure_move (.tmp _ _ rfl)) ?_
          refine AList.gp rfl rfl rfl (by first | rfl | assumption) (pure_eql (.tmp _ _ rfl) ev_int) ?_
          refine AList.gs rfl rfl rfl (by first | rfl | assumption) (step_call0 Tryz.call20 (.cons (.tmp _ _ rfl) .nil) (is_calls _ _)) ?_
          rintro _ _ ⟨rfl, hH⟩
          obtain rfl := hH.symm
          refine AList.gp rfl rfl rfl (by first | rfl | assumption) (pure_neqA Tryz.eqGuardType24 (.tmp _ _ rfl) (.tmp _ _ rfl) (eqVal (BinCmp [61] a b) (BoolV (decide (CompareV a b = 0))))) ?_
          refine AList.p rfl (pure_pickF (.tmp _ _ rfl) (by first | rfl | assumption) (.tmp _ _ rfl)) ?_
          refine AList.p rfl (pure_move (.tmp _ _ rfl)) ?_
          refine AList.gp rfl rfl rfl (by first | rfl | assumption) (pure_move (.tmp _ _ rfl)) ?_
          first | (refine AList.gp rfl rfl rfl (by first | rfl | assumption) (pure_loadN Tryz.isAgg24 Tryz.sizeOf24 (.tmp _ _ rfl) (Nat.le_of_ble_eq_true rfl)) ?_) | (refine AList.gs rfl rfl rfl (by first | rfl | assumption) (step_loadN Tryz.isAgg24 Tryz.sizeOf24 (.tmp _ _ rfl) (by first | assumption | exact (by assumption : Heap.le _ _).objs _ _ (by assumption) | exact Heap.objs_set_same _ _ _ | exact (Heap.objs_set_ne _ _ (by assumption)).trans (Heap.objs_set_same _ _ _) | exact (Heap.objs_set_ne _ _ (by assumption)).trans ((Heap.objs_set_ne _ _ (by assumption)).trans (Heap.objs_set_same _ _ _)) | exact (Heap.objs_set_ne _ _ (by assumption)).trans (by assumption)) (Nat.le_of_ble_eq_true rfl)) ?_; rintro _ _ ⟨rfl, hH⟩; obtain rfl := hH.symm)
          first | (refine AList.gp rfl rfl rfl (by first | rfl | assumption) (pure_loadN Tryz.isAgg24 Tryz.sizeOf24 (.tmp _ _ rfl) (Nat.le_of_ble_eq_true rfl)) ?_) | (refine AList.gs rfl rfl rfl (by first | rfl | assumption) (step_loadN Tryz.isAgg24 Tryz.sizeOf24 (.tmp _ _ rfl) (by first | assumption | exact (by assumption : Heap.le _ _).objs _ _ (by assumption) | exact Heap.objs_set_same _ _ _ | exact (Heap.objs_set_ne _ _ (by assumption)).trans (Heap.objs_set_same _ _ _) | exact (Heap.objs_set_ne _ _ (by assumption)).trans ((Heap.objs_set_ne _ _ (by assumption)).trans (Heap.objs_set_same _ _ _)) | exact (Heap.objs_set_ne _ _ (by assumption)).trans (by assumption)) (Nat.le_of_ble_eq_true rfl)) ?_; rintro _ _ ⟨rfl, hH⟩; obtain rfl := hH.symm)
          refine AList.gs rfl rfl rfl (by first | rfl | assumption) (step_call0 Tryz.call19 (.cons (.tmp _ _ rfl) (.cons (ev_str rfl) (.cons (.tmp _ _ rfl) (.cons (.tmp _ _ rfl) .nil)))) (BinCmp_calls _ _ (by simp) a b a0 a1 b0 b1 ta tb _)) ?_
          rintro _ _ ⟨rfl, hH⟩
          obtain rfl := hH.symm
          refine AList.gp rfl rfl rfl (by first | rfl | assumption) (pure_move (.tmp _ _ rfl)) ?_
          refine AList.gp rfl rfl rfl (by first | rfl | assumption) (pure_neq (.tmp _ _ rfl) ev_int) ?_
          refine AList.gs rfl rfl rfl (by first | rfl | assumption) (step_call0 Tryz.call20 (.cons (.tmp _ _ rfl) .nil) (is_calls _ _)) ?_
          rintro _ _ ⟨rfl, hH⟩
          obtain rfl := hH.symm
          refine AList.gp rfl rfl rfl (by first | rfl | assumption) (pure_neqA Tryz.eqGuardType24 (.tmp _ _ rfl) (.tmp _ _ rfl) (eqVal (BinCmp [60, 62] a b) (BoolV (decide (CompareV a b ≠ 0))))) ?_
          refine AList.p rfl (pure_pickF (.tmp _ _ rfl) (by first | rfl | assumption) (.tmp _ _ rfl)) ?_
          refine AList.p rfl (pure_move (.tmp _ _ rfl)) ?_
          refine AList.gp rfl rfl rfl (by first | rfl | assumption) (pure_move (.tmp _ _ rfl)) ?_
          first | (refine AList.gp rfl rfl rfl (by first | rfl | assumption) (pure_loadN Tryz.isAgg24 Tryz.sizeOf24 (.tmp _ _ rfl) (Nat.le_of_ble_eq_true rfl)) ?_) | (refine AList.gs rfl rfl rfl (by first | rfl | assumption) (step_loadN Tryz.isAgg24 Tryz.sizeOf24 (.tmp _ _ rfl) (by first | assumption | exact (by assumption : Heap.le _ _).objs _ _ (by assumption) | exact Heap.objs_set_same _ _ _ | exact (Heap.objs_set_ne _ _ (by assumption)).trans (Heap.objs_set_same _ _ _) | exact (Heap.objs_set_ne _ _ (by assumption)).trans ((Heap.objs_set_ne _ _ (by assumption)).trans (Heap.objs_set_same _ _ _)) | exact (Heap.objs_set_ne _ _ (by assumption)).trans (by assumption)) (Nat.le_of_ble_eq_true rfl)) ?_; rintro _ _ ⟨rfl, hH⟩; obtain rfl := hH.symm)
          first | (refine AList.gp rfl rfl rfl (by first | rfl | assumption) (pure_loadN Tryz.isAgg24 Tryz.sizeOf24 (.tmp _ _ rfl) (Nat.le_of_ble_eq_true rfl)) ?_) | (refine AList.gs rfl rfl rfl (by first | rfl | assumption) (step_loadN Tryz.isAgg24 Tryz.sizeOf24 (.tmp _ _ rfl) (by first | assumption | exact (by assumption : Heap.le _ _).objs _ _ (by assumption) | exact Heap.objs_set_same _ _ _ | exact (Heap.objs_set_ne _ _ (by assumption)).trans (Heap.objs_set_same _ _ _) | exact (Heap.objs_set_ne _ _ (by assumption)).trans ((Heap.objs_set_ne _ _ (by assumption)).trans (Heap.objs_set_same _ _ _)) | exact (Heap.objs_set_ne _ _ (by assumption)).trans (by assumption)) (Nat.le_of_ble_eq_true rfl)) ?_; rintro _ _ ⟨rfl, hH⟩; obtain rfl := hH.symm)
          refine AList.gs rfl rfl rfl (by first | rfl | assumption) (step_call0 Tryz.call19 (.cons (.tmp _ _ rfl) (.cons (ev_str rfl) (.cons (.tmp _ _ rfl) (.cons (.tmp _ _ rfl) .nil)))) (BinCmp_calls _ _ (by simp) a b a0 a1 b0 b1 ta tb _)) ?_
          rintro _ _ ⟨rfl, hH⟩
          obtain rfl := hH.symm
          refine AList.gp rfl rfl rfl (by first | rfl | assumption) (pure_move (.tmp _ _ rfl)) ?_
          refine AList.gp rfl rfl rfl (by first | rfl | assumption) (pure_leq (.tmp _ _ rfl) ev_int) ?_
          refine AList.gs rfl rfl rfl (by first | rfl | assumption) (step_call0 Tryz.call20 (.cons (.tmp _ _ rfl) .nil) (is_calls _ _)) ?_
          rintro _ _ ⟨rfl, hH⟩
          obtain rfl := hH.symm
          refine AList.gp rfl rfl rfl (by first | rfl | assumption) (pure_neqA Tryz.eqGuardType24 (.tmp _ _ rfl) (.tmp _ _ rfl) (eqVal (BinCmp [60, 61] a b) (BoolV (decide (CompareV a b ≤ 0))))) ?_
          refine AList.p rfl (pure_pickF (.tmp _ _ rfl) (by first | rfl | assumption) (.tmp _ _ rfl)) ?_
          refine AList.p rfl (pure_move (.tmp _ _ rfl)) ?_
          refine AList.gp rfl rfl rfl (by first | rfl | assumption) (pure_move (.tmp _ _ rfl)) ?_
          first | (refine AList.gp rfl rfl rfl (by first | rfl | assumption) (pure_loadN Tryz.isAgg24 Tryz.sizeOf24 (.tmp _ _ rfl) (Nat.le_of_ble_eq_true rfl)) ?_) | (refine AList.gs rfl rfl rfl (by first | rfl | assumption) (step_loadN Tryz.isAgg24 Tryz.sizeOf24 (.tmp _ _ rfl) (by first | assumption | exact (by assumption : Heap.le _ _).objs _ _ (by assumption) | exact Heap.objs_set_same _ _ _ | exact (Heap.objs_set_ne _ _ (by assumption)).trans (Heap.objs_set_same _ _ _) | exact (Heap.objs_set_ne _ _ (by assumption)).trans ((Heap.objs_set_ne _ _ (by assumption)).trans (Heap.objs_set_same _ _ _)) | exact (Heap.objs_set_ne _ _ (by assumption)).trans (by assumption)) (Nat.le_of_ble_eq_true rfl)) ?_; rintro _ _ ⟨rfl, hH⟩; obtain rfl := hH.symm)
          first | (refine AList.gp rfl rfl rfl (by first | rfl | assumption) (pure_loadN Tryz.isAgg24 Tryz.sizeOf24 (.tmp _ _ rfl) (Nat.le_of_ble_eq_true rfl)) ?_) | (refine AList.gs rfl rfl rfl (by first | rfl | assumption) (step_loadN Tryz.isAgg24 Tryz.sizeOf24 (.tmp _ _ rfl) (by first | assumption | exact (by assumption : Heap.le _ _).objs _ _ (by assumption) | exact Heap.objs_set_same _ _ _ | exact (Heap.objs_set_ne _ _ (by assumption)).trans (Heap.objs_set_same _ _ _) | exact (Heap.objs_set_ne _ _ (by assumption)).trans ((Heap.objs_set_ne _ _ (by assumption)).trans (Heap.objs_set_same _ _ _)) | exact (Heap.objs_set_ne _ _ (by assumption)).trans (by assumption)) (Nat.le_of_ble_eq_true rfl)) ?_; rintro _ _ ⟨rfl, hH⟩; obtain rfl := hH.symm)
          refine AList.gs rfl rfl rfl (by first | rfl | assumption) (step_call0 Tryz.call19 (.cons (.tmp _ _ rfl) (.cons (ev_str rfl) (.cons (.tmp _ _ rfl) (.cons (.tmp _ _ rfl) .nil)))) (BinCmp_calls _ _ (by simp) a b a0 a1 b0 b1 ta tb _)) ?_
          rintro _ _ ⟨rfl, hH⟩
          obtain rfl := hH.symm
          refine AList.gp rfl rfl rfl (by first | rfl | assumption) (pure_move (.tmp _ _ rfl)) ?_
          refine AList.gp rfl rfl rfl (by first | rfl | assumption) (pure_gtr (.tmp _ _ rfl) ev_int) ?_
          refine AList.gs rfl rfl rfl (by first | rfl | assumption) (step_call0 Tryz.call20 (.cons (.tmp _ _ rfl) .nil) (is_calls _ _)) ?_
          rintro _ _ ⟨rfl, hH⟩
          obtain rfl := hH.symm
          refine AList.gp rfl rfl rfl (by first | rfl | assumption) (pure_neqA Tryz.eqGuardType24 (.tmp _ _ rfl) (.tmp _ _ rfl) (eqVal (BinCmp [62] a b) (BoolV (decide (0 < CompareV a b))))) ?_
          refine AList.p rfl (pure_pickF (.tmp _ _ rfl) (by first | rfl | assumption) (.tmp _ _ rfl)) ?_
          refine AList.nil ?_
          refine Next.go ?_
          -- c3
          refine AWP.cond_false (.tmp _ _ rfl) (by first | rfl | assumption) ?_
          refine AWP.skip ?_
          refine Next.go ?_
          refine AWP.seq ?_
          refine AWP.seqTo 154 (.bool (decide (a.kind = 0) || decide (b.kind = 0) || decide (c.kind = 0) || decide (c.kind = 4))) [3, 4, 5, 6, 13, 14] ?_ ?_
          · -- region 16
            refine AWP.region ?_
            first | (refine AList.p rfl (pure_fieldI Tryz.underlying24 rfl Tryz.sizeOf3 (.tmp _ _ rfl)) ?_) | (refine AList.p rfl (pure_field Tryz.underlying24 rfl Tryz.sizeOf3 (.tmp _ _ rfl)) ?_)
            first | (refine AList.p rfl (pure_load1 Tryz.isAgg3 (.tmp _ _ rfl)) ?_) | (refine AList.s rfl (step_load1 Tryz.isAgg3 (.tmp _ _ rfl) (by first | assumption | exact (by assumption : Heap.le _ _).objs _ _ (by assumption) | exact Heap.objs_set_same _ _ _ | exact (Heap.objs_set_ne _ _ (by assumption)).trans (Heap.objs_set_same _ _ _) | exact (Heap.objs_set_ne _ _ (by assumption)).trans ((Heap.objs_set_ne _ _ (by assumption)).trans (Heap.objs_set_same _ _ _)) | exact (Heap.objs_set_ne _ _ (by assumption)).trans (by assumption)) rfl) ?_; rintro _ _ ⟨rfl, hH⟩; obtain rfl := hH.symm)
            refine AList.p rfl (pure_eql (.tmp _ _ rfl) ev_int) ?_
            refine AList.p rfl (pure_move (.tmp _ _ rfl)) ?_
            -- the guard in slot 140
            refine bool_casesL (t := 140) rfl (fun hg140 => ?_) (fun hg140 => ?_)
            · have hh140 := hg140; try simp only [decide_eq_true_eq] at hh140
              refine AList.gn rfl rfl rfl (by first | rfl | assumption) ?_
              refine AList.gn rfl rfl rfl (by first | rfl | assumption) ?_
              refine AList.gn rfl rfl rfl (by first | rfl | assumption) ?_
              refine AList.p rfl (pure_pickT (.tmp _ _ rfl) (by first | rfl | assumption) ev_bool) ?_
              refine AList.p rfl (pure_move (.tmp _ _ rfl)) ?_
              refine AList.gn rfl rfl rfl (by first | rfl | assumption) ?_
              refine AList.gn rfl rfl rfl (by first | rfl | assumption) ?_
              refine AList.gn rfl rfl rfl (by first | rfl | assumption) ?_
              refine AList.p rfl (pure_pickT (.tmp _ _ rfl) (by first | rfl | assumption) ev_bool) ?_
              refine AList.p rfl (pure_move (.tmp _ _ rfl)) ?_
              refine AList.gn rfl rfl rfl (by first | rfl | assumption) ?_
              refine AList.gn rfl rfl rfl (by first | rfl | assumption) ?_
              refine AList.gn rfl rfl rfl (by first | rfl | assumption) ?_
              refine AList.p rfl (pure_pickT (.tmp _ _ rfl) (by first | rfl | assumption) ev_bool) ?_
              refine AList.nil ?_
              exact ⟨rfl, sub_b rfl (by first | (simp [*]; done) | (simp; omega) | simp_all) (sub_c rfl (sub_c rfl (sub_c rfl (sub_c rfl (sub_c rfl (sub_c rfl sub_n)))))), rfl⟩
            · have hh140 := hg140; try simp only [decide_eq_false_iff_not] at hh140
              first | (refine AList.gp rfl rfl rfl (by first | rfl | assumption) (pure_fieldI Tryz.underlying24 rfl Tryz.sizeOf3 (.tmp _ _ rfl)) ?_) | (refine AList.gp rfl rfl rfl (by first | rfl | assumption) (pure_field Tryz.underlying24 rfl Tryz.sizeOf3 (.tmp _ _ rfl)) ?_)
              first | (refine AList.gp rfl rfl rfl (by first | rfl | assumption) (pure_load1 Tryz.isAgg3 (.tmp _ _ rfl)) ?_) | (refine AList.gs rfl rfl rfl (by first | rfl | assumption) (step_load1 Tryz.isAgg3 (.tmp _ _ rfl) (by first | assumption | exact (by assumption : Heap.le _ _).objs _ _ (by assumption) | exact Heap.objs_set_same _ _ _ | exact (Heap.objs_set_ne _ _ (by assumption)).trans (Heap.objs_set_same _ _ _) | exact (Heap.objs_set_ne _ _ (by assumption)).trans ((Heap.objs_set_ne _ _ (by assumption)).trans (Heap.objs_set_same _ _ _)) | exact (Heap.objs_set_ne _ _ (by assumption)).trans (by assumption)) rfl) ?_; rintro _ _ ⟨rfl, hH⟩; obtain rfl := hH.symm)
              refine AList.gp rfl rfl rfl (by first | rfl | assumption) (pure_eql (.tmp _ _ rfl) ev_int) ?_
              refine AList.p rfl (pure_pickF (.tmp _ _ rfl) (by first | rfl | assumption) (.tmp _ _ rfl)) ?_
              refine AList.p rfl (pure_move (.tmp _ _ rfl)) ?_
              -- the guard in slot 145
              refine bool_casesL (t := 145) rfl (fun hg145 => ?_) (fun hg145 => ?_)
              · have hh145 := hg145; try simp only [decide_eq_true_eq] at hh145
                refine AList.gn rfl rfl rfl (by first | rfl | assumption) ?_
                refine AList.gn rfl rfl rfl (by first | rfl | assumption) ?_
                refine AList.gn rfl rfl rfl (by first | rfl | assumption) ?_
                refine AList.p rfl (pure_pickT (.tmp _ _ rfl) (by first | rfl | assumption) ev_bool) ?_
                refine AList.p rfl (pure_move (.tmp _ _ rfl)) ?_
                refine AList.gn rfl rfl rfl (by first | rfl | assumption) ?_
                refine AList.gn rfl rfl rfl (by first | rfl | assumption) ?_
                refine AList.gn rfl rfl rfl (by first | rfl | assumption) ?_
                refine AList.p rfl (pure_pickT (.tmp _ _ rfl) (by first | rfl | assumption) ev_bool) ?_
                refine AList.nil ?_
                exact ⟨rfl, sub_b rfl (by first | (simp [*]; done) | (simp; omega) | simp_all) (sub_c rfl (sub_c rfl (sub_c rfl (sub_c rfl (sub_c rfl (sub_c rfl sub_n)))))), rfl⟩
              · have hh145 := hg145; try simp only [decide_eq_false_iff_not] at hh145
                first | (refine AList.gp rfl rfl rfl (by first | rfl | assumption) (pure_fieldI Tryz.underlying24 rfl Tryz.sizeOf3 (.tmp _ _ rfl)) ?_) | (refine AList.gp rfl rfl rfl (by first | rfl | assumption) (pure_field Tryz.underlying24 rfl Tryz.sizeOf3 (.tmp _ _ rfl)) ?_)
                first | (refine AList.gp rfl rfl rfl (by first | rfl | assumption) (pure_load1 Tryz.isAgg3 (.tmp _ _ rfl)) ?_) | (refine AList.gs rfl rfl rfl (by first | rfl | assumption) (step_load1 Tryz.isAgg3 (.tmp _ _ rfl) (by first | assumption | exact (by assumption : Heap.le _ _).objs _ _ (by assumption) | exact Heap.objs_set_same _ _ _ | exact (Heap.objs_set_ne _ _ (by assumption)).trans (Heap.objs_set_same _ _ _) | exact (Heap.objs_set_ne _ _ (by assumption)).trans ((Heap.objs_set_ne _ _ (by assumption)).trans (Heap.objs_set_same _ _ _)) | exact (Heap.objs_set_ne _ _ (by assumption)).trans (by assumption)) rfl) ?_; rintro _ _ ⟨rfl, hH⟩; obtain rfl := hH.symm)
                refine AList.gp rfl rfl rfl (by first | rfl | assumption) (pure_eql (.tmp _ _ rfl) ev_int) ?_
                refine AList.p rfl (pure_pickF (.tmp _ _ rfl) (by first | rfl | assumption) (.tmp _ _ rfl)) ?_
                refine AList.p rfl (pure_move (.tmp _ _ rfl)) ?_
                -- the guard in slot 150
                refine bool_casesL (t := 150) rfl (fun hg150 => ?_) (fun hg150 => ?_)
                · have hh150 := hg150; try simp only [decide_eq_true_eq] at hh150
                  refine AList.gn rfl rfl rfl (by first | rfl | assumption) ?_
                  refine AList.gn rfl rfl rfl (by first | rfl | assumption) ?_
                  refine AList.gn rfl rfl rfl (by first | rfl | assumption) ?_
                  refine AList.p rfl (pure_pickT (.tmp _ _ rfl) (by first | rfl | assumption) ev_bool) ?_
                  refine AList.nil ?_
                  exact ⟨rfl, sub_b rfl (by first | (simp [*]; done) | (simp; omega) | simp_all) (sub_c rfl (sub_c rfl (sub_c rfl (sub_c rfl (sub_c rfl (sub_c rfl sub_n)))))), rfl⟩
                · have hh150 := hg150; try simp only [decide_eq_false_iff_not] at hh150
                  first | (refine AList.gp rfl rfl rfl (by first | rfl | assumption) (pure_fieldI Tryz.underlying24 rfl Tryz.sizeOf3 (.tmp _ _ rfl)) ?_) | (refine AList.gp rfl rfl rfl (by first | rfl | assumption) (pure_field Tryz.underlying24 rfl Tryz.sizeOf3 (.tmp _ _ rfl)) ?_)
                  first | (refine AList.gp rfl rfl rfl (by first | rfl | assumption) (pure_load1 Tryz.isAgg3 (.tmp _ _ rfl)) ?_) | (refine AList.gs rfl rfl rfl (by first | rfl | assumption) (step_load1 Tryz.isAgg3 (.tmp _ _ rfl) (by first | assumption | exact (by assumption : Heap.le _ _).objs _ _ (by assumption) | exact Heap.objs_set_same _ _ _ | exact (Heap.objs_set_ne _ _ (by assumption)).trans (Heap.objs_set_same _ _ _) | exact (Heap.objs_set_ne _ _ (by assumption)).trans ((Heap.objs_set_ne _ _ (by assumption)).trans (Heap.objs_set_same _ _ _)) | exact (Heap.objs_set_ne _ _ (by assumption)).trans (by assumption)) rfl) ?_; rintro _ _ ⟨rfl, hH⟩; obtain rfl := hH.symm)
                  refine AList.gp rfl rfl rfl (by first | rfl | assumption) (pure_eql (.tmp _ _ rfl) ev_int) ?_
                  refine AList.p rfl (pure_pickF (.tmp _ _ rfl) (by first | rfl | assumption) (.tmp _ _ rfl)) ?_
                  refine AList.nil ?_
                  exact ⟨rfl, sub_b rfl (by first | (simp [*]; done) | (simp; omega) | simp_all) (sub_c rfl (sub_c rfl (sub_c rfl (sub_c rfl (sub_c rfl (sub_c rfl sub_n)))))), rfl⟩
          · refine AWP.sub [(154, _), (3, _), (4, _), (5, _), (6, _), (13, _), (14, _)] (sub_c rfl (sub_c rfl (sub_c rfl (sub_c rfl (sub_c rfl (sub_c rfl (sub_c rfl sub_n))))))) ?_
            -- c4
            refine AWP.cond (.tmp _ _ rfl) (fun hc154 => ?_) (fun hc154 => ?_)
            · try simp only [decide_eq_true_eq, decide_eq_false_iff_not, Bool.not_eq_true', Bool.not_eq_false', Int.not_lt, Int.not_le, ne_eq, Decidable.not_not] at hc154
              simp only [Bool.or_eq_true, decide_eq_true_eq] at hc154
              refine AWP.seq ?_
              -- region 17
              refine AWP.region ?_
              refine AList.p rfl (pure_assign ev_bool) ?_
              refine AList.nil ?_
              refine Next.go ?_
              refine AWP.ret ?_
              refine Next.rt ?_
              -- ret 2
              refine Ret.go (.cons (.tmp _ _ rfl) .nil) _ (Heap.le.refl _) ?_
              exact ⟨rfl, rfl⟩
            · try simp only [decide_eq_true_eq, decide_eq_false_iff_not, Bool.not_eq_true', Bool.not_eq_false', Int.not_lt, Int.not_le, ne_eq, Decidable.not_not] at hc154
              simp only [Bool.or_eq_false_iff, decide_eq_false_iff_not] at hc154
              refine AWP.skip ?_
              refine Next.go ?_
              refine AWP.seqTo 6 (.bool (decide (0 < CompareV a b) || decide (0 < CompareV b c) || decide (CompareV a c ≤ 0))) [] ?_ ?_
              · -- region 18
                refine AWP.region ?_
                refine AList.p rfl (pure_move (.tmp _ _ rfl)) ?_
                refine AList.p rfl (pure_gtr (.tmp _ _ rfl) ev_int) ?_
                refine AList.p rfl (pure_move (.tmp _ _ rfl)) ?_
                -- the guard in slot 157
                refine bool_casesL (t := 157) rfl (fun hg157 => ?_) (fun hg157 => ?_)
                · have hh157 := hg157; try simp only [decide_eq_true_eq] at hh157
                  refine AList.gn rfl rfl rfl (by first | rfl | assumption) ?_
                  refine AList.gn rfl rfl rfl (by first | rfl | assumption) ?_
                  refine AList.gn rfl rfl rfl (by first | rfl | assumption) ?_
                  refine AList.gn rfl rfl rfl (by first | rfl | assumption) ?_
                  refine AList.gn rfl rfl rfl (by first | rfl | assumption) ?_
                  refine AList.p rfl (pure_pickT (.tmp _ _ rfl) (by first | rfl | assumption) ev_bool) ?_
                  refine AList.p rfl (pure_move (.tmp _ _ rfl)) ?_
                  refine AList.gn rfl rfl rfl (by first | rfl | assumption) ?_
                  refine AList.gn rfl rfl rfl (by first | rfl | assumption) ?_
                  refine AList.gn rfl rfl rfl (by first | rfl | assumption) ?_
                  refine AList.gn rfl rfl rfl (by first | rfl | assumption) ?_
                  refine AList.gn rfl rfl rfl (by first | rfl | assumption) ?_
                  refine AList.p rfl (pure_pickT (.tmp _ _ rfl) (by first | rfl | assumption) ev_bool) ?_
                  refine AList.p rfl (pure_assign (.tmp _ _ rfl)) ?_
                  refine AList.nil ?_
                  exact ⟨rfl, sub_b rfl (by first | (simp [*]; done) | (simp; omega) | simp_all) sub_n, rfl⟩
                · have hh157 := hg157; try simp only [decide_eq_false_iff_not, Int.not_lt] at hh157
                  refine AList.gp rfl rfl rfl (by first | rfl | assumption) (pure_move (.tmp _ _ rfl)) ?_
                  first | (refine AList.gp rfl rfl rfl (by first | rfl | assumption) (pure_loadN Tryz.isAgg24 Tryz.sizeOf24 (.tmp _ _ rfl) (Nat.le_of_ble_eq_true rfl)) ?_) | (refine AList.gs rfl rfl rfl (by first | rfl | assumption) (step_loadN Tryz.isAgg24 Tryz.sizeOf24 (.tmp _ _ rfl) (by first | assumption | exact (by assumption : Heap.le _ _).objs _ _ (by assumption) | exact Heap.objs_set_same _ _ _ | exact (Heap.objs_set_ne _ _ (by assumption)).trans (Heap.objs_set_same _ _ _) | exact (Heap.objs_set_ne _ _ (by assumption)).trans ((Heap.objs_set_ne _ _ (by assumption)).trans (Heap.objs_set_same _ _ _)) | exact (Heap.objs_set_ne _ _ (by assumption)).trans (by assumption)) (Nat.le_of_ble_eq_true rfl)) ?_; rintro _ _ ⟨rfl, hH⟩; obtain rfl := hH.symm)
                  first | (refine AList.gp rfl rfl rfl (by first | rfl | assumption) (pure_loadN Tryz.isAgg24 Tryz.sizeOf24 (.tmp _ _ rfl) (Nat.le_of_ble_eq_true rfl)) ?_) | (refine AList.gs rfl rfl rfl (by first | rfl | assumption) (step_loadN Tryz.isAgg24 Tryz.sizeOf24 (.tmp _ _ rfl) (by first | assumption | exact (by assumption : Heap.le _ _).objs _ _ (by assumption) | exact Heap.objs_set_same _ _ _ | exact (Heap.objs_set_ne _ _ (by assumption)).trans (Heap.objs_set_same _ _ _) | exact (Heap.objs_set_ne _ _ (by assumption)).trans ((Heap.objs_set_ne _ _ (by assumption)).trans (Heap.objs_set_same _ _ _)) | exact (Heap.objs_set_ne _ _ (by assumption)).trans (by assumption)) (Nat.le_of_ble_eq_true rfl)) ?_; rintro _ _ ⟨rfl, hH⟩; obtain rfl := hH.symm)
                  refine AList.gs rfl rfl rfl (by first | rfl | assumption) (step_call0 Tryz.call18 (.cons (.tmp _ _ rfl) (.cons (.tmp _ _ rfl) (.cons (.tmp _ _ rfl) .nil))) (by first | exact Compare_calls _ a b a0 a1 b0 b1 ta tb _ | exact Compare_calls _ b a b0 b1 a0 a1 tb ta _ | exact Compare_calls _ a a a0 a1 a0 a1 ta ta _ | exact Compare_calls _ b c b0 b1 c0 c1 tb tc _ | exact Compare_calls _ a c a0 a1 c0 c1 ta tc _)) ?_
                  rintro _ _ ⟨rfl, hH⟩
                  obtain rfl := hH.symm
                  refine AList.gp rfl rfl rfl (by first | rfl | assumption) (pure_gtr (.tmp _ _ rfl) ev_int) ?_
                  refine AList.p rfl (pure_pickF (.tmp _ _ rfl) (by first | rfl | assumption) (.tmp _ _ rfl)) ?_
                  refine AList.p rfl (pure_move (.tmp _ _ rfl)) ?_
                  -- the guard in slot 164
                  refine bool_casesL (t := 164) rfl (fun hg164 => ?_) (fun hg164 => ?_)
                  · have hh164 := hg164; try simp only [decide_eq_true_eq] at hh164
                    refine AList.gn rfl rfl rfl (by first | rfl | assumption) ?_
                    refine AList.gn rfl rfl rfl (by first | rfl | assumption) ?_
                    refine AList.gn rfl rfl rfl (by first | rfl | assumption) ?_
                    refine AList.gn rfl rfl rfl (by first | rfl | assumption) ?_
                    refine AList.gn rfl rfl rfl (by first | rfl | assumption) ?_
                    refine AList.p rfl (pure_pickT (.tmp _ _ rfl) (by first | rfl | assumption) ev_bool) ?_
                    refine AList.p rfl (pure_assign (.tmp _ _ rfl)) ?_
                    refine AList.nil ?_
                    exact ⟨rfl, sub_b rfl (by first | (simp [*]; done) | (simp; omega) | simp_all) sub_n, rfl⟩
                  · have hh164 := hg164; try simp only [decide_eq_false_iff_not, Int.not_lt] at hh164
                    refine AList.gp rfl rfl rfl (by first | rfl | assumption) (pure_move (.tmp _ _ rfl)) ?_
                    first | (refine AList.gp rfl rfl rfl (by first | rfl | assumption) (pure_loadN Tryz.isAgg24 Tryz.sizeOf24 (.tmp _ _ rfl) (Nat.le_of_ble_eq_true rfl)) ?_) | (refine AList.gs rfl rfl rfl (by first | rfl | assumption) (step_loadN Tryz.isAgg24 Tryz.sizeOf24 (.tmp _ _ rfl) (by first | assumption | exact (by assumption : Heap.le _ _).objs _ _ (by assumption) | exact Heap.objs_set_same _ _ _ | exact (Heap.objs_set_ne _ _ (by assumption)).trans (Heap.objs_set_same _ _ _) | exact (Heap.objs_set_ne _ _ (by assumption)).trans ((Heap.objs_set_ne _ _ (by assumption)).trans (Heap.objs_set_same _ _ _)) | exact (Heap.objs_set_ne _ _ (by assumption)).trans (by assumption)) (Nat.le_of_ble_eq_true rfl)) ?_; rintro _ _ ⟨rfl, hH⟩; obtain rfl := hH.symm)
                    first | (refine AList.gp rfl rfl rfl (by first | rfl | assumption) (pure_loadN Tryz.isAgg24 Tryz.sizeOf24 (.tmp _ _ rfl) (Nat.le_of_ble_eq_true rfl)) ?_) | (refine AList.gs rfl rfl rfl (by first | rfl | assumption) (step_loadN Tryz.isAgg24 Tryz.sizeOf24 (.tmp _ _ rfl) (by first | assumption | exact (by assumption : Heap.le _ _).objs _ _ (by assumption) | exact Heap.objs_set_same _ _ _ | exact (Heap.objs_set_ne _ _ (by assumption)).trans (Heap.objs_set_same _ _ _) | exact (Heap.objs_set_ne _ _ (by assumption)).trans ((Heap.objs_set_ne _ _ (by assumption)).trans (Heap.objs_set_same _ _ _)) | exact (Heap.objs_set_ne _ _ (by assumption)).trans (by assumption)) (Nat.le_of_ble_eq_true rfl)) ?_; rintro _ _ ⟨rfl, hH⟩; obtain rfl := hH.symm)
                    refine AList.gs rfl rfl rfl (by first | rfl | assumption) (step_call0 Tryz.call18 (.cons (.tmp _ _ rfl) (.cons (.tmp _ _ rfl) (.cons (.tmp _ _ rfl) .nil))) (by first | exact Compare_calls _ a b a0 a1 b0 b1 ta tb _ | exact Compare_calls _ b a b0 b1 a0 a1 tb ta _ | exact Compare_calls _ a a a0 a1 a0 a1 ta ta _ | exact Compare_calls _ b c b0 b1 c0 c1 tb tc _ | exact Compare_calls _ a c a0 a1 c0 c1 ta tc _)) ?_
                    rintro _ _ ⟨rfl, hH⟩
                    obtain rfl := hH.symm
                    refine AList.gp rfl rfl rfl (by first | rfl | assumption) (pure_leq (.tmp _ _ rfl) ev_int) ?_
                    refine AList.p rfl (pure_pickF (.tmp _ _ rfl) (by first | rfl | assumption) (.tmp _ _ rfl)) ?_
                    refine AList.p rfl (pure_assign (.tmp _ _ rfl)) ?_
                    refine AList.nil ?_
                    exact ⟨rfl, sub_b rfl (by first | (simp [*]; done) | (simp; omega) | simp_all) sub_n, rfl⟩
              · refine AWP.sub [(6, _)] (sub_c rfl sub_n) ?_
                refine AWP.ret ?_
                -- ret 3
                refine Ret.go (.cons (.tmp _ _ rfl) .nil) _ (Heap.le.refl _) ?_
                refine ⟨?_, rfl⟩
                show AV.bool _ = AV.bool true
                by_cases h1 : CompareV a b ≤ 0
                · by_cases h2 : CompareV b c ≤ 0
                  · simp [compare_trans ra rb rc hc154.1.1.1 hc76.1 hc154.1.1.2 hc76.2 hc154.1.2 hc154.2 h1 h2]
                  · simp [show 0 < CompareV b c by omega]
                · simp [show 0 < CompareV a b by omega]

end Go.Proofs.YtncoklpecffokaaGreatDoor
