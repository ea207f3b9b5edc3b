/-
  Values as truths: the sign of a number; texts in capitals.
-/
import Derived.Test.YtifoddpbmlajfaaGreatDoorV1
import Derived.Test.YtifoddpbmlajfaaGreatDoorS6
namespace Go.Proofs.YtifoddpbmlajfaaGreatDoor
open Go Go.RowKit

def nanN : Nat := 9221120237041090560
def orderN (x : Nat) : Int := if 9223372036854775808 ≤ x then -(((if kindN x = 4 then nanN else x % 9223372036854775808 : Nat) : Nat) : Int) else (x : Int)
def fcmpN (a b : Nat) : Int := if kindN a = 4 ∨ kindN b = 4 then 0 else if orderN a < orderN b then -1 else if orderN b < orderN a then 1 else 0
def fsignN (x : Nat) : Int := fcmpN x 0
def toBoolV (v : Val) : Bool × Int :=
  if v.kind = 1 then (decide (fsignN v.bits ≠ 0), 0) else if v.kind = 3 then (if capL v.text = wordL true then (true, 0) else if capL v.text = wordL false then (false, 0) else (false, 3)) else (v.is, v.fail)

theorem and_sign {a : Nat} (h : a < 18446744073709551616) : a - (a &&& 9223372036854775808) = a % 9223372036854775808 := by
  have e : a &&& 9223372036854775808 = if a.testBit 63 then 9223372036854775808 else 0 := by
    apply Nat.eq_of_testBit_eq
    intro i
    rw [Nat.testBit_and, show (9223372036854775808 : Nat) = 2 ^ 63 by decide, Nat.testBit_two_pow]
    by_cases hi : 63 = i
    · subst hi
      cases a.testBit 63
      · simp
      · simp only [decide_true, Bool.and_self, if_true]; rw [Nat.testBit_two_pow]; simp
    · cases a.testBit 63
      · simp [hi]
      · simp only [hi, decide_false, Bool.and_false, if_true]; rw [Nat.testBit_two_pow]; simp [hi]
  rw [e, Nat.testBit_eq_decide_div_mod_eq]
  have h2 : (2 : Nat) ^ 63 = 9223372036854775808 := by decide
  rw [h2]
  split <;> simp_all <;> omega
def absN (x : Nat) : Nat := if kindN x = 4 then nanN else x % 9223372036854775808
theorem abs_63 (x : Nat) : absN x < 9223372036854775808 := by
  unfold absN nanN; split <;> omega
theorem order_neg {x : Nat} (h : 9223372036854775808 ≤ x) : orderN x = -((absN x : Nat) : Int) := if_pos h
theorem order_pos {x : Nat} (h : ¬ 9223372036854775808 ≤ x) : orderN x = (x : Int) := if_neg h

set_option maxRecDepth 100000 in
theorem fAbs_calls (a : Nat) (ha : a < 18446744073709551616) (H : Heap) : ACall Tryz.prog 74 [.int .u64 (a : Int)] H (fun y H' => y = .int .u64 ((absN a : Nat) : Int) ∧ H' = H) := by
  refine ACall.of_body Tryz.func74 rfl Tryz.ntmps74 Tryz.results74 rfl ?_
  refine AWP.seq ?_
  -- region 0
  refine AWP.region ?_
  refine AList.p rfl (pure_assign (ev_nat 0)) ?_
  refine AList.nil ?_
  refine Next.go ?_
  refine AWP.seq ?_
  refine AWP.seq ?_
  -- region 1
  refine AWP.region ?_
  refine AList.p rfl (pure_move (.tmp _ _ rfl)) ?_
  refine AList.s rfl (step_call0 Tryz.call35 (.cons (.tmp _ _ rfl) .nil) (Kind_calls _ (by assumption) _)) ?_
  rintro _ _ ⟨rfl, hH⟩
  obtain rfl := hH.symm
  refine AList.p rfl (pure_eql (.tmp _ _ rfl) ev_int) ?_
  refine AList.nil ?_
  refine Next.go ?_
  -- c0
  refine AWP.cond (.tmp _ _ rfl) (fun hc5 => ?_) (fun hc5 => ?_)
  · try simp only [decide_eq_true_eq] at hc5
    refine AWP.seq ?_
    -- region 2
    refine AWP.region ?_
    refine AList.p rfl (pure_assign (ev_nat 9221120237041090560)) ?_
    refine AList.nil ?_
    refine Next.go ?_
    refine AWP.ret ?_
    refine Next.rt ?_
    -- ret 0
    refine Ret.go (.cons (.tmp _ _ rfl) .nil) _ (Heap.le.refl _) ?_
    refine ⟨?_, rfl⟩
    unfold absN
    first
    | (rw [if_pos (by omega)]; rfl)
    | (rw [if_neg (by omega), ← and_sign ha]; rfl)
  · try simp only [decide_eq_false_iff_not] at hc5
    refine AWP.skip ?_
    refine Next.go ?_
    refine AWP.seq ?_
    -- region 3
    refine AWP.region ?_
    refine AList.p rfl (pure_move (.tmp _ _ rfl)) ?_
    refine AList.p rfl (pure_andNot64 (.tmp _ _ rfl) (ev_nat 9223372036854775808) (by first | assumption | omega) (by first | assumption | omega)) ?_
    refine AList.p rfl (pure_assign (.tmp _ _ rfl)) ?_
    refine AList.nil ?_
    refine Next.go ?_
    refine AWP.ret ?_
    -- ret 1
    refine Ret.go (.cons (.tmp _ _ rfl) .nil) _ (Heap.le.refl _) ?_
    refine ⟨?_, rfl⟩
    unfold absN
    first
    | (rw [if_pos (by omega)]; rfl)
    | (rw [if_neg (by omega), ← and_sign ha]; rfl)

set_option maxRecDepth 100000 in
theorem order_calls (a : Nat) (ha : a < 18446744073709551616) (H : Heap) : ACall Tryz.prog 154 [.int .u64 (a : Int)] H (fun y H' => y = .int .i64 (orderN a) ∧ H' = H) := by
  have hab := abs_63 a
  have h63 : (2 : Nat) ^ 63 = 9223372036854775808 := by decide
  refine ACall.of_body Tryz.func154 rfl Tryz.ntmps154 Tryz.results154 rfl ?_
  refine AWP.seq ?_
  -- region 0
  refine AWP.region ?_
  refine AList.p rfl (pure_assign ev_int) ?_
  refine AList.nil ?_
  refine Next.go ?_
  refine AWP.seq ?_
  refine AWP.seq ?_
  -- region 1
  refine AWP.region ?_
  refine AList.p rfl (pure_move (.tmp _ _ rfl)) ?_
  refine AList.p rfl (pure_shr64 (.tmp _ _ rfl) (ev_nat 63) (by first | assumption | omega)) ?_
  refine AList.p rfl (pure_eql (.tmp _ _ rfl) (ev_nat 1)) ?_
  refine AList.nil ?_
  refine Next.go ?_
  -- c0
  refine AWP.cond (.tmp _ _ rfl) (fun hc5 => ?_) (fun hc5 => ?_)
  · try simp only [decide_eq_true_eq] at hc5
    refine AWP.seq ?_
    -- region 2
    refine AWP.region ?_
    refine AList.p rfl (pure_move (.tmp _ _ rfl)) ?_
    refine AList.s rfl (step_call0 Tryz.call74 (.cons (.tmp _ _ rfl) .nil) (fAbs_calls _ (by assumption) _)) ?_
    rintro _ _ ⟨rfl, hH⟩
    obtain rfl := hH.symm
    refine AList.p rfl (pure_convX Tryz.underlying22 Tryz.underlying3 (.tmp _ _ rfl) (wrapI64 (by omega) (by omega))) ?_
    refine AList.p rfl (pure_neg (.tmp _ _ rfl) (by omega)) ?_
    refine AList.p rfl (pure_assign (.tmp _ _ rfl)) ?_
    refine AList.nil ?_
    refine Next.go ?_
    refine AWP.ret ?_
    refine Next.rt ?_
    -- ret 0
    refine Ret.go (.cons (.tmp _ _ rfl) .nil) _ (Heap.le.refl _) ?_
    refine ⟨?_, rfl⟩
    rw [h63] at hc5
    rw [order_neg (by omega)]; rfl
  · try simp only [decide_eq_false_iff_not] at hc5
    refine AWP.skip ?_
    refine Next.go ?_
    refine AWP.seq ?_
    -- region 3
    refine AWP.region ?_
    refine AList.p rfl (pure_move (.tmp _ _ rfl)) ?_
    refine AList.p rfl (pure_convX Tryz.underlying22 Tryz.underlying3 (.tmp _ _ rfl) (wrapI64 (by omega) (by rw [h63] at hc5; omega))) ?_
    refine AList.p rfl (pure_assign (.tmp _ _ rfl)) ?_
    refine AList.nil ?_
    refine Next.go ?_
    refine AWP.ret ?_
    -- ret 1
    refine Ret.go (.cons (.tmp _ _ rfl) .nil) _ (Heap.le.refl _) ?_
    refine ⟨?_, rfl⟩
    rw [h63] at hc5
    rw [order_pos (by omega)]; rfl

set_option maxRecDepth 100000 in
theorem fCmp_calls (a b : Nat) (ha : a < 18446744073709551616) (hb : b < 18446744073709551616) (H : Heap) : ACall Tryz.prog 110 [.int .u64 (a : Int), .int .u64 (b : Int)] H (fun y H' => y = .tuple [.int .i64 (fcmpN a b), .bool (!decide (kindN a = 4 ∨ kindN b = 4))] ∧ H' = H) := by
  refine ACall.of_body Tryz.func110 rfl Tryz.ntmps110 Tryz.results110 rfl ?_
  refine AWP.seq ?_
  -- region 0
  refine AWP.region ?_
  refine AList.p rfl (pure_assign ev_int) ?_
  refine AList.p rfl (pure_assign ev_bool) ?_
  refine AList.nil ?_
  refine Next.go ?_
  refine AWP.seq ?_
  refine AWP.seqTo 15 (.bool (decide (kindN a = 4 ∨ kindN b = 4))) [0, 1, 4, 5] ?_ ?_
  · -- region 1
    refine AWP.region ?_
    refine AList.p rfl (pure_move (.tmp _ _ rfl)) ?_
    refine AList.s rfl (step_call0 Tryz.call35 (.cons (.tmp _ _ rfl) .nil) (Kind_calls _ (by assumption) _)) ?_
    rintro _ _ ⟨rfl, hH⟩
    obtain rfl := hH.symm
    refine AList.p rfl (pure_eql (.tmp _ _ rfl) ev_int) ?_
    refine AList.p rfl (pure_move (.tmp _ _ rfl)) ?_
    -- the guard in slot 11
    refine bool_casesL (t := 11) rfl (fun hg11 => ?_) (fun hg11 => ?_)
    · have hh11 := hg11; try simp only [decide_eq_true_eq] at hh11
      refine AList.gn rfl rfl rfl (by first | rfl | assumption) ?_
      refine AList.gn rfl rfl rfl (by first | rfl | assumption) ?_
      refine AList.gn rfl rfl rfl (by first | rfl | assumption) ?_
      refine AList.p rfl (pure_pickT (.tmp _ _ rfl) (by first | rfl | assumption) ev_bool) ?_
      refine AList.nil ?_
      exact ⟨rfl, sub_b rfl (by first | (refine Eq.symm ?_; first | exact decide_eq_true (by omega) | exact decide_eq_false (by omega) | exact decide_eq_decide.2 (by omega))) (sub_c rfl (sub_c rfl (sub_c rfl (sub_c rfl sub_n)))), rfl⟩
    · have hh11 := hg11; try simp only [decide_eq_false_iff_not] at hh11
      refine AList.gp rfl rfl rfl (by first | rfl | assumption) (pure_move (.tmp _ _ rfl)) ?_
      refine AList.gs rfl rfl rfl (by first | rfl | assumption) (step_call0 Tryz.call35 (.cons (.tmp _ _ rfl) .nil) (Kind_calls _ (by assumption) _)) ?_
      rintro _ _ ⟨rfl, hH⟩
      obtain rfl := hH.symm
      refine AList.gp rfl rfl rfl (by first | rfl | assumption) (pure_eql (.tmp _ _ rfl) ev_int) ?_
      refine AList.p rfl (pure_pickF (.tmp _ _ rfl) (by first | rfl | assumption) (.tmp _ _ rfl)) ?_
      refine AList.nil ?_
      exact ⟨rfl, sub_b rfl (by first | (refine Eq.symm ?_; first | exact decide_eq_true (by omega) | exact decide_eq_false (by omega) | exact decide_eq_decide.2 (by omega))) (sub_c rfl (sub_c rfl (sub_c rfl (sub_c rfl sub_n)))), rfl⟩
  · refine AWP.sub [(15, _), (0, _), (1, _), (4, _), (5, _)] (sub_c rfl (sub_c rfl (sub_c rfl (sub_c rfl (sub_c rfl sub_n))))) ?_
    -- c0
    refine AWP.cond (.tmp _ _ rfl) (fun hc15 => ?_) (fun hc15 => ?_)
    · try simp only [decide_eq_true_eq] at hc15
      refine AWP.seq ?_
      -- region 2
      refine AWP.region ?_
      refine AList.p rfl (pure_assign ev_int) ?_
      refine AList.p rfl (pure_assign ev_bool) ?_
      refine AList.nil ?_
      refine Next.go ?_
      refine AWP.ret ?_
      refine Next.rt ?_
      -- ret 0
      refine Ret.go (.cons (.tmp _ _ rfl) (.cons (.tmp _ _ rfl) .nil)) _ (Heap.le.refl _) ?_
      refine ⟨?_, rfl⟩
      unfold fcmpN
      first
      | (rw [if_pos hc15, decide_eq_true hc15]; rfl)
      | (rw [if_neg hc15, decide_eq_false hc15, if_pos hc20]; rfl)
      | (rw [if_neg hc15, decide_eq_false hc15, if_neg (by omega), if_pos (by omega)]; rfl)
      | (rw [if_neg hc15, decide_eq_false hc15, if_neg (by omega), if_neg (by omega)]; rfl)
    · try simp only [decide_eq_false_iff_not] at hc15
      refine AWP.skip ?_
      refine Next.go ?_
      refine AWP.seq ?_
      refine AWP.seq ?_
      -- region 3
      refine AWP.region ?_
      refine AList.p rfl (pure_move (.tmp _ _ rfl)) ?_
      refine AList.s rfl (step_call0 Tryz.call154 (.cons (.tmp _ _ rfl) .nil) (order_calls _ (by assumption) _)) ?_
      rintro _ _ ⟨rfl, hH⟩
      obtain rfl := hH.symm
      refine AList.p rfl (pure_move (.tmp _ _ rfl)) ?_
      refine AList.s rfl (step_call0 Tryz.call154 (.cons (.tmp _ _ rfl) .nil) (order_calls _ (by assumption) _)) ?_
      rintro _ _ ⟨rfl, hH⟩
      obtain rfl := hH.symm
      refine AList.p rfl (pure_assign (.tmp _ _ rfl)) ?_
      refine AList.p rfl (pure_assign (.tmp _ _ rfl)) ?_
      refine AList.nil ?_
      refine Next.go ?_
      refine AWP.block ?_
      refine AWP.seq ?_
      -- region 4
      refine AWP.region ?_
      refine AList.p rfl (pure_move (.tmp _ _ rfl)) ?_
      refine AList.p rfl (pure_move (.tmp _ _ rfl)) ?_
      refine AList.p rfl (pure_lss (.tmp _ _ rfl) (.tmp _ _ rfl)) ?_
      refine AList.p rfl (pure_assign (.tmp _ _ rfl)) ?_
      refine AList.nil ?_
      refine Next.go ?_
      -- c1
      refine AWP.cond (.tmp _ _ rfl) (fun hc20 => ?_) (fun hc20 => ?_)
      · try simp only [decide_eq_true_eq] at hc20
        refine AWP.seq ?_
        -- region 5
        refine AWP.region ?_
        refine AList.p rfl (pure_assign ev_int) ?_
        refine AList.p rfl (pure_assign ev_bool) ?_
        refine AList.nil ?_
        refine Next.go ?_
        refine AWP.ret ?_
        refine Block.rt ?_
        refine Next.rt ?_
        -- ret 1
        refine Ret.go (.cons (.tmp _ _ rfl) (.cons (.tmp _ _ rfl) .nil)) _ (Heap.le.refl _) ?_
        refine ⟨?_, rfl⟩
        unfold fcmpN
        first
        | (rw [if_pos hc15, decide_eq_true hc15]; rfl)
        | (rw [if_neg hc15, decide_eq_false hc15, if_pos hc20]; rfl)
        | (rw [if_neg hc15, decide_eq_false hc15, if_neg (by omega), if_pos (by omega)]; rfl)
        | (rw [if_neg hc15, decide_eq_false hc15, if_neg (by omega), if_neg (by omega)]; rfl)
      · try simp only [decide_eq_false_iff_not, Int.not_lt] at hc20
        refine AWP.seq ?_
        -- region 6
        refine AWP.region ?_
        refine AList.p rfl (pure_move (.tmp _ _ rfl)) ?_
        refine AList.p rfl (pure_move (.tmp _ _ rfl)) ?_
        refine AList.p rfl (pure_gtr (.tmp _ _ rfl) (.tmp _ _ rfl)) ?_
        refine AList.p rfl (pure_assign (.tmp _ _ rfl)) ?_
        refine AList.nil ?_
        refine Next.go ?_
        -- c2
        refine AWP.cond (.tmp _ _ rfl) (fun hc24 => ?_) (fun hc24 => ?_)
        · try simp only [decide_eq_true_eq] at hc24
          refine AWP.seq ?_
          -- region 7
          refine AWP.region ?_
          refine AList.p rfl (pure_assign ev_int) ?_
          refine AList.p rfl (pure_assign ev_bool) ?_
          refine AList.nil ?_
          refine Next.go ?_
          refine AWP.ret ?_
          refine Block.rt ?_
          refine Next.rt ?_
          -- ret 2
          refine Ret.go (.cons (.tmp _ _ rfl) (.cons (.tmp _ _ rfl) .nil)) _ (Heap.le.refl _) ?_
          refine ⟨?_, rfl⟩
          unfold fcmpN
          first
          | (rw [if_pos hc15, decide_eq_true hc15]; rfl)
          | (rw [if_neg hc15, decide_eq_false hc15, if_pos hc20]; rfl)
          | (rw [if_neg hc15, decide_eq_false hc15, if_neg (by omega), if_pos (by omega)]; rfl)
          | (rw [if_neg hc15, decide_eq_false hc15, if_neg (by omega), if_neg (by omega)]; rfl)
        · try simp only [decide_eq_false_iff_not, Int.not_lt] at hc24
          refine AWP.skip ?_
          refine Block.go ?_
          refine Next.go ?_
          refine AWP.seq ?_
          -- region 8
          refine AWP.region ?_
          refine AList.p rfl (pure_assign ev_int) ?_
          refine AList.p rfl (pure_assign ev_bool) ?_
          refine AList.nil ?_
          refine Next.go ?_
          refine AWP.ret ?_
          -- ret 3
          refine Ret.go (.cons (.tmp _ _ rfl) (.cons (.tmp _ _ rfl) .nil)) _ (Heap.le.refl _) ?_
          refine ⟨?_, rfl⟩
          unfold fcmpN
          first
          | (rw [if_pos hc15, decide_eq_true hc15]; rfl)
          | (rw [if_neg hc15, decide_eq_false hc15, if_pos hc20]; rfl)
          | (rw [if_neg hc15, decide_eq_false hc15, if_neg (by omega), if_pos (by omega)]; rfl)
          | (rw [if_neg hc15, decide_eq_false hc15, if_neg (by omega), if_neg (by omega)]; rfl)

set_option maxRecDepth 100000 in
theorem fSign_calls (a : Nat) (ha : a < 18446744073709551616) (H : Heap) : ACall Tryz.prog 75 [.int .u64 (a : Int)] H (fun y H' => y = .int .i64 (fsignN a) ∧ H' = H) := by
  refine ACall.of_body Tryz.func75 rfl Tryz.ntmps75 Tryz.results75 rfl ?_
  refine AWP.seq ?_
  -- region 0
  refine AWP.region ?_
  refine AList.p rfl (pure_assign ev_int) ?_
  refine AList.nil ?_
  refine Next.go ?_
  refine AWP.seq ?_
  -- region 1
  refine AWP.region ?_
  refine AList.p rfl (pure_move (.tmp _ _ rfl)) ?_
  refine AList.s rfl (step_call0 Tryz.call110 (.cons (.tmp _ _ rfl) (.cons (ev_nat 0) .nil)) (fCmp_calls a 0 ha (by decide) _)) ?_
  rintro _ _ ⟨rfl, hH⟩
  obtain rfl := hH.symm
  refine AList.p rfl (pure_move (.tmp _ _ rfl)) ?_
  refine AList.p rfl (pure_extract (.tmp _ _ rfl) rfl) ?_
  refine AList.p rfl (pure_extract (.tmp _ _ rfl) rfl) ?_
  refine AList.p rfl (pure_assign (.tmp _ _ rfl)) ?_
  refine AList.p rfl (pure_assign (.tmp _ _ rfl)) ?_
  refine AList.nil ?_
  refine Next.go ?_
  refine AWP.seq ?_
  -- region 2
  refine AWP.region ?_
  refine AList.p rfl (pure_move (.tmp _ _ rfl)) ?_
  refine AList.p rfl (pure_assign (.tmp _ _ rfl)) ?_
  refine AList.nil ?_
  refine Next.go ?_
  refine AWP.ret ?_
  -- ret 0
  refine Ret.go (.cons (.tmp _ _ rfl) .nil) _ (Heap.le.refl _) ?_
  exact ⟨rfl, rfl⟩

theorem up32 {c : Nat} (h1 : 97 ≤ c) (h2 : c ≤ 122) : c - (c &&& 32) = c - 32 := by
  have : ∀ c : Fin 128, 97 ≤ c.1 → c.1 ≤ 122 → c.1 - (c.1 &&& 32) = c.1 - 32 := by decide
  exact this ⟨c, by omega⟩ h1 h2
theorem putRow_mid {A B ys : List AV} {x : AV} {y : AV} {o : Nat} (ho : o = A.length) (hy : ys = [y]) : putRow (A ++ x :: B) o ys = A ++ y :: B := by
  subst ho; subst hy
  simp [putRow]
def cellsU (s : List UInt8) (r : List AV) (i : Nat) : List AV := ((s.take i).map capB).map bv ++ (s.drop i).map bv ++ r
theorem cellsU_at {s : List UInt8} {r : List AV} {i : Nat} (h : i < s.length) : cellsU s r i = ((s.take i).map capB).map bv ++ bv s[i] :: ((s.drop (i + 1)).map bv ++ r) := by
  unfold cellsU
  rw [List.drop_eq_getElem_cons h, List.map_cons, List.append_assoc, List.cons_append]
theorem cellsU_next {s : List UInt8} {r : List AV} {i : Nat} (h : i < s.length) : cellsU s r (i + 1) = ((s.take i).map capB).map bv ++ bv (capB s[i]) :: ((s.drop (i + 1)).map bv ++ r) := by
  unfold cellsU
  rw [← List.take_append_getElem h, List.map_append, List.map_append]
  simp only [List.map_cons, List.map_nil, List.append_assoc, List.cons_append, List.nil_append]
theorem cellsU_get {s : List UInt8} {r : List AV} {i : Nat} (h : i < s.length) : (cellsU s r i)[0 + ((i : Nat) : Int).toNat * 1]? = some (.int .u8 ((s[i].toNat : Nat) : Int)) := by
  rw [show 0 + ((i : Nat) : Int).toNat * 1 = i by omega, cellsU_at h, List.getElem?_append_right (by simp; omega)]
  simp; rw [show i - min i s.length = 0 by omega]; rfl
theorem cellsU_len {s : List UInt8} {r : List AV} {i : Nat} : (cellsU s r i).length = s.length + r.length := by simp [cellsU]; omega
theorem cellsU_put {s : List UInt8} {r : List AV} {i : Nat} (h : i < s.length) {m : Int} (hm : m = ((capB s[i]).toNat : Nat)) : putRow (cellsU s r i) (0 + ((i : Nat) : Int).toNat * 1) [.int .u8 m] = cellsU s r (i + 1) := by
  rw [show 0 + ((i : Nat) : Int).toNat * 1 = i by omega, cellsU_at h, cellsU_next h]
  exact putRow_mid (by simp; omega) (by rw [hm]; rfl)
theorem cellsU_same {s : List UInt8} {r : List AV} {i : Nat} (h : i < s.length) (hu : capB s[i] = s[i]) : cellsU s r (i + 1) = cellsU s r i := by
  rw [cellsU_at h, cellsU_next h, hu]
theorem capL_len (s : List UInt8) : (capL s).length = s.length := List.length_map _
theorem cellsU_fin {s : List UInt8} {r : List AV} {i : Nat} (h : i = s.length) : ((cellsU s r i).drop 0).take s.length = (capL s).map bv := by
  subst h; simp [cellsU, capL]
theorem capB_up {c : UInt8} (h1 : 97 ≤ c.toNat) (h2 : c.toNat ≤ 122) : ((c.toNat - (c.toNat &&& 32) : Nat) : Int) = ((capB c).toNat : Nat) := by
  rw [up32 h1 h2, capB, if_pos ⟨h1, h2⟩, UInt8.toNat_ofNat']
  have : (c.toNat - 32) % 2 ^ 8 = c.toNat - 32 := Nat.mod_eq_of_lt (by omega)
  rw [this]
theorem capB_same {c : UInt8} (h : ¬ (97 ≤ c.toNat ∧ c.toNat ≤ 122)) : capB c = c := if_neg h

def upper_J (s : List UInt8) (b : Nat) (c : Nat) (H : Heap) : Nat → Env → Heap → Prop := fun k env H1 => ∃ i : Nat, i ≤ s.length ∧ env = [(3, .mslice (some ⟨b, 0, none⟩) s.length c), (8, .mslice (some ⟨b, 0, none⟩) s.length c), (9, .int .i64 s.length), (10, .int .i64 i)] ∧ H1 = H.set b (.box 5 (cellsU s (List.replicate (c - s.length) (.int .u8 0)) i)) ∧ k = s.length - i

set_option maxRecDepth 100000 in
theorem upper_calls (s : List UInt8) (hs : s.length ≤ 1000000) (H : Heap) : ACall Tryz.prog 131 [.str s] H (fun z H' => z = .str (capL s) ∧ H' = H) := by
  refine ACall.of_body Tryz.func131 rfl Tryz.ntmps131 Tryz.results131 rfl ?_
  refine AWP.seq ?_
  -- region 0
  refine AWP.region ?_
  refine AList.p rfl (pure_assign (ev_str rfl)) ?_
  refine AList.nil ?_
  refine Next.go ?_
  refine AWP.seq ?_
  -- region 1
  refine AWP.region ?_
  refine AList.p rfl (pure_move (.tmp _ _ rfl)) ?_
  refine AList.s rfl (step_bytes Tryz.underlying9 Tryz.underlying232 Tryz.underlying5 (.tmp _ _ rfl) (by omega)) ?_
  rintro _ _ ⟨b7, c7, rfl, hcl7, hcm7, hb7, hH⟩
  obtain rfl := hH.symm
  refine AList.p rfl (pure_assign (.tmp _ _ rfl)) ?_
  refine AList.nil ?_
  refine Next.go ?_
  refine AWP.seq ?_
  refine AWP.seq ?_
  -- region 2
  refine AWP.region ?_
  refine AList.p rfl (pure_move (.tmp _ _ rfl)) ?_
  first | (refine AList.p rfl (pure_lenU Tryz.underlying232 (.tmp _ _ rfl)) ?_) | (refine AList.p rfl (pure_lenM Tryz.underlying232 (.tmp _ _ rfl)) ?_) | (refine AList.p rfl (pure_lenS Tryz.underlying232 (.tmp _ _ rfl)) ?_)
  refine AList.p rfl (pure_move ev_int) ?_
  refine AList.nil ?_
  refine Next.go ?_
  refine AWP.block ?_
  -- L0
  refine AWP.loopW (upper_J s b7 c7 H) (s.length) ⟨0, Nat.zero_le _, rfl, by simp [cellsU], rfl⟩ (sub_c rfl (sub_c rfl (sub_c rfl (sub_c rfl sub_n)))) (Heap.le.refl _) ?_
  rintro _ _ _ ⟨i, hi0, rfl, rfl, rfl⟩
  refine AWP.seq ?_
  -- region 3
  refine AWP.region ?_
  refine AList.p rfl (pure_lss (.tmp _ _ rfl) (.tmp _ _ rfl)) ?_
  refine AList.nil ?_
  refine Next.go ?_
  refine AWP.seq ?_
  -- c0
  refine AWP.cond (.tmp _ _ rfl) (fun hc11 => ?_) (fun hc11 => ?_)
  · try simp only [decide_eq_true_eq] at hc11
    have hi : i < s.length := by omega
    have hu8 : s[i].toNat < 256 := s[i].toNat_lt
    refine AWP.skip ?_
    refine Next.go ?_
    refine AWP.seq ?_
    refine AWP.block ?_
    refine AWP.seq ?_
    -- region 4
    refine AWP.region ?_
    refine AList.p rfl (pure_move (.tmp _ _ rfl)) ?_
    refine AList.p rfl (pure_indexM Tryz.underlying232 Tryz.sizeOf5 (.tmp _ _ rfl) (.tmp _ _ rfl) (by omega) (by omega)) ?_
    refine AList.s rfl (step_load1 Tryz.isAgg5 (.tmp _ _ rfl) (Heap.objs_set_same _ _ _) (cellsU_get hi)) ?_
    rintro _ _ ⟨rfl, hH⟩
    obtain rfl := hH.symm
    refine AList.p rfl (pure_assign (.tmp _ _ rfl)) ?_
    refine AList.p rfl (pure_assign (.tmp _ _ rfl)) ?_
    refine AList.nil ?_
    refine Next.go ?_
    refine AWP.seqTo 20 (.bool (decide ((97 : Int) ≤ (s[i].toNat : Int)) && decide ((s[i].toNat : Int) ≤ 122))) [3, 8, 9, 10, 4, 5] ?_ ?_
    · -- region 5
      refine AWP.region ?_
      refine AList.p rfl (pure_move (.tmp _ _ rfl)) ?_
      refine AList.p rfl (pure_geq (.tmp _ _ rfl) (ev_nat 97)) ?_
      refine AList.p rfl (pure_move (.tmp _ _ rfl)) ?_
      -- the guard in slot 17
      refine bool_casesL (t := 17) rfl (fun hg17 => ?_) (fun hg17 => ?_)
      · have hh17 := hg17; try simp only [decide_eq_true_eq] at hh17
        refine AList.gp rfl rfl rfl (by first | rfl | assumption) (pure_move (.tmp _ _ rfl)) ?_
        refine AList.gp rfl rfl rfl (by first | rfl | assumption) (pure_leq (.tmp _ _ rfl) (ev_nat 122)) ?_
        refine AList.p rfl (pure_pickT (.tmp _ _ rfl) (by first | rfl | assumption) (.tmp _ _ rfl)) ?_
        refine AList.nil ?_
        exact ⟨rfl, sub_b rfl (by first | rfl | (simp; omega) | (simp [*]; done) | simp_all) (sub_c rfl (sub_c rfl (sub_c rfl (sub_c rfl (sub_c rfl (sub_c rfl sub_n)))))), rfl⟩
      · have hh17 := hg17; try simp only [decide_eq_false_iff_not, Int.not_le] at hh17
        refine AList.gn rfl rfl rfl (by first | rfl | assumption) ?_
        refine AList.gn rfl rfl rfl (by first | rfl | assumption) ?_
        refine AList.p rfl (pure_pickF (.tmp _ _ rfl) (by first | rfl | assumption) ev_bool) ?_
        refine AList.nil ?_
        exact ⟨rfl, sub_b rfl (by first | rfl | (simp; omega) | (simp [*]; done) | simp_all) (sub_c rfl (sub_c rfl (sub_c rfl (sub_c rfl (sub_c rfl (sub_c rfl sub_n)))))), rfl⟩
    · refine AWP.sub [(20, _), (3, _), (8, _), (9, _), (10, _), (4, _), (5, _)] (sub_c rfl (sub_c rfl (sub_c rfl (sub_c rfl (sub_c rfl (sub_c rfl (sub_c rfl sub_n))))))) ?_
      -- c1
      refine AWP.cond (.tmp _ _ rfl) (fun hc20 => ?_) (fun hc20 => ?_)
      · try simp only [decide_eq_true_eq, decide_eq_false_iff_not, Bool.not_eq_true', Bool.not_eq_false', Int.not_lt, Int.not_le, ne_eq, Decidable.not_not] at hc20
        simp only [Bool.and_eq_true, decide_eq_true_eq] at hc20
        -- region 6
        refine AWP.region ?_
        refine AList.p rfl (pure_move (.tmp _ _ rfl)) ?_
        refine AList.p rfl (pure_move (.tmp _ _ rfl)) ?_
        refine AList.p rfl (pure_move (.tmp _ _ rfl)) ?_
        refine AList.p rfl (pure_andNot8 (.tmp _ _ rfl) (ev_nat 32) (by first | assumption | omega) (by first | assumption | omega)) ?_
        refine AList.p rfl (pure_indexM Tryz.underlying232 Tryz.sizeOf5 (.tmp _ _ rfl) (.tmp _ _ rfl) (by omega) (by omega)) ?_
        refine AList.s0 (step_store Tryz.sizeOf5 (.tmp _ _ rfl) (.tmp _ _ rfl) rfl rfl (.inl rfl) (Heap.objs_set_same _ _ _) (by rw [cellsU_len]; omega)) ?_
        rintro _ _ ⟨rfl, hH⟩
        obtain rfl := hH.symm
        rw [Heap.set_set]
        rw [show AV.cells (AV.int .u8 _) = [_] from rfl, cellsU_put hi (capB_up (by omega) (by omega))]
        refine AList.nil ?_
        refine Block.go ?_
        refine Next.go ?_
        -- region 7
        refine AWP.region ?_
        refine AList.p rfl (pure_add (.tmp _ _ rfl) ev_int (by omega)) ?_
        refine AList.p rfl (pure_move (.tmp _ _ rfl)) ?_
        refine AList.nil ?_
        refine Next.go ?_
        refine Round.mk (J := upper_J s b7 c7 H) ⟨i + 1, by omega, rfl, rfl, rfl⟩ (sub_c rfl (sub_c rfl (sub_c rfl (sub_c rfl sub_n)))) (Heap.le.refl _) (by omega)
      · try simp only [decide_eq_true_eq, decide_eq_false_iff_not, Bool.not_eq_true', Bool.not_eq_false', Int.not_lt, Int.not_le, ne_eq, Decidable.not_not] at hc20
        refine AWP.skip ?_
        refine Block.go ?_
        refine Next.go ?_
        -- region 7
        refine AWP.region ?_
        refine AList.p rfl (pure_add (.tmp _ _ rfl) ev_int (by omega)) ?_
        refine AList.p rfl (pure_move (.tmp _ _ rfl)) ?_
        refine AList.nil ?_
        refine Next.go ?_
        refine Round.mk (J := upper_J s b7 c7 H) ⟨i + 1, by omega, rfl, by rw [cellsU_same hi (capB_same (by simp only [Bool.and_eq_false_iff, decide_eq_false_iff_not] at hc20; omega))], rfl⟩ (sub_c rfl (sub_c rfl (sub_c rfl (sub_c rfl sub_n)))) (Heap.le.refl _) (by omega)
  · try simp only [decide_eq_false_iff_not, Int.not_lt] at hc11
    refine AWP.exit ?_
    refine Next.ex ?_
    refine Next.ex ?_
    refine Block.hit ?_
    refine Next.go ?_
    refine AWP.seq ?_
    -- region 8
    refine AWP.region ?_
    refine AList.p rfl (pure_move (.tmp _ _ rfl)) ?_
    refine AList.s rfl (step_text (l := capL s) Tryz.underlying232 Tryz.underlying9 Tryz.underlying5 (.tmp _ _ rfl) (Heap.objs_set_same _ _ _) (capL_len s) (cellsU_fin (by omega)) (by simp only [maxLen_eq]; omega)) ?_
    rintro _ _ ⟨rfl, hH⟩
    obtain rfl := hH.symm
    refine AList.p rfl (pure_assign (.tmp _ _ rfl)) ?_
    refine AList.nil ?_
    refine Next.go ?_
    refine AWP.ret ?_
    -- ret 0
    refine Ret.go (.cons (.tmp _ _ rfl) .nil) H (Heap.le_set hb7 _) ?_
    exact ⟨rfl, rfl⟩

set_option maxRecDepth 100000 in
theorem ToBool_calls (p : AV) (v : Val) (hv : v.bits < 18446744073709551616) (ht : v.text.length ≤ 1000) (H : Heap) : ACall Tryz.prog 87 [p, v.av] H (fun y H' => y = .tuple [.bool (toBoolV v).1, .int .i64 (toBoolV v).2] ∧ H' = H) := by
  refine ACall.of_body Tryz.func87 rfl Tryz.ntmps87 Tryz.results87 rfl ?_
  refine AWP.seq ?_
  -- region 0
  refine AWP.region ?_
  refine AList.s rfl (step_boxI (.tmp _ _ rfl) (.inr ⟨_, rfl⟩)) ?_
  rintro _ _ ⟨rfl, hH⟩
  obtain rfl := hH.symm
  refine AList.p rfl (pure_assign ev_bool) ?_
  refine AList.p rfl (pure_assign ev_int) ?_
  refine AList.nil ?_
  refine Next.go ?_
  refine AWP.seq ?_
  refine AWP.seq ?_
  -- region 1
  refine AWP.region ?_
  first | (refine AList.p rfl (pure_fieldI Tryz.underlying24 rfl Tryz.sizeOf3 (.tmp _ _ rfl)) ?_) | (refine AList.p rfl (pure_field Tryz.underlying24 rfl Tryz.sizeOf3 (.tmp _ _ rfl)) ?_)
  first | (refine AList.p rfl (pure_load1 Tryz.isAgg3 (.tmp _ _ rfl)) ?_) | (refine AList.s rfl (step_load1 Tryz.isAgg3 (.tmp _ _ rfl) (by first | assumption | exact (by assumption : Heap.le _ _).objs _ _ (by assumption) | exact Heap.objs_set_same _ _ _ | exact (Heap.objs_set_ne _ _ (by assumption)).trans (Heap.objs_set_same _ _ _) | exact (Heap.objs_set_ne _ _ (by assumption)).trans ((Heap.objs_set_ne _ _ (by assumption)).trans (Heap.objs_set_same _ _ _)) | exact (Heap.objs_set_ne _ _ (by assumption)).trans (by assumption)) rfl) ?_; rintro _ _ ⟨rfl, hH⟩; obtain rfl := hH.symm)
  refine AList.nil ?_
  refine Next.go ?_
  refine AWP.block ?_
  refine AWP.seq ?_
  -- region 2
  refine AWP.region ?_
  refine AList.p rfl (pure_eql (.tmp _ _ rfl) ev_int) ?_
  refine AList.p rfl (pure_assign (.tmp _ _ rfl)) ?_
  refine AList.nil ?_
  refine Next.go ?_
  -- c0
  refine AWP.cond (.tmp _ _ rfl) (fun hc8 => ?_) (fun hc8 => ?_)
  · try simp only [decide_eq_true_eq] at hc8
    refine AWP.seq ?_
    -- region 3
    refine AWP.region ?_
    first | (refine AList.p rfl (pure_fieldI Tryz.underlying24 rfl Tryz.sizeOf22 (.tmp _ _ rfl)) ?_) | (refine AList.p rfl (pure_field Tryz.underlying24 rfl Tryz.sizeOf22 (.tmp _ _ rfl)) ?_)
    first | (refine AList.p rfl (pure_load1 Tryz.isAgg22 (.tmp _ _ rfl)) ?_) | (refine AList.s rfl (step_load1 Tryz.isAgg22 (.tmp _ _ rfl) (by first | assumption | exact (by assumption : Heap.le _ _).objs _ _ (by assumption) | exact Heap.objs_set_same _ _ _ | exact (Heap.objs_set_ne _ _ (by assumption)).trans (Heap.objs_set_same _ _ _) | exact (Heap.objs_set_ne _ _ (by assumption)).trans ((Heap.objs_set_ne _ _ (by assumption)).trans (Heap.objs_set_same _ _ _)) | exact (Heap.objs_set_ne _ _ (by assumption)).trans (by assumption)) rfl) ?_; rintro _ _ ⟨rfl, hH⟩; obtain rfl := hH.symm)
    refine AList.s rfl (step_call0 Tryz.call75 (.cons (.tmp _ _ rfl) .nil) (fSign_calls _ (by assumption) _)) ?_
    rintro _ _ ⟨rfl, hH⟩
    obtain rfl := hH.symm
    refine AList.p rfl (pure_neq (.tmp _ _ rfl) ev_int) ?_
    refine AList.p rfl (pure_assign (.tmp _ _ rfl)) ?_
    refine AList.p rfl (pure_assign ev_int) ?_
    refine AList.nil ?_
    refine Next.go ?_
    refine AWP.ret ?_
    refine Block.rt ?_
    refine Next.rt ?_
    -- ret 0
    refine Ret.go (.cons (.tmp _ _ rfl) (.cons (.tmp _ _ rfl) .nil)) _ (Heap.le.refl _) ?_
    refine ⟨?_, rfl⟩
    unfold toBoolV
    first
    | (rw [if_pos (by omega)]; rfl)
    | (rw [if_neg (by omega), if_pos (by omega), if_pos (by assumption)]; rfl)
    | (rw [if_neg (by omega), if_pos (by omega), if_neg (by assumption), if_pos (by assumption)]; rfl)
    | (rw [if_neg (by omega), if_pos (by omega), if_neg (by assumption), if_neg (by assumption)]; rfl)
    | (rw [if_neg (by omega), if_pos (by omega)]; rfl)
    | (rw [if_neg (by omega), if_neg (by omega)]; rfl)
  · try simp only [decide_eq_false_iff_not] at hc8
    refine AWP.seq ?_
    -- region 4
    refine AWP.region ?_
    refine AList.p rfl (pure_eql (.tmp _ _ rfl) ev_int) ?_
    refine AList.p rfl (pure_assign (.tmp _ _ rfl)) ?_
    refine AList.nil ?_
    refine Next.go ?_
    -- c1
    refine AWP.cond (.tmp _ _ rfl) (fun hc14 => ?_) (fun hc14 => ?_)
    · try simp only [decide_eq_true_eq] at hc14
      refine AWP.seq ?_
      refine AWP.seq ?_
      -- region 5
      refine AWP.region ?_
      first | (refine AList.p rfl (pure_fieldI Tryz.underlying24 rfl Tryz.sizeOf9 (.tmp _ _ rfl)) ?_) | (refine AList.p rfl (pure_field Tryz.underlying24 rfl Tryz.sizeOf9 (.tmp _ _ rfl)) ?_)
      first | (refine AList.p rfl (pure_load1 Tryz.isAgg9 (.tmp _ _ rfl)) ?_) | (refine AList.s rfl (step_load1 Tryz.isAgg9 (.tmp _ _ rfl) (by first | assumption | exact (by assumption : Heap.le _ _).objs _ _ (by assumption) | exact Heap.objs_set_same _ _ _ | exact (Heap.objs_set_ne _ _ (by assumption)).trans (Heap.objs_set_same _ _ _) | exact (Heap.objs_set_ne _ _ (by assumption)).trans ((Heap.objs_set_ne _ _ (by assumption)).trans (Heap.objs_set_same _ _ _)) | exact (Heap.objs_set_ne _ _ (by assumption)).trans (by assumption)) rfl) ?_; rintro _ _ ⟨rfl, hH⟩; obtain rfl := hH.symm)
      refine AList.s rfl (step_call0 Tryz.call131 (.cons (.tmp _ _ rfl) .nil) (upper_calls _ (by first | assumption | omega) _)) ?_
      rintro _ _ ⟨rfl, hH⟩
      obtain rfl := hH.symm
      refine AList.nil ?_
      refine Next.go ?_
      refine AWP.block ?_
      refine AWP.seq ?_
      -- region 6
      refine AWP.region ?_
      refine AList.p rfl (pure_eqlStr (.tmp _ _ rfl) (ev_str rfl)) ?_
      refine AList.p rfl (pure_assign (.tmp _ _ rfl)) ?_
      refine AList.nil ?_
      refine Next.go ?_
      -- c2
      refine AWP.cond (.tmp _ _ rfl) (fun hc19 => ?_) (fun hc19 => ?_)
      · try simp only [decide_eq_true_eq] at hc19
        refine AWP.seq ?_
        -- region 7
        refine AWP.region ?_
        refine AList.p rfl (pure_assign ev_bool) ?_
        refine AList.p rfl (pure_assign ev_int) ?_
        refine AList.nil ?_
        refine Next.go ?_
        refine AWP.ret ?_
        refine Block.rt ?_
        refine Next.rt ?_
        refine Block.rt ?_
        refine Next.rt ?_
        -- ret 1
        refine Ret.go (.cons (.tmp _ _ rfl) (.cons (.tmp _ _ rfl) .nil)) _ (Heap.le.refl _) ?_
        refine ⟨?_, rfl⟩
        unfold toBoolV
        first
        | (rw [if_pos (by omega)]; rfl)
        | (rw [if_neg (by omega), if_pos (by omega), if_pos (by assumption)]; rfl)
        | (rw [if_neg (by omega), if_pos (by omega), if_neg (by assumption), if_pos (by assumption)]; rfl)
        | (rw [if_neg (by omega), if_pos (by omega), if_neg (by assumption), if_neg (by assumption)]; rfl)
        | (rw [if_neg (by omega), if_pos (by omega)]; rfl)
        | (rw [if_neg (by omega), if_neg (by omega)]; rfl)
      · try simp only [decide_eq_false_iff_not] at hc19
        refine AWP.seq ?_
        -- region 8
        refine AWP.region ?_
        refine AList.p rfl (pure_eqlStr (.tmp _ _ rfl) (ev_str rfl)) ?_
        refine AList.p rfl (pure_assign (.tmp _ _ rfl)) ?_
        refine AList.nil ?_
        refine Next.go ?_
        -- c3
        refine AWP.cond (.tmp _ _ rfl) (fun hc21 => ?_) (fun hc21 => ?_)
        · try simp only [decide_eq_true_eq] at hc21
          refine AWP.seq ?_
          -- region 9
          refine AWP.region ?_
          refine AList.p rfl (pure_assign ev_bool) ?_
          refine AList.p rfl (pure_assign ev_int) ?_
          refine AList.nil ?_
          refine Next.go ?_
          refine AWP.ret ?_
          refine Block.rt ?_
          refine Next.rt ?_
          refine Block.rt ?_
          refine Next.rt ?_
          -- ret 2
          refine Ret.go (.cons (.tmp _ _ rfl) (.cons (.tmp _ _ rfl) .nil)) _ (Heap.le.refl _) ?_
          refine ⟨?_, rfl⟩
          unfold toBoolV
          first
          | (rw [if_pos (by omega)]; rfl)
          | (rw [if_neg (by omega), if_pos (by omega), if_pos (by assumption)]; rfl)
          | (rw [if_neg (by omega), if_pos (by omega), if_neg (by assumption), if_pos (by assumption)]; rfl)
          | (rw [if_neg (by omega), if_pos (by omega), if_neg (by assumption), if_neg (by assumption)]; rfl)
          | (rw [if_neg (by omega), if_pos (by omega)]; rfl)
          | (rw [if_neg (by omega), if_neg (by omega)]; rfl)
        · try simp only [decide_eq_false_iff_not] at hc21
          refine AWP.skip ?_
          refine Block.go ?_
          refine Next.go ?_
          refine AWP.seq ?_
          -- region 10
          refine AWP.region ?_
          refine AList.p rfl (pure_assign ev_bool) ?_
          refine AList.p rfl (pure_assign ev_int) ?_
          refine AList.nil ?_
          refine Next.go ?_
          refine AWP.ret ?_
          refine Block.rt ?_
          refine Next.rt ?_
          -- ret 3
          refine Ret.go (.cons (.tmp _ _ rfl) (.cons (.tmp _ _ rfl) .nil)) _ (Heap.le.refl _) ?_
          refine ⟨?_, rfl⟩
          unfold toBoolV
          first
          | (rw [if_pos (by omega)]; rfl)
          | (rw [if_neg (by omega), if_pos (by omega), if_pos (by assumption)]; rfl)
          | (rw [if_neg (by omega), if_pos (by omega), if_neg (by assumption), if_pos (by assumption)]; rfl)
          | (rw [if_neg (by omega), if_pos (by omega), if_neg (by assumption), if_neg (by assumption)]; rfl)
          | (rw [if_neg (by omega), if_pos (by omega)]; rfl)
          | (rw [if_neg (by omega), if_neg (by omega)]; rfl)
    · try simp only [decide_eq_false_iff_not] at hc14
      refine AWP.skip ?_
      refine Block.go ?_
      refine Next.go ?_
      refine AWP.seq ?_
      -- region 11
      refine AWP.draw [(0, true), (1, true), (2, true), (3, true), (4, true), (5, true)] rfl (by decide +kernel) ?_
      first | (refine APlan.p rfl rfl (pure_fieldI Tryz.underlying24 rfl Tryz.sizeOf4 (.tmp _ _ rfl)) ?_) | (refine APlan.p rfl rfl (pure_field Tryz.underlying24 rfl Tryz.sizeOf4 (.tmp _ _ rfl)) ?_)
      first | (refine APlan.p rfl rfl (pure_load1 Tryz.isAgg4 (.tmp _ _ rfl)) ?_) | (refine APlan.f rfl rfl (fun _ => step_load1 Tryz.isAgg4 (.tmp _ _ rfl) (by first | assumption | exact (by assumption : Heap.le _ _).objs _ _ (by assumption) | exact Heap.objs_set_same _ _ _ | exact (Heap.objs_set_ne _ _ (by assumption)).trans (Heap.objs_set_same _ _ _) | exact (Heap.objs_set_ne _ _ (by assumption)).trans ((Heap.objs_set_ne _ _ (by assumption)).trans (Heap.objs_set_same _ _ _)) | exact (Heap.objs_set_ne _ _ (by assumption)).trans (by assumption)) rfl) ?_)
      first | (refine APlan.p rfl rfl (pure_fieldI Tryz.underlying24 rfl Tryz.sizeOf3 (.tmp _ _ rfl)) ?_) | (refine APlan.p rfl rfl (pure_field Tryz.underlying24 rfl Tryz.sizeOf3 (.tmp _ _ rfl)) ?_)
      first | (refine APlan.p rfl rfl (pure_load1 Tryz.isAgg3 (.tmp _ _ rfl)) ?_) | (refine APlan.f rfl rfl (fun _ => step_load1 Tryz.isAgg3 (.tmp _ _ rfl) (by first | assumption | exact (by assumption : Heap.le _ _).objs _ _ (by assumption) | exact Heap.objs_set_same _ _ _ | exact (Heap.objs_set_ne _ _ (by assumption)).trans (Heap.objs_set_same _ _ _) | exact (Heap.objs_set_ne _ _ (by assumption)).trans ((Heap.objs_set_ne _ _ (by assumption)).trans (Heap.objs_set_same _ _ _)) | exact (Heap.objs_set_ne _ _ (by assumption)).trans (by assumption)) rfl) ?_)
      refine APlan.p rfl rfl (pure_assign (.tmp _ _ rfl)) ?_
      refine APlan.p rfl rfl (pure_assign (.tmp _ _ rfl)) ?_
      refine APlan.nil ?_
      refine Next.go ?_
      refine AWP.ret ?_
      -- ret 4
      refine Ret.go (.cons (.tmp _ _ rfl) (.cons (.tmp _ _ rfl) .nil)) _ (Heap.le.refl _) ?_
      refine ⟨?_, rfl⟩
      unfold toBoolV
      first
      | (rw [if_pos (by omega)]; rfl)
      | (rw [if_neg (by omega), if_pos (by omega), if_pos (by assumption)]; rfl)
      | (rw [if_neg (by omega), if_pos (by omega), if_neg (by assumption), if_pos (by assumption)]; rfl)
      | (rw [if_neg (by omega), if_pos (by omega), if_neg (by assumption), if_neg (by assumption)]; rfl)
      | (rw [if_neg (by omega), if_pos (by omega)]; rfl)
      | (rw [if_neg (by omega), if_neg (by omega)]; rfl)

end Go.Proofs.YtifoddpbmlajfaaGreatDoor
