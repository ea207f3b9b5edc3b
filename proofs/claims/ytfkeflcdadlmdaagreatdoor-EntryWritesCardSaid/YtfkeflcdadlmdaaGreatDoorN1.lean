import Derived.WalkKit
import Derived.Test.YtfkeflcdadlmdaaGreatDoorSsk
import Derived.Test.YtfkeflcdadlmdaaGreatDoorS6
import Derived.Test.YtfkeflcdadlmdaaGreatDoorProg
namespace Go.Proofs.YtfkeflcdadlmdaaGreatDoor
def Limbs (xs : List Nat) : Prop := ∀ x, x ∈ xs → x < 4294967296
def val : List Nat → Nat
 | [] => 0
 | x :: xs => x + 4294967296 * val xs
def qF : List Nat → Nat
 | [] => 0
 | x :: xs => if qF xs = 0 ∧ x = 0 then 0 else qF xs + 1
def anM : Nat → Nat → List Nat
 | 0, _ => []
 | _ + 1, 0 => []
 | f + 1, n + 1 => (n + 1) % 4294967296 :: anM f ((n + 1) / 4294967296)
def zI (n : Nat) : List Nat := anM n n
theorem alM : ∀ (f g n : Nat), n ≤ f → n ≤ g → anM f n = anM g n
 | 0, 0, _, _, _ => rfl
 | 0, g + 1, n, h, _ => by
  have : n = 0 := by omega
  subst this; rfl
 | f + 1, 0, n, _, h => by
  have : n = 0 := by omega
  subst this; rfl
 | f + 1, g + 1, 0, _, _ => rfl
 | f + 1, g + 1, n + 1, h1, h2 => by
  unfold anM
  rw [alM f g ((n + 1) / 4294967296) (by omega) (by omega)]
theorem aaJ : zI 0 = [] := rfl
theorem qN {n : Nat} (h : 0 < n) : zI n = n % 4294967296 :: zI (n / 4294967296) := by
 unfold zI
 obtain ⟨m, rfl⟩ : ∃ m, n = m + 1 := ⟨n - 1, by omega⟩
 show (m + 1) % 4294967296 :: anM m ((m + 1) / 4294967296) = _
 rw [alM m ((m + 1) / 4294967296) ((m + 1) / 4294967296) (by omega) (Nat.le_refl _)]
theorem zV (n : Nat) : val (zI n) = n := by
 induction n using Nat.strongRecOn with
 | ind n ih =>
  rcases Nat.eq_zero_or_pos n with h | h
  ·subst h; rfl
  ·rw [qN h, val, ih _ (by omega)]; omega
theorem zO (n : Nat) : Limbs (zI n) := by
 induction n using Nat.strongRecOn with
 | ind n ih =>
  rcases Nat.eq_zero_or_pos n with h | h
  ·subst h; intro x hx; simp [aaJ] at hx
  ·rw [qN h]
   intro x hx
   rcases List.mem_cons.1 hx with rfl | hx
   ·omega
   ·exact ih _ (by omega) x hx
theorem Limbs.cons {x : Nat} {xs : List Nat} (h : Limbs (x :: xs)) : x < 4294967296 ∧ Limbs xs := ⟨h x (by simp), fun y hy => h y (by simp [hy])⟩
theorem Limbs.mk {x : Nat} {xs : List Nat} (hx : x < 4294967296) (h : Limbs xs) : Limbs (x :: xs) := fun y hy => by
 rcases List.mem_cons.1 hy with rfl | hy
 ·exact hx
 ·exact h y hy
theorem Limbs.nil : Limbs [] := fun _ h => by simp at h
theorem Limbs.append {xs ys : List Nat} (h : Limbs xs) (k : Limbs ys) : Limbs (xs ++ ys) := fun y hy => by
 rcases List.mem_append.1 hy with h1 | h1
 ·exact h y h1
 ·exact k y h1
theorem Limbs.take {xs : List Nat} (h : Limbs xs) (n : Nat) : Limbs (xs.take n) := fun y hy => h y (List.mem_of_mem_take hy)
theorem Limbs.drop {xs : List Nat} (h : Limbs xs) (n : Nat) : Limbs (xs.drop n) := fun y hy => h y (List.mem_of_mem_drop hy)
theorem Limbs.rep {n x : Nat} (h : x < 4294967296) : Limbs (List.replicate n x) := fun y hy => by rw [List.eq_of_mem_replicate hy]; exact h
theorem aaA : ∀ {xs : List Nat}, qF xs = 0 → val xs = 0
 | [], _ => rfl
 | x :: xs, h => by
  unfold qF at h
  split at h
  ·rename_i hc; rw [val, aaA hc.1, hc.2]
  ·omega
theorem aaB : ∀ {xs : List Nat}, val xs = 0 → qF xs = 0
 | [], _ => rfl
 | x :: xs, h => by
  rw [val] at h
  unfold qF
  rw [if_pos ⟨aaB (by omega), by omega⟩]
theorem adC : ∀ {xs : List Nat}, Limbs xs → xs.take (qF xs) = zI (val xs)
 | [], _ => rfl
 | x :: xs, h => by
  obtain ⟨hx, hxs⟩ := h.cons
  unfold qF
  split
  ·rename_i hc
   rw [val, aaA hc.1, hc.2]; rfl
  ·rename_i hc
   rw [List.take_succ_cons, adC hxs]
   have hpos : 0 < val (x :: xs) := by
    rw [val]
    rcases Nat.eq_zero_or_pos x with h0 | h0
    ·rcases Nat.eq_zero_or_pos (val xs) with h1 | h1
     ·exact absurd ⟨aaB h1, h0⟩ hc
     ·omega
    ·omega
   rw [qN hpos]
   simp only [val]
   rw [show (x + 4294967296 * val xs) % 4294967296 = x by omega, show (x + 4294967296 * val xs) / 4294967296 = val xs by omega]
theorem aaI : ∀ (xs : List Nat), qF xs ≤ xs.length
 | [] => Nat.le_refl _
 | x :: xs => by
  unfold qF
  have := aaI xs
  split <;> simp <;> omega
theorem aaP {xs : List Nat} (h : Limbs xs) : qF xs = (zI (val xs)).length := by
 rw [← adC h, List.length_take]
 have := aaI xs
 omega
theorem aeS (n : Nat) : qF (zI n) = (zI n).length := by rw [aaP (zO n), zV]
theorem acF {xs : List Nat} {k : Nat} (hk : k < xs.length) : qF (xs.take (k + 1)) = if xs.getD k 0 = 0 then qF (xs.take k) else k + 1 := by
 induction xs generalizing k with
 | nil => simp at hk
 | cons x xs ih =>
  cases k with
  | zero =>
   simp only [List.take_succ_cons, List.take_zero, List.getD_cons_zero]
   unfold qF
   simp [qF]
  | succ k =>
   rw [List.take_succ_cons, List.take_succ_cons]
   have hk' : k < xs.length := by simpa using hk
   simp only [qF, ih hk', List.getD_cons_succ]
   by_cases h : xs.getD k 0 = 0
   ·rw [if_pos h, if_pos h]
   ·rw [if_neg h, if_neg h, if_neg (by omega)]
theorem qO : ∀ (xs ys : List Nat), val (xs ++ ys) = val xs + 4294967296 ^ xs.length * val ys
 | [], ys => by simp [val]
 | x :: xs, ys => by
  rw [List.cons_append, val, qO xs ys, val, List.length_cons, Nat.pow_succ, Nat.mul_add, ← Nat.mul_assoc, Nat.mul_comm (4294967296 ^ xs.length) 4294967296]
  omega
theorem adR : ∀ {xs : List Nat}, Limbs xs → val xs < 4294967296 ^ xs.length
 | [], _ => by simp [val]
 | x :: xs, h => by
  obtain ⟨hx, hxs⟩ := h.cons
  have := adR hxs
  rw [val, List.length_cons, Nat.pow_succ]
  omega
theorem ahY (n : Nat) : val (List.replicate n 0) = 0 := by
 induction n with
 | zero => rfl
 | succ n ih => rw [List.replicate_succ, val, ih]
theorem qQ {n k : Nat} : (zI n).length ≤ k ↔ n < 4294967296 ^ k := by
 induction k generalizing n with
 | zero =>
  rcases Nat.eq_zero_or_pos n with h | h
  ·subst h; simp [aaJ]
  ·rw [qN h]; simp; omega
 | succ k ih =>
  rcases Nat.eq_zero_or_pos n with h | h
  ·subst h; simp [aaJ]; exact Nat.pow_pos (by decide)
  ·rw [qN h, List.length_cons, Nat.add_le_add_iff_right, ih, Nat.pow_succ, Nat.div_lt_iff_lt_mul (by decide)]
theorem arK {a b : Nat} (h : zI a = zI b) : a = b := by rw [← zV a, h, zV]
theorem aoB {xs : List Nat} {k : Nat} (hk : k < xs.length) : val (xs.take (k + 1)) = val (xs.take k) + 4294967296 ^ k * xs.getD k 0 := by
 rw [← List.take_append_getElem hk, qO]
 simp only [val, List.length_take, Nat.mul_zero, Nat.add_zero]
 rw [Nat.min_eq_left (by omega)]
 congr 2
 rw [List.getD_eq_getElem?_getD, List.getElem?_eq_getElem hk]; rfl
theorem Limbs.getD {xs : List Nat} (h : Limbs xs) (k : Nat) : xs.getD k 0 < 4294967296 := by
 rw [List.getD_eq_getElem?_getD]
 cases hk : xs[k]? with
 | none => simp
 | some x => exact h x (List.mem_of_getElem? hk)
theorem copied {zs xs : List Nat} {r : Nat} (h : r ≤ xs.length) : (zs.take 0 ++ xs.take r ++ zs.drop (0 + min xs.length r)).take r = xs.take r := by
 rw [List.take_zero, List.nil_append, List.take_append_of_le_length (by rw [List.length_take]; omega), List.take_take, Nat.min_self]
def BIG : Nat := 4294967296 ^ 256
section
open Go Go.RowKit

def aaM (n : Nat) : AV := .slice 1 (U .u32 (zI n)) .shared
def bcQ (xs : List Nat) (tl : Tail) (H : Heap) : Nat → Env → Heap → Prop := fun k env H1 => ∃ n : Nat, n ≤ xs.length ∧ qF (xs.take n) = qF xs ∧ env = [(0, .slice 1 (U .u32 xs) tl), (3, .int .i64 (n : Int))] ∧ H = H1 ∧ k = n

set_option maxRecDepth 100000 in
theorem abO (xs : List Nat) (tl : Tail) (hx : Limbs xs) (hl : xs.length ≤ 1000000) (H : Heap) : ACall Tryz.prog 206 [.slice 1 (U .u32 xs) tl] H (fun y H' => y = .int .i64 (qF xs : Int) ∧ H' = H) := by
 refine ACall.of_body Tryz.func206 rfl Tryz.ntmps206 Tryz.results206 rfl ?_
 refine .sr (.p rfl (zB zE) (.nr (.mv rfl rfl (.p rfl (zW Tryz.underlying170 (tm rfl)) (.as rfl rfl (.ng (.seq (.block ?_))))))))
 refine AWP.loopW (bcQ xs tl H) (xs.length) ⟨xs.length, Nat.le_refl _, by rw [List.take_length], rfl, rfl, rfl⟩ (zA rfl (zA rfl zL)) (Heap.le.refl _) ?_
 rintro _ _ _ ⟨n, hn, hr, rfl, rfl, hk⟩
 refine .seq ?_
 refine AWP.seqTo 15 (.bool (decide (0 < (n : Int)) && decide (((xs.getD (n - 1) 0 : Nat) : Int) = 0))) [0, 3] ?_ ?_
 ·-- region 2
  refine .region (.mv rfl rfl (.p rfl (yF (tm rfl) zE) (.mv rfl rfl ?_)))
  refine zQ (t := 8) rfl (fun hg8 => ?_) (fun hg8 => ?_)
  ·have hh8 := hg8; try simp only [decide_eq_true_eq] at hh8
   refine .gp rfl rfl rfl (by assumption) (zC (tm rfl)) (.gp rfl rfl rfl (by assumption) (zC (tm rfl)) (.gp rfl rfl rfl (by assumption) (zZ (tm rfl) zE (by omega)) (.gp rfl rfl rfl (by assumption) (yE (n - 1) Tryz.underlying170 Tryz.sizeOf112 (tm rfl) (tm rfl) (by omega) (by omega)) (.gp rfl rfl rfl (by assumption) (zF Tryz.isAgg112 (tm rfl)) (.gp rfl rfl rfl (by assumption) (yA (tm rfl) (zJ 0)) (.p rfl (zN (tm rfl) (by assumption) (tm rfl)) (.nil ?_)))))))
   exact ⟨rfl, yV rfl (by simp_all) (zA rfl (zA rfl zL)), rfl⟩
  ·have hh8 := hg8; try simp only [decide_eq_false_iff_not, Int.not_lt] at hh8
   refine .gn rfl rfl rfl (by assumption) (.gn rfl rfl rfl (by assumption) (.gn rfl rfl rfl (by assumption) (.gn rfl rfl rfl (by assumption) (.gn rfl rfl rfl (by assumption) (.gn rfl rfl rfl (by assumption) (.p rfl (zM (tm rfl) (by assumption) zK) (.nil ?_)))))))
   exact ⟨rfl, yV rfl (by simp_all) (zA rfl (zA rfl zL)), rfl⟩
 ·refine AWP.sub [(15, _), (0, _), (3, _)] (zA rfl (zA rfl (zA rfl zL))) ?_
  refine AWP.cond (tm rfl) (fun hc15 => ?_) (fun hc15 => ?_)
  ·try simp only [decide_eq_true_eq, decide_eq_false_iff_not, Bool.not_eq_true', Bool.not_eq_false', Int.not_lt, Int.not_le, ne_eq, Decidable.not_not] at hc15
   simp only [Bool.and_eq_true, decide_eq_true_eq] at hc15
   refine .skip ?_
   refine Next.go ?_
   refine .block (.region (.mv rfl rfl (.p rfl (zZ (tm rfl) zE (by omega)) (.as rfl rfl (.nil ?_)))))
   refine Block.go ?_
   refine Next.go ?_
   have hs := acF (xs := xs) (k := n - 1) (by omega)
   rw [show n - 1 + 1 = n by omega, if_pos (by omega)] at hs
   refine Round.mk (J := bcQ xs tl H) ⟨n - 1, by omega, by rw [← hs, hr], rfl, rfl, rfl⟩ (zA rfl (yH rfl (by rw [show ((n : Int) - 1) = ((n - 1 : Nat) : Int) by omega]) zL)) (Heap.le.refl _) (by omega)
  ·try simp only [decide_eq_true_eq, decide_eq_false_iff_not, Bool.not_eq_true', Bool.not_eq_false', Int.not_lt, Int.not_le, ne_eq, Decidable.not_not] at hc15
   simp only [Bool.and_eq_false_iff, decide_eq_false_iff_not] at hc15
   refine .exit ?_
   refine Next.ex ?_
   refine Next.ex ?_
   refine Block.hit ?_
   refine Next.go ?_
   refine .sr (.mv rfl rfl (.as rfl rfl (.ng (.ret ?_))))
   refine Ret.go (.cons (.tmp _ _ rfl) .nil) _ (Heap.le.refl _) ?_
   refine ⟨?_, rfl⟩
   have hq : n = qF xs := by
    rcases Nat.eq_zero_or_pos n with h0 | h0
    ·subst h0; rw [← hr]; rfl
    ·have hs := acF (xs := xs) (k := n - 1) (by omega)
     rw [show n - 1 + 1 = n by omega, if_neg (by omega), hr] at hs
     exact hs.symm
   rw [hq]; rfl

set_option maxRecDepth 100000 in
theorem qX (xs : List Nat) (tl : Tail) (hx : Limbs xs) (hl : xs.length ≤ 1000000) (H : Heap) : ACall Tryz.prog 203 [.slice 1 (U .u32 xs) tl] H (fun y H' => y = aaM (val xs) ∧ H' = H) := by
 have hr := aaI xs
 refine ACall.of_body Tryz.func203 rfl Tryz.ntmps203 Tryz.results203 rfl ?_
 refine .sr ?_
 refine .p rfl (zB (qR (sz := 1) (tl := .full))) ?_
 refine .nr (.mv rfl rfl (.mv rfl rfl (.cl rfl Tryz.call206 (evs1 rfl) (abO _ _ (by assumption) (by assumption) _) (.p rfl (acX (_) Tryz.underlying170 Tryz.sizeOf112 (tm rfl) (tm rfl) rfl (by omega)) (.as rfl rfl (.ng (.ret ?_)))))))
 refine Ret.go (.cons (.tmp _ _ rfl) .nil) _ (Heap.le.refl _) ?_
 refine ⟨?_, rfl⟩
 simp only [yZ, aaM]
 rw [adC hx]

set_option maxRecDepth 100000 in
theorem amH (x y c : Nat) (hx : x < 4294967296) (hy : y < 4294967296) (hc : c ≤ 1) (H : Heap) : ACall Tryz.prog 236 [.int .u32 (x : Int), .int .u32 (y : Int), .int .u32 (c : Int)] H (fun z H' => z = .tuple [.int .u32 ((x + y + c) % 4294967296 : Nat), .int .u32 ((x + y + c) / 4294967296 : Nat)] ∧ H' = H) := by
 refine ACall.of_body Tryz.func236 rfl Tryz.ntmps236 Tryz.results236 rfl ?_
 refine .sr (.p rfl (zB (zJ 0)) (.p rfl (zB (zJ 0)) (.nr (.mv rfl rfl (.p rfl (yD Tryz.underlying112 Tryz.underlying30 (tm rfl) (wrapN64 (by omega))) (.mv rfl rfl (.p rfl (yD Tryz.underlying112 Tryz.underlying30 (tm rfl) (wrapN64 (by omega))) (.p rfl (yL (tm rfl) (tm rfl) (by omega)) ?_))))))))
 refine .mv rfl rfl (.p rfl (yD Tryz.underlying112 Tryz.underlying30 (tm rfl) (wrapN64 (by omega))) (.p rfl (yL (tm rfl) (tm rfl) (by omega)) (.as rfl rfl (.nr (.mv rfl rfl (.p rfl (yS Tryz.underlying30 Tryz.underlying112 rfl (tm rfl)) (.as rfl rfl (.nr ?_))))))))
 refine .mv rfl rfl (.p rfl (yP (tm rfl) (zJ 32) (by omega)) (.p rfl (yS Tryz.underlying30 Tryz.underlying112 rfl (tm rfl)) (.as rfl rfl (.ng (.ret ?_)))))
 refine Ret.go (.cons (.tmp _ _ rfl) (.cons (.tmp _ _ rfl) .nil)) _ (Heap.le.refl _) ?_
 refine ⟨?_, rfl⟩
 simp only [yZ, IntKind.bits]
 rw [show (x + y + c) / 2 ^ 32 % 2 ^ 32 = (x + y + c) / 4294967296 by omega]

end
def yQ (n : Nat) : Nat := if n = 0 then 0 else n.log2 + 1
theorem bfG : yQ 0 = 0 := rfl
theorem blen_pos {n : Nat} (h : 0 < n) : yQ n = n.log2 + 1 := if_neg (by omega)
theorem qJ {n k : Nat} : yQ n ≤ k ↔ n < 2 ^ k := by
 unfold yQ
 split
 ·rename_i h; subst h; simp; exact Nat.pow_pos (by decide)
 ·rename_i h
  rw [Nat.add_one_le_iff, Nat.log2_lt h]
theorem aaW {n k : Nat} : k < yQ n ↔ 2 ^ k ≤ n := by
 have := @qJ n k
 omega
theorem adE {n k m : Nat} (h : 2 ^ k ≤ n) (hm : m = n / 2 ^ k) : yQ n = k + yQ m := by
 subst hm
 have hp : 0 < 2 ^ k := Nat.pow_pos (by decide)
 have h1 : 0 < n / 2 ^ k := Nat.div_pos h hp
 have key : ∀ j, yQ n ≤ k + j ↔ yQ (n / 2 ^ k) ≤ j := fun j => by
  rw [qJ, qJ, Nat.div_lt_iff_lt_mul hp, Nat.pow_add, Nat.mul_comm]
 have ha := (key (yQ (n / 2 ^ k))).2 (Nat.le_refl _)
 have hk : k ≤ yQ n := Nat.le_of_lt (aaW.2 h)
 have hb := (key (yQ n - k)).1 (by omega)
 omega
theorem blen_16 {x : Nat} (hx : x < 4294967296) : ∃ y n : Nat, (if 65536 ≤ x then x / 65536 else x) = y ∧ (if 65536 ≤ x then (16 : Int) else 0) = n ∧ y < 65536 ∧ yQ x = n + yQ y := by
 by_cases h : 65536 ≤ x
 ·exact ⟨x / 65536, 16, if_pos h, if_pos h, by omega, adE (k := 16) h rfl⟩
 ·exact ⟨x, 0, if_neg h, if_neg h, by omega, by omega⟩
theorem blen_8 {y n : Nat} (hy : y < 65536) : ∃ z m : Nat, (if 256 ≤ y then y / 256 else y) = z ∧ (if 256 ≤ y then (n : Int) + 8 else n) = m ∧ z < 256 ∧ n + yQ y = m + yQ z := by
 by_cases h : 256 ≤ y
 ·exact ⟨y / 256, n + 8, if_pos h, by rw [if_pos h]; simp, by omega, by rw [adE (n := y) (k := 8) (m := y / 256) h rfl]; omega⟩
 ·exact ⟨y, n, if_neg h, if_neg h, by omega, rfl⟩
def len8tab : List UInt8 := [0, 1, 2, 2, 3, 3, 3, 3, 4, 4, 4, 4, 4, 4, 4, 4, 5, 5, 5, 5, 5, 5, 5, 5, 5, 5, 5, 5, 5, 5, 5, 5, 6, 6, 6, 6, 6, 6, 6, 6, 6, 6, 6, 6, 6, 6, 6, 6, 6, 6, 6, 6, 6, 6, 6, 6, 6, 6, 6, 6, 6, 6, 6, 6, 7, 7, 7, 7, 7, 7, 7, 7, 7, 7, 7, 7, 7, 7, 7, 7, 7, 7, 7, 7, 7, 7, 7, 7, 7, 7, 7, 7, 7, 7, 7, 7, 7, 7, 7, 7, 7, 7, 7, 7, 7, 7, 7, 7, 7, 7, 7, 7, 7, 7, 7, 7, 7, 7, 7, 7, 7, 7, 7, 7, 7, 7, 7, 7] ++ List.replicate 128 8
theorem len8_at {z : Nat} (h : z < 256) : (len8tab.getD z 0).toNat = yQ z := by
 have key : ∀ z : Fin 256, (len8tab.getD z.1 0).toNat = yQ z.1 := by decide +kernel
 exact key ⟨z, h⟩
theorem afX {n : Nat} (h : 0 < n) : yQ n = 32 * ((zI n).length - 1) + yQ ((zI n).getD ((zI n).length - 1) 0) := by
 induction n using Nat.strongRecOn with
 | ind n ih =>
  rw [qN h]
  rcases Nat.eq_zero_or_pos (n / 4294967296) with h0 | h0
  ·rw [h0, aaJ]
   simp
   congr 1; omega
  ·have := ih _ (by omega) h0
   have hpos : 0 < (zI (n / 4294967296)).length := by rw [qN h0]; simp
   rw [adE (n := n) (k := 32) (by omega) rfl, show (2 : Nat) ^ 32 = 4294967296 by decide, this, List.length_cons, show (zI (n / 4294967296)).length + 1 - 1 = ((zI (n / 4294967296)).length - 1) + 1 by omega, List.getD_cons_succ]
   omega
theorem adU {a b : Nat} (h : (zI a).length < (zI b).length) : a < b := by
 rcases Nat.lt_or_ge a b with h1 | h1
 ·exact h1
 ·have h2 : (zI a).length ≤ (zI a).length := Nat.le_refl _
  rw [qQ] at h2
  have h3 := qQ.2 (Nat.lt_of_le_of_lt h1 h2)
  omega
theorem aeM {xs ys : List Nat} (hx : Limbs xs) (hy : Limbs ys) (hl : xs.length = ys.length) {k : Nat} (hk : k < xs.length) (hs : xs.drop (k + 1) = ys.drop (k + 1)) (h : xs.getD k 0 < ys.getD k 0) : val xs < val ys := by
 have e1 : val xs = val (xs.take k) + 4294967296 ^ k * (xs.getD k 0 + 4294967296 * val (xs.drop (k + 1))) := by
  conv => lhs; rw [← List.take_append_drop k xs, qO, List.drop_eq_getElem_cons hk, val, List.length_take, Nat.min_eq_left (by omega)]
  rw [List.getD_eq_getElem?_getD, List.getElem?_eq_getElem hk]; rfl
 have hk' : k < ys.length := by omega
 have e2 : val ys = val (ys.take k) + 4294967296 ^ k * (ys.getD k 0 + 4294967296 * val (ys.drop (k + 1))) := by
  conv => lhs; rw [← List.take_append_drop k ys, qO, List.drop_eq_getElem_cons hk', val, List.length_take, Nat.min_eq_left (by omega)]
  rw [List.getD_eq_getElem?_getD, List.getElem?_eq_getElem hk']; rfl
 have h1 := adR (hx.take k)
 rw [List.length_take, Nat.min_eq_left (by omega)] at h1
 rw [e1, e2, hs]
 generalize val (ys.drop (k + 1)) = z
 have h2 : 4294967296 ^ k * (xs.getD k 0 + 4294967296 * z + 1) ≤ 4294967296 ^ k * (ys.getD k 0 + 4294967296 * z) := Nat.mul_le_mul_left _ (by omega)
 rw [Nat.mul_add, Nat.mul_one] at h2
 omega
section
open Go Go.RowKit

set_option maxRecDepth 100000 in
theorem aiQ (xs : List Nat) (tl : Tail) (hx : Limbs xs) (hl : xs.length ≤ 1000000) (H : Heap) : ACall Tryz.prog 167 [.slice 1 (U .u32 xs) tl] H (fun y H' => y = aaM (val xs) ∧ H' = H) := by
 have hr := aaI xs
 refine ACall.of_body Tryz.func167 rfl Tryz.ntmps167 Tryz.results167 rfl ?_
 refine .sr ?_
 refine .p rfl (zB (qR (sz := 1) (tl := .full))) ?_
 refine .nr (.mv rfl rfl (.cl rfl Tryz.call206 (evs1 rfl) (abO _ _ (by assumption) (by assumption) _) (.s rfl (yT (_) Tryz.underlying170 Tryz.typeInfo112 Tryz.sizeOf112 Tryz.zeroValue112 (tm rfl) (tm rfl) rfl rfl (by decide) (by omega)) ?_)))
 rintro _ _ ⟨b6, rfl, hb6, hH⟩
 obtain rfl := hH.symm
 refine .as rfl rfl (.nr (.mv rfl rfl (.mv rfl rfl (.e rfl (aiB Tryz.underlying170 Tryz.sizeOf112 (tm rfl) (tm rfl) (Heap.objs_set_same _ _ _) (by (simp; done))) ?_))))
 try first | rw [Heap.set_set] | rw [Heap.set_under (by assumption)]
 refine .nr (.mv rfl rfl (.as rfl rfl (.ng ?_)))
 refine AWP.frzU (t := 2) rfl hb6 (by simp <;> omega) (Nat.le_refl _) (by simp only [zX]; omega) ?_
 refine .ret ?_
 refine Ret.go (.cons (.tmp _ _ rfl) .nil) _ (Heap.le.refl _) ?_
 refine ⟨?_, rfl⟩
 simp only [yZ, aaM]
 rw [← adC hx, copied hr]

set_option maxRecDepth 100000 in
theorem amF (x : Nat) (hx : x < 4294967296) (H : Heap) : ACall Tryz.prog 205 [.int .u32 (x : Int)] H (fun y H' => y = .int .i64 (yQ x : Int) ∧ H' = H) := by
 have hb32 : ∀ z, z < 256 → yQ z ≤ 8 := fun z hz => qJ.2 hz
 refine ACall.of_body Tryz.func205 rfl Tryz.ntmps205 Tryz.results205 rfl ?_
 refine .sr (.p rfl (zB zE) (.ng ?_))
 refine AWP.seqToL [(0, .int .u32 ((if 65536 ≤ x then x / 65536 else x : Nat) : Int)), (2, .int .i64 (if 65536 ≤ x then 16 else 0))] [] ?_ ?_
 ·refine .sr (.mv rfl rfl (.p rfl (qH (tm rfl) (zJ 65536)) (.ng ?_)))
  refine AWP.cond (tm rfl) (fun hc4 => ?_) (fun hc4 => ?_)
  ·try simp only [decide_eq_true_eq] at hc4
   refine .sr (.mv rfl rfl (.p rfl (anC (tm rfl) (zJ 16) (by assumption)) (.as rfl rfl (.ng (.region (.p rfl (zB zE) (.nil ?_)))))))
   exact ⟨rfl, (yH rfl (by rw [if_pos (by omega)]) (yH rfl (by rw [if_pos (by omega)]) zL)), rfl⟩
  ·try simp only [decide_eq_false_iff_not, Int.not_le] at hc4
   refine .skip ?_
   exact ⟨rfl, (yH rfl (by rw [if_neg (by omega)]) (yH rfl (by rw [if_neg (by omega)]) zL)), rfl⟩
 ·refine AWP.sub [(0, _), (2, _)] (zA rfl (zA rfl zL)) ?_
  obtain ⟨y, n, hy, hn, hyx, hbl⟩ := blen_16 hx
  rw [hy, hn]
  refine AWP.seqToL [(0, .int .u32 ((if 256 ≤ y then y / 256 else y : Nat) : Int)), (2, .int .i64 (if 256 ≤ y then (n : Int) + 8 else n))] [] ?_ ?_
  ·refine .sr (.mv rfl rfl (.p rfl (qH (tm rfl) (zJ 256)) (.ng ?_)))
   refine AWP.cond (tm rfl) (fun hc8 => ?_) (fun hc8 => ?_)
   ·try simp only [decide_eq_true_eq] at hc8
    refine .sr (.mv rfl rfl (.p rfl (anC (tm rfl) (zJ 8) (by omega)) (.as rfl rfl (.ng (.region (.mv rfl rfl (.p rfl (zR (tm rfl) zE (by omega)) (.as rfl rfl ?_))))))))
    refine .nil ?_
    exact ⟨rfl, (yH rfl (by rw [if_pos (by omega)]) (yH rfl (by rw [if_pos (by omega)]) zL)), rfl⟩
   ·try simp only [decide_eq_false_iff_not, Int.not_le] at hc8
    refine .skip ?_
    exact ⟨rfl, (yH rfl (by rw [if_neg (by omega)]) (yH rfl (by rw [if_neg (by omega)]) zL)), rfl⟩
  ·refine AWP.sub [(0, _), (2, _)] (zA rfl (zA rfl zL)) ?_
   obtain ⟨z, m, hz, hm, hzx, hbz⟩ := blen_8 (n := n) hyx
   rw [hz, hm]
   have hz8 := hb32 z hzx
   have hx32 := (qJ (n := x) (k := 32)).2 hx
   refine .sr (.mv rfl rfl (.mv rfl rfl (.p rfl (yS Tryz.underlying112 Tryz.underlying5 rfl (tm rfl)) ?_)))
   refine .p rfl (aoS (r := yQ z) len8tab Tryz.underlying9 (zS rfl) (tm rfl) (by rfl) (by simp only [IntKind.bits]; show _ < 256; omega) (by rw [show z % 2 ^ IntKind.u8.bits = z from Nat.mod_eq_of_lt hzx]; exact len8_at hzx)) ?_
   refine .p rfl (yD Tryz.underlying5 Tryz.underlying3 (tm rfl) (wrapNI64 (by omega))) (.p rfl (zR (tm rfl) (tm rfl) (by omega)) (.as rfl rfl (.ng (.ret ?_))))
   refine Ret.go (.cons (.tmp _ _ rfl) .nil) _ (Heap.le.refl _) ?_
   refine ⟨?_, rfl⟩
   rw [hbl, hbz]
   simp [yZ]

end
theorem adV {xs : List Nat} {i : Nat} (h : xs.length ≤ i) : xs.getD i 0 = 0 := by
 rw [List.getD_eq_getElem?_getD, List.getElem?_eq_none h]; rfl
theorem qD (xs : List Nat) (i : Nat) : val (xs.take (i + 1)) = val (xs.take i) + 4294967296 ^ i * xs.getD i 0 := by
 rcases Nat.lt_or_ge i xs.length with h | h
 ·exact aoB h
 ·rw [adV h, List.take_of_length_le (by omega), List.take_of_length_le h]; omega
theorem adQ {zs : List Nat} {i v : Nat} (h : i < zs.length) : val ((zs.set i v).take (i + 1)) = val (zs.take i) + 4294967296 ^ i * v := by
 rw [qD, List.take_set_of_le (Nat.le_refl _)]
 rw [List.getD_eq_getElem?_getD, List.getElem?_set_self h]; rfl
theorem Limbs.set {zs : List Nat} (h : Limbs zs) {i v : Nat} (hv : v < 4294967296) : Limbs (zs.set i v) := fun y hy => by
 rcases List.mem_or_eq_of_mem_set hy with h1 | h1
 ·exact h y h1
 ·rw [h1]; exact hv
theorem akP {xs : List Nat} (h : Limbs xs) : 256 < qF xs ↔ BIG ≤ val xs := by
 rw [aaP h]
 have := @qQ (val xs) 256
 unfold BIG
 omega
theorem arL {n : Nat} : 256 < (zI n).length ↔ BIG ≤ n := by
 have := @qQ n 256
 unfold BIG
 omega
theorem axD {zs xs ys : List Nat} {i c : Nat} (hi : i < zs.length) (h : val (zs.take i) + 4294967296 ^ i * c = val (xs.take i) + val (ys.take i)) :
  val ((zs.set i ((xs.getD i 0 + ys.getD i 0 + c) % 4294967296)).take (i + 1)) + 4294967296 ^ (i + 1) * ((xs.getD i 0 + ys.getD i 0 + c) / 4294967296) = val (xs.take (i + 1)) + val (ys.take (i + 1)) := by
 rw [adQ hi, qD xs, qD ys, Nat.pow_succ]
 generalize xs.getD i 0 = x at *
 generalize ys.getD i 0 = y at *
 generalize 4294967296 ^ i = B at *
 have e : B * ((x + y + c) % 4294967296) + B * 4294967296 * ((x + y + c) / 4294967296) = B * (x + y + c) := by
  rw [Nat.mul_assoc, ← Nat.mul_add, Nat.mod_add_div]
 have e2 : B * (x + y + c) = B * x + B * y + B * c := by rw [Nat.mul_add, Nat.mul_add]
 omega
theorem add_end {zs xs ys : List Nat} {n c : Nat} (hz : zs.length = n + 1) (hx : xs.length = n) (hy : ys.length ≤ n) (h : val (zs.take n) + 4294967296 ^ n * c = val (xs.take n) + val (ys.take n)) : val (zs.set n c) = val xs + val ys := by
 have e := adQ (zs := zs) (i := n) (v := c) (by omega)
 rw [List.take_of_length_le (by simp; omega)] at e
 rw [e, h, List.take_of_length_le (by omega), List.take_of_length_le (by omega)]
def apQ (a b : Nat) : Int := if a < b then -1 else if b < a then 1 else 0
theorem arW {xs ys : List Nat} {k : Nat} (hl : xs.length = ys.length) (hk : k < xs.length) (hs : xs.drop (k + 1) = ys.drop (k + 1)) (he : xs.getD k 0 = ys.getD k 0) : xs.drop k = ys.drop k := by
 rw [List.drop_eq_getElem_cons hk, List.drop_eq_getElem_cons (by omega : k < ys.length), hs]
 congr 1
 rw [List.getD_eq_getElem?_getD, List.getD_eq_getElem?_getD, List.getElem?_eq_getElem hk, List.getElem?_eq_getElem (by omega : k < ys.length)] at he
 simpa using he
section
open Go Go.RowKit

set_option maxRecDepth 100000 in
theorem ajR (v : Nat) (hv : v < 18446744073709551616) (H : Heap) : ACall Tryz.prog 122 [.int .u64 (v : Int)] H (fun y H' => y = aaM v ∧ H' = H) := by
 refine ACall.of_body Tryz.func122 rfl Tryz.ntmps122 Tryz.results122 rfl ?_
 refine .sr ?_
 refine .p rfl (zB (qR (sz := 1) (tl := .full))) ?_
 refine .nr (.mv rfl rfl (.p rfl (yS Tryz.underlying30 Tryz.underlying112 rfl (tm rfl)) (.mv rfl rfl (.p rfl (yP (tm rfl) (zJ 32) (by assumption)) (.p rfl (yS Tryz.underlying30 Tryz.underlying112 rfl (tm rfl)) (.e rfl (afM Tryz.underlying170 Tryz.sizeOf112 Tryz.zeroValue112 rfl (tm rfl) (.inl rfl) ⟨rfl, rfl⟩ (tm rfl) (.inl rfl) ⟨rfl, rfl⟩) ?_))))))
 refine .cl rfl Tryz.call167 (evs1 rfl) (aiQ [v % 2 ^ IntKind.u32.bits, v / 2 ^ 32 % 2 ^ IntKind.u32.bits] .full (Limbs.mk (by simp only [IntKind.bits]; omega) (Limbs.mk (by simp only [IntKind.bits]; omega) Limbs.nil)) (by simp) _) ?_
 refine .as rfl rfl (.ng (.ret ?_))
 refine Ret.go (.cons (.tmp _ _ rfl) .nil) _ (Heap.le.refl _) ?_
 refine ⟨?_, rfl⟩
 show aaM _ = _
 congr 1
 simp only [val, IntKind.bits]; omega

set_option maxRecDepth 100000 in
theorem baV (x : Nat) (hx : x < 4294967296) (H : Heap) : ACall Tryz.prog 237 [.int .u32 (x : Int)] H (fun y H' => y = .int .i64 ((32 - yQ x : Nat) : Int) ∧ H' = H) := by
 have hb := (qJ (n := x) (k := 32)).2 hx
 refine ACall.of_body Tryz.func237 rfl Tryz.ntmps237 Tryz.results237 rfl ?_
 refine .sr (.p rfl (zB zE) (.nr (.mv rfl rfl (.cl rfl Tryz.call205 (evs1 rfl) (amF _ (by assumption) _) (.p rfl (zZ zE (tm rfl) (by omega)) (.as rfl rfl (.ng (.ret ?_))))))))
 refine Ret.go (.cons (.tmp _ _ rfl) .nil) _ (Heap.le.refl _) ?_
 refine ⟨?_, rfl⟩
 simp only [yZ]
 congr 1
 omega

set_option maxRecDepth 100000 in
theorem asG (xs : List Nat) (tl : Tail) (hx : Limbs xs) (hl : xs.length ≤ 1000000) (H : Heap) : ACall Tryz.prog 160 [.slice 1 (U .u32 xs) tl] H (fun y H' => y = .int .i64 (yQ (val xs) : Int) ∧ H' = H) := by
 have hr := aaI xs
 have hrl := aaP hx
 refine ACall.of_body Tryz.func160 rfl Tryz.ntmps160 Tryz.results160 rfl ?_
 refine .sr (.p rfl (zB zE) (.nr (.mv rfl rfl (.cl rfl Tryz.call203 (evs1 rfl) (qX _ _ (by assumption) (by assumption) _) (.as rfl rfl (.ng (.seq (.sr ?_))))))))
 refine .mv rfl rfl (.p rfl (zW Tryz.underlying170 (tm rfl)) (.p rfl (yA (tm rfl) zE) (.ng ?_)))
 refine AWP.cond (tm rfl) (fun hc7 => ?_) (fun hc7 => ?_)
 ·try simp only [decide_eq_true_eq] at hc7
  refine .sr (.p rfl (zB zE) (.ng (.ret ?_)))
  refine Next.rt ?_
  refine Ret.go (.cons (.tmp _ _ rfl) .nil) _ (Heap.le.refl _) ?_
  refine ⟨?_, rfl⟩
  have h0 : val xs = 0 := by
   rcases Nat.eq_zero_or_pos (val xs) with h | h
   ·exact h
   ·rw [qN h] at hc7; simp at hc7; omega
  rw [h0]; rfl
 ·try simp only [decide_eq_false_iff_not] at hc7
  have hpos : 0 < val xs := by
   rcases Nat.eq_zero_or_pos (val xs) with h | h
   ·rw [h, aaJ] at hc7; exact absurd rfl hc7
   ·exact h
  have hbl := afX hpos
  have hlb := (qJ (n := (zI (val xs)).getD ((zI (val xs)).length - 1) 0) (k := 32)).2 (Limbs.getD (zO _) _)
  refine .skip ?_
  refine Next.go ?_
  refine .sr (.mv rfl rfl (.p rfl (zW Tryz.underlying170 (tm rfl)) (.p rfl (zZ (tm rfl) zE (by omega)) (.p rfl (ahD zE (tm rfl) (by omega)) (.mv rfl rfl (.mv rfl rfl (.p rfl (zW Tryz.underlying170 (tm rfl)) (.p rfl (zZ (tm rfl) zE (by omega)) ?_))))))))
  refine .p rfl (yE ((zI (val xs)).length - 1) Tryz.underlying170 Tryz.sizeOf112 (tm rfl) (tm rfl) (by omega) (by omega)) (.p rfl (zF Tryz.isAgg112 (tm rfl)) (.cl rfl Tryz.call205 (evs1 rfl) (amF _ (Limbs.getD (zO _) _) _) (.p rfl (zR (tm rfl) (tm rfl) (by omega)) (.as rfl rfl (.ng (.ret ?_))))))
  refine Ret.go (.cons (.tmp _ _ rfl) .nil) _ (Heap.le.refl _) ?_
  refine ⟨?_, rfl⟩
  simp only [yZ]
  congr 1
  omega

def cmp_J (xs ys : List Nat) (H : Heap) : Nat → Env → Heap → Prop := fun k env H1 => ∃ i : Nat, i ≤ xs.length ∧ xs.drop (xs.length - i) = ys.drop (xs.length - i) ∧ env = [(0, .slice 1 (U .u32 xs) .shared), (1, .slice 1 (U .u32 ys) .shared), (22, .int .i64 (xs.length : Int)), (23, .int .i64 (i : Int))] ∧ H = H1 ∧ k = xs.length - i

set_option maxRecDepth 100000 in
theorem bfS (xs : List Nat) (tl : Tail) (hx : Limbs xs) (hl : xs.length ≤ 1000000) (ys : List Nat) (tl2 : Tail) (hy : Limbs ys) (hm : ys.length ≤ 1000000) (H : Heap) : ACall Tryz.prog 208 [.slice 1 (U .u32 xs) tl, .slice 1 (U .u32 ys) tl2] H (fun y H' => y = .int .i64 (apQ (val xs) (val ys)) ∧ H' = H) := by
 have hr := aaI xs
 have hrl := aaP hx
 have hs := aaI ys
 have hsl := aaP hy
 refine ACall.of_body Tryz.func208 rfl Tryz.ntmps208 Tryz.results208 rfl ?_
 refine .sr (.p rfl (zB zE) (.nr (.mv rfl rfl (.cl rfl Tryz.call203 (evs1 rfl) (qX _ _ (by assumption) (by assumption) _) (.mv rfl rfl (.cl rfl Tryz.call203 (evs1 rfl) (qX _ _ (by assumption) (by assumption) _) (.as rfl rfl (.as rfl rfl ?_))))))))
 refine .ng (.seq (.sr (.mv rfl rfl (.p rfl (zW Tryz.underlying170 (tm rfl)) (.mv rfl rfl (.p rfl (zW Tryz.underlying170 (tm rfl)) (.p rfl (aaO (tm rfl) (tm rfl)) (.ng ?_))))))))
 refine AWP.cond (tm rfl) (fun hc15 => ?_) (fun hc15 => ?_)
 ·try simp only [decide_eq_true_eq, ne_eq] at hc15
  refine .seq (.sr (.mv rfl rfl (.p rfl (zW Tryz.underlying170 (tm rfl)) (.mv rfl rfl (.p rfl (zW Tryz.underlying170 (tm rfl)) (.p rfl (zY (tm rfl) (tm rfl)) (.ng ?_)))))))
  refine AWP.cond (tm rfl) (fun hc20 => ?_) (fun hc20 => ?_)
  ·try simp only [decide_eq_true_eq] at hc20
   refine .sr (.p rfl (zB zE) (.ng (.ret ?_)))
   refine Next.rt ?_
   refine Next.rt ?_
   refine Ret.go (.cons (.tmp _ _ rfl) .nil) _ (Heap.le.refl _) ?_
   refine ⟨?_, rfl⟩
   rw [apQ, if_pos (adU (by omega))]; rfl
  ·try simp only [decide_eq_false_iff_not, Int.not_lt] at hc20
   refine .skip ?_
   refine Next.go ?_
   refine .sr (.p rfl (zB zE) (.ng (.ret ?_)))
   refine Next.rt ?_
   refine Ret.go (.cons (.tmp _ _ rfl) .nil) _ (Heap.le.refl _) ?_
   refine ⟨?_, rfl⟩
   have := adU (a := val ys) (b := val xs) (by omega)
   rw [apQ, if_neg (by omega), if_pos this]; rfl
 ·try simp only [decide_eq_false_iff_not, ne_eq, Decidable.not_not] at hc15
  have hLx := zO (val xs)
  have hLy := zO (val ys)
  have hvx := zV (val xs)
  have hvy := zV (val ys)
  have hlen : (zI (val xs)).length = (zI (val ys)).length := by omega
  refine .skip ?_
  refine Next.go ?_
  refine .seq (.sr (.mv rfl rfl (.p rfl (zW Tryz.underlying170 (tm rfl)) (.p rfl (zC zE) (.ng (.block ?_))))))
  refine AWP.loopW (cmp_J (zI (val xs)) (zI (val ys)) H) ((zI (val xs)).length) ⟨0, Nat.zero_le _, by rw [Nat.sub_zero, List.drop_length, hlen, List.drop_length], rfl, rfl, rfl⟩ (zA rfl (zA rfl (zA rfl (zA rfl zL)))) (Heap.le.refl _) ?_
  rintro _ _ _ ⟨i, hi, hd, rfl, rfl, rfl⟩
  refine .sr (.p rfl (zY (tm rfl) (tm rfl)) (.ng (.seq ?_)))
  refine AWP.cond (tm rfl) (fun hc24 => ?_) (fun hc24 => ?_)
  ·try simp only [decide_eq_true_eq] at hc24
   have hds : (zI (val xs)).drop ((zI (val xs)).length - 1 - i + 1) = (zI (val ys)).drop ((zI (val xs)).length - 1 - i + 1) := by rw [show (zI (val xs)).length - 1 - i + 1 = (zI (val xs)).length - i by omega]; exact hd
   refine .skip ?_
   refine Next.go ?_
   refine .seq (.block (.sr (.mv rfl rfl (.as rfl rfl (.nr (.mv rfl rfl (.p rfl (zW Tryz.underlying170 (tm rfl)) (.p rfl (zZ (tm rfl) zE (by omega)) ?_))))))))
   refine .mv rfl rfl (.p rfl (zZ (tm rfl) (tm rfl) (by omega)) (.as rfl rfl (.ng (.block (.seq ?_)))))
   refine AWP.draw [(0, true), (1, true), (2, true), (3, true), (4, true), (5, true), (6, true), (7, true), (8, true), (9, true)] rfl (by decide +kernel) ?_
   refine .p rfl rfl (zC (tm rfl)) (.p rfl rfl (zC (tm rfl)) (.p rfl rfl (yE ((zI (val xs)).length - 1 - i) Tryz.underlying170 Tryz.sizeOf112 (tm rfl) (tm rfl) (by omega) (by omega)) (.p rfl rfl (zF Tryz.isAgg112 (tm rfl)) (.p rfl rfl (zC (tm rfl)) (.p rfl rfl (zC (tm rfl)) (.p rfl rfl (yE ((zI (val xs)).length - 1 - i) Tryz.underlying170 Tryz.sizeOf112 (tm rfl) (tm rfl) (by omega) (by omega)) (.p rfl rfl (zF Tryz.isAgg112 (tm rfl)) (.p rfl rfl (zY (tm rfl) (tm rfl)) ?_))))))))
   refine .p rfl rfl (zB (tm rfl)) (.nil ?_)
   refine Next.go ?_
   refine AWP.cond (tm rfl) (fun hc31 => ?_) (fun hc31 => ?_)
   ·try simp only [decide_eq_true_eq] at hc31
    refine .sr (.p rfl (zB zE) (.ng (.ret ?_)))
    refine Block.rt ?_
    refine Block.rt ?_
    refine Next.rt ?_
    refine Next.rt ?_
    refine Block.rt ?_
    refine Next.rt ?_
    refine Ret.go (.cons (.tmp _ _ rfl) .nil) _ (Heap.le.refl _) ?_
    refine ⟨?_, rfl⟩
    have := aeM hLx hLy hlen (k := (zI (val xs)).length - 1 - i) (by omega) hds (by omega)
    rw [hvx, hvy] at this
    rw [apQ, if_pos (by omega)]; rfl
   ·try simp only [decide_eq_false_iff_not, Int.not_lt] at hc31
    refine .seq ?_
    refine AWP.draw [(0, true), (1, true), (2, true), (3, true), (4, true), (5, true), (6, true), (7, true), (8, true), (9, true)] rfl (by decide +kernel) ?_
    refine .p rfl rfl (zC (tm rfl)) (.p rfl rfl (zC (tm rfl)) (.p rfl rfl (yE ((zI (val xs)).length - 1 - i) Tryz.underlying170 Tryz.sizeOf112 (tm rfl) (tm rfl) (by omega) (by omega)) (.p rfl rfl (zF Tryz.isAgg112 (tm rfl)) (.p rfl rfl (zC (tm rfl)) (.p rfl rfl (zC (tm rfl)) (.p rfl rfl (yE ((zI (val xs)).length - 1 - i) Tryz.underlying170 Tryz.sizeOf112 (tm rfl) (tm rfl) (by omega) (by omega)) (.p rfl rfl (zF Tryz.isAgg112 (tm rfl)) (.p rfl rfl (yF (tm rfl) (tm rfl)) ?_))))))))
    refine .p rfl rfl (zB (tm rfl)) (.nil ?_)
    refine Next.go ?_
    refine AWP.cond (tm rfl) (fun hc41 => ?_) (fun hc41 => ?_)
    ·try simp only [decide_eq_true_eq] at hc41
     refine .sr (.p rfl (zB zE) (.ng (.ret ?_)))
     refine Block.rt ?_
     refine Block.rt ?_
     refine Next.rt ?_
     refine Next.rt ?_
     refine Block.rt ?_
     refine Next.rt ?_
     refine Ret.go (.cons (.tmp _ _ rfl) .nil) _ (Heap.le.refl _) ?_
     refine ⟨?_, rfl⟩
     have := aeM hLy hLx hlen.symm (k := (zI (val xs)).length - 1 - i) (by omega) hds.symm (by omega)
     rw [hvx, hvy] at this
     rw [apQ, if_neg (by omega), if_pos (by omega)]; rfl
    ·try simp only [decide_eq_false_iff_not, Int.not_lt] at hc41
     refine .skip ?_
     refine Block.go ?_
     refine Block.go ?_
     refine Next.go ?_
     refine .region (.p rfl (zR (tm rfl) zE (by omega)) (.mv rfl rfl (.ng ?_)))
     refine Round.mk (J := cmp_J (zI (val xs)) (zI (val ys)) H) ⟨i + 1, by omega, by rw [show (zI (val xs)).length - (i + 1) = (zI (val xs)).length - 1 - i by omega]; exact arW hlen (by omega) hds (by omega), rfl, rfl, rfl⟩ (zA rfl (zA rfl (zA rfl (zA rfl zL)))) (Heap.le.refl _) (by omega)
  ·try simp only [decide_eq_false_iff_not, Int.not_lt] at hc24
   refine .exit ?_
   refine Next.ex ?_
   refine Next.ex ?_
   refine Block.hit ?_
   refine Next.go ?_
   refine .sr (.p rfl (zB zE) (.ng (.ret ?_)))
   refine Ret.go (.cons (.tmp _ _ rfl) .nil) _ (Heap.le.refl _) ?_
   refine ⟨?_, rfl⟩
   have h0 : (zI (val xs)).length - i = 0 := by omega
   have hxy : zI (val xs) = zI (val ys) := by rw [h0] at hd; simpa using hd
   rw [arK hxy, apQ, if_neg (Nat.lt_irrefl _), if_neg (Nat.lt_irrefl _)]; rfl

end
theorem amG : ∀ k, k = 32 * 256 → BIG = 2 ^ k := by intro k hk; unfold BIG; rw [show (4294967296 : Nat) = 2 ^ 32 by decide, ← Nat.pow_mul, hk]
theorem agE {a b k : Nat} (h : a < 2 ^ k) : (b * 2 ^ k) ||| a = b * 2 ^ k + a := by
 rw [Nat.mul_comm, Nat.two_pow_add_eq_or_of_lt h]
theorem atZ {a b k : Nat} (h : a < 2 ^ k) : a ||| (b * 2 ^ k) = a + b * 2 ^ k := by
 rw [Nat.or_comm, agE h, Nat.add_comm]
theorem asO {zs : List Nat} {i v : Nat} (h : i < zs.length) : val (zs.set i v) + 4294967296 ^ i * zs.getD i 0 = val zs + 4294967296 ^ i * v := by
 induction zs generalizing i with
 | nil => simp at h
 | cons z zs ih =>
  cases i with
  | zero => simp [val]; omega
  | succ i =>
   have := ih (i := i) (by simpa using h)
   rw [List.set_cons_succ, val, val, List.getD_cons_succ, Nat.pow_succ]
   generalize 4294967296 ^ i = B at *
   generalize zs.getD i 0 = x at *
   have e1 : B * 4294967296 * x = 4294967296 * (B * x) := by rw [Nat.mul_comm B, Nat.mul_assoc]
   have e2 : B * 4294967296 * v = 4294967296 * (B * v) := by rw [Nat.mul_comm B, Nat.mul_assoc]
   rw [e1, e2]; omega
theorem getD_set_ne {zs : List Nat} {i j v : Nat} (h : i ≠ j) : (zs.set i v).getD j 0 = zs.getD j 0 := by
 rw [List.getD_eq_getElem?_getD, List.getD_eq_getElem?_getD, List.getElem?_set_ne h]
theorem apH {zs : List Nat} {i v : Nat} (h : i < zs.length) : (zs.set i v).getD i 0 = v := by
 rw [List.getD_eq_getElem?_getD, List.getElem?_set_self h]; rfl
theorem awS (n j : Nat) : (List.replicate n 0).getD j 0 = 0 := by
 rw [List.getD_eq_getElem?_getD, List.getElem?_replicate]; split <;> rfl
theorem awH {x y o c : Nat} (hx : x < 4294967296) (hy : y < 4294967296) (ho : o < 4294967296) (hc : c < 4294967296) : x * y + o + c < 18446744073709551616 := by
 have : x * y ≤ 4294967295 * 4294967295 := Nat.mul_le_mul (by omega) (by omega)
 omega
theorem awG {zs o0 xs ys : List Nat} {i k c : Nat} (hi : i + k < zs.length) (h : val zs + 4294967296 ^ (i + k) * c = val o0 + 4294967296 ^ i * xs.getD i 0 * val (ys.take k)) :
  val (zs.set (i + k) ((xs.getD i 0 * ys.getD k 0 + zs.getD (i + k) 0 + c) % 4294967296)) + 4294967296 ^ (i + (k + 1)) * ((xs.getD i 0 * ys.getD k 0 + zs.getD (i + k) 0 + c) / 4294967296) = val o0 + 4294967296 ^ i * xs.getD i 0 * val (ys.take (k + 1)) := by
 have e := asO (zs := zs) (i := i + k) (v := (xs.getD i 0 * ys.getD k 0 + zs.getD (i + k) 0 + c) % 4294967296) hi
 rw [qD ys, ← Nat.add_assoc, Nat.pow_succ]
 rw [Nat.pow_add] at *
 generalize xs.getD i 0 = x at *
 generalize ys.getD k 0 = y at *
 generalize zs.getD (i + k) 0 = o at *
 generalize 4294967296 ^ i = A at *
 generalize 4294967296 ^ k = B at *
 generalize val (ys.take k) = w at *
 generalize val (zs.set (i + k) ((x * y + o + c) % 4294967296)) = u at *
 have e3 : A * B * ((x * y + o + c) % 4294967296) + A * B * 4294967296 * ((x * y + o + c) / 4294967296) = A * B * (x * y + o + c) := by
  rw [Nat.mul_assoc (A * B), ← Nat.mul_add, Nat.mod_add_div]
 have e4 : A * B * (x * y + o + c) = A * x * (B * y) + A * B * o + A * B * c := by
  rw [Nat.mul_add, Nat.mul_add]
  congr 2
  rw [Nat.mul_assoc, Nat.mul_assoc, Nat.mul_left_comm B x y]
 rw [Nat.mul_add]
 omega
theorem bdN {zs o0 xs ys : List Nat} {i m c : Nat} (hm : ys.length = m) (hi : i + m < zs.length) (hz : zs.getD (i + m) 0 = 0) (h0 : val o0 = val (xs.take i) * val ys) (h : val zs + 4294967296 ^ (i + m) * c = val o0 + 4294967296 ^ i * xs.getD i 0 * val (ys.take m)) :
  val (zs.set (i + m) c) = val (xs.take (i + 1)) * val ys := by
 have e := asO (zs := zs) (i := i + m) (v := c) hi
 rw [hz, Nat.mul_zero, Nat.add_zero] at e
 have ey : ys.take m = ys := List.take_of_length_le (by omega)
 rw [e, h, h0, ey, qD, Nat.add_mul]
theorem ayA {ws xs : List Nat} {i c s : Nat} (hi : i < ws.length) (hs : s ≤ 32) (hx : xs.getD i 0 < 4294967296) (hc : c < 2 ^ s) (h : val (ws.take i) + 4294967296 ^ i * c = val (xs.take i) * 2 ^ s) :
  val ((ws.set i ((c + xs.getD i 0 * 2 ^ s) % 4294967296)).take (i + 1)) + 4294967296 ^ (i + 1) * ((c + xs.getD i 0 * 2 ^ s) / 4294967296) = val (xs.take (i + 1)) * 2 ^ s ∧ (c + xs.getD i 0 * 2 ^ s) / 4294967296 < 2 ^ s ∧ c + xs.getD i 0 * 2 ^ s < 18446744073709551616 := by
 refine ⟨?_, ?_, ?_⟩
 ·rw [adQ hi, qD xs, Nat.pow_succ, Nat.add_mul, ← h]
  generalize xs.getD i 0 = x at *
  generalize 4294967296 ^ i = B at *
  generalize 2 ^ s = S at *
  have e3 : B * ((c + x * S) % 4294967296) + B * 4294967296 * ((c + x * S) / 4294967296) = B * (c + x * S) := by
   rw [Nat.mul_assoc B, ← Nat.mul_add, Nat.mod_add_div]
  rw [Nat.mul_add, ← Nat.mul_assoc] at e3
  omega
 ·rw [Nat.div_lt_iff_lt_mul (by decide)]
  have : xs.getD i 0 * 2 ^ s ≤ 4294967295 * 2 ^ s := Nat.mul_le_mul_right _ (by omega)
  omega
 ·have h1 : xs.getD i 0 * 2 ^ s ≤ 4294967295 * 2 ^ s := Nat.mul_le_mul_right _ (by omega)
  have h2 : 2 ^ s ≤ 2 ^ 32 := Nat.pow_le_pow_right (by decide) hs
  omega
theorem avI {ws : List Nat} {n c v : Nat} (hL : Limbs ws) (hn : ws.length = n) (h : val (ws.take n) + 4294967296 ^ n * c = v) : val ws = v % 4294967296 ^ n := by
 have := adR hL
 rw [hn] at this
 rw [List.take_of_length_le (by omega)] at h
 rw [← h, Nat.add_mul_mod_self_left, Nat.mod_eq_of_lt this]
theorem axY {zs z0 : List Nat} {k d r : Nat} (hd : 0 < d) (hk : k < zs.length) (hl : zs.length = z0.length) (hg : zs.getD k 0 = z0.getD k 0) (h : val (zs.drop (k + 1)) * d + r = val (z0.drop (k + 1))) :
  val ((zs.set k ((r * 4294967296 + z0.getD k 0) / d)).drop k) * d + (r * 4294967296 + z0.getD k 0) % d = val (z0.drop k) := by
 have hk0 : k < z0.length := by omega
 have e1 : (zs.set k ((r * 4294967296 + z0.getD k 0) / d)).drop k = (r * 4294967296 + z0.getD k 0) / d :: zs.drop (k + 1) := by
  rw [List.drop_eq_getElem_cons (by simpa using hk), List.getElem_set_self, List.drop_set_of_lt (by omega)]
 have e2 : z0.drop k = z0.getD k 0 :: z0.drop (k + 1) := by
  rw [List.drop_eq_getElem_cons hk0, List.getD_eq_getElem?_getD, List.getElem?_eq_getElem hk0]; rfl
 rw [e1, e2, val, val, ← h]
 generalize z0.getD k 0 = x
 generalize val (zs.drop (k + 1)) = w
 have e3 := Nat.div_add_mod (r * 4294967296 + x) d
 generalize (r * 4294967296 + x) / d = q at *
 generalize (r * 4294967296 + x) % d = m at *
 rw [Nat.add_mul, Nat.mul_comm q d, Nat.mul_assoc, Nat.mul_add 4294967296 (w * d) r]
 omega
theorem axZ {r x d : Nat} (hr : r < d) (hx : x < 4294967296) (hd : d < 4294967296) : (r * 4294967296 + x) / d < 4294967296 ∧ r * 4294967296 + x < 18446744073709551616 := by
 refine ⟨?_, by omega⟩
 rw [Nat.div_lt_iff_lt_mul (by omega)]
 have : (r + 1) * 4294967296 ≤ d * 4294967296 := Nat.mul_le_mul_right _ hr
 omega
section
open Go Go.RowKit

def resN (p : Prop) [Decidable p] (v : Nat) : AV := .tuple [aaM (if p then v else 0), .int .i64 (if p then 0 else 2)]
theorem aqK {p : Prop} [Decidable p] {v : Nat} (h : p) : resN p v = .tuple [aaM v, .int .i64 0] := by unfold resN; rw [if_pos h, if_pos h]
theorem aqL {p : Prop} [Decidable p] {v : Nat} (h : ¬ p) : resN p v = .tuple [aaM 0, .int .i64 2] := by unfold resN; rw [if_neg h, if_neg h]
theorem ayG {p q : Prop} [Decidable p] [Decidable q] {v : Nat} (h : p ↔ q) : resN p v = resN q v := by
 by_cases hp : p
 ·rw [aqK hp, aqK (h.1 hp)]
 ·rw [aqL hp, aqL (fun hq => hp (h.2 hq))]
def fitN (v : Nat) : AV := resN (v < BIG) v
def mulN (a b : Nat) : AV := resN (a < BIG ∧ b < BIG ∧ a * b < BIG) (a * b)
def numA (p : List Nat × Tail) : AV := .slice 1 (U .u32 p.1) p.2
def bigB (p : List Nat × Tail) : Bool := decide (256 < qF p.1)
theorem take_any {α : Type} {l : List α} {q : α → Bool} {i : Nat} (hi : i < l.length) (h : (l.take i).any q = false) (hq : q l[i] = false) : (l.take (i + 1)).any q = false := by
 rw [← List.take_append_getElem hi, List.any_append, h]; simp [hq]
theorem get_any {α : Type} {l : List α} {q : α → Bool} {i : Nat} (hi : i < l.length) (hq : q l[i] = true) : l.any q = true := by
 rw [List.any_eq_true]; exact ⟨l[i], List.getElem_mem hi, hq⟩

def over_J (l : List (List Nat × Tail)) (tl : Tail) (H : Heap) : Nat → Env → Heap → Prop := fun k env H1 => ∃ i : Nat, i ≤ l.length ∧ (l.take i).any bigB = false ∧ env = [(0, .slice 1 (l.map numA) tl), (5, .slice 1 (l.map numA) tl), (6, .int .i64 (l.length : Int)), (7, .int .i64 (i : Int))] ∧ H = H1 ∧ k = l.length - i

set_option maxRecDepth 100000 in
theorem anK (l : List (List Nat × Tail)) (tl : Tail) (hx : ∀ p, p ∈ l → Limbs p.1) (hl : ∀ p, p ∈ l → p.1.length ≤ 1000000) (hL : l.length ≤ 1000) (H : Heap) : ACall Tryz.prog 202 [.slice 1 (l.map numA) tl] H (fun y H' => y = .bool (l.any bigB) ∧ H' = H) := by
 refine ACall.of_body Tryz.func202 rfl Tryz.ntmps202 Tryz.results202 rfl ?_
 refine .sr (.p rfl (zB zK) (.ng (.seq (.sr (.mv rfl rfl (.p rfl (aeE Tryz.underlying272 (tm rfl)) (.p rfl (zC zE) (.ng ?_))))))))
 refine .block ?_
 refine AWP.loopW (over_J l tl H) (l.length) ⟨0, Nat.zero_le _, rfl, rfl, rfl, rfl⟩ (zA rfl (zA rfl (zA rfl (zA rfl zL)))) (Heap.le.refl _) ?_
 rintro _ _ _ ⟨i, hi, hany, rfl, rfl, hk⟩
 refine .sr (.p rfl (zY (tm rfl) (tm rfl)) (.ng (.seq ?_)))
 refine AWP.cond (tm rfl) (fun hc8 => ?_) (fun hc8 => ?_)
 ·try simp only [decide_eq_true_eq] at hc8
  have hi2 : i < l.length := by omega
  refine .skip ?_
  refine Next.go ?_
  refine .seq (.block (.sr (.p rfl (aaT Tryz.underlying272 Tryz.sizeOf170 (tm rfl) (tm rfl) (by omega) (by omega)) (.p rfl (zF Tryz.isAgg170 (tm rfl)) (.as rfl rfl (.nr (.mv rfl rfl (.cl rfl Tryz.call206 (evs1 rfl) (abO l[i].1 l[i].2 (hx _ (List.getElem_mem hi2)) (hl _ (List.getElem_mem hi2)) _) ?_))))))))
  refine .p rfl (yF (tm rfl) zE) (.ng ?_)
  refine AWP.cond (tm rfl) (fun hc13 => ?_) (fun hc13 => ?_)
  ·try simp only [decide_eq_true_eq] at hc13
   have hb : bigB l[i] = true := by unfold bigB; simp only [decide_eq_true_eq]; omega
   refine .sr (.p rfl (zB zK) (.ng (.ret ?_)))
   refine Block.rt ?_
   refine Next.rt ?_
   refine Next.rt ?_
   refine Block.rt ?_
   refine Next.rt ?_
   refine Ret.go (.cons (.tmp _ _ rfl) .nil) _ (Heap.le.refl _) ?_
   refine ⟨?_, rfl⟩
   rw [get_any hi2 hb]; rfl
  ·try simp only [decide_eq_false_iff_not, Int.not_lt] at hc13
   have hb : bigB l[i] = false := by unfold bigB; simp only [decide_eq_false_iff_not]; omega
   refine .skip ?_
   refine Block.go ?_
   refine Next.go ?_
   refine .region (.p rfl (zR (tm rfl) zE (by omega)) (.mv rfl rfl (.ng ?_)))
   refine Round.mk (J := over_J l tl H) ⟨i + 1, by omega, take_any hi2 hany hb, rfl, rfl, rfl⟩ (zA rfl (zA rfl (zA rfl (zA rfl zL)))) (Heap.le.refl _) (by omega)
 ·try simp only [decide_eq_false_iff_not, Int.not_lt] at hc8
  refine .exit ?_
  refine Next.ex ?_
  refine Next.ex ?_
  refine Block.hit ?_
  refine Next.go ?_
  refine .sr (.p rfl (zB zK) (.ng (.ret ?_)))
  refine Ret.go (.cons (.tmp _ _ rfl) .nil) _ (Heap.le.refl _) ?_
  refine ⟨?_, rfl⟩
  rw [List.take_of_length_le (by omega)] at hany
  rw [hany]; rfl

set_option maxRecDepth 100000 in
theorem anT (xs : List Nat) (tl : Tail) (hx : Limbs xs) (hl : xs.length ≤ 1000000) (H : Heap) : ACall Tryz.prog 204 [.slice 1 (U .u32 xs) tl] H (fun y H' => y = fitN (val xs) ∧ H' = H) := by
 have hb := @arL (val xs)
 have hr := aaI xs
 have hrl := aaP hx
 refine ACall.of_body Tryz.func204 rfl Tryz.ntmps204 Tryz.results204 rfl ?_
 refine .sr ?_
 refine .p rfl (zB (qR (sz := 1) (tl := .shared))) ?_
 refine .p rfl (zB zE) (.ng (.seq (.sr (.mv rfl rfl (.cl rfl Tryz.call203 (evs1 rfl) (qX _ _ (by assumption) (by assumption) _) (.as rfl rfl (.nr (.mv rfl rfl ?_))))))))
 refine .p rfl (zW Tryz.underlying170 (tm rfl)) (.p rfl (yF (tm rfl) zE) (.ng ?_))
 refine AWP.cond (tm rfl) (fun hc8 => ?_) (fun hc8 => ?_)
 ·try simp only [decide_eq_true_eq] at hc8
  refine .sr ?_
  refine .p rfl (zB (qR (sz := 1) (tl := .shared))) ?_
  refine .p rfl (zB zE) (.ng (.ret ?_))
  refine Next.rt ?_
  refine Ret.go (.cons (.tmp _ _ rfl) (.cons (.tmp _ _ rfl) .nil)) _ (Heap.le.refl _) ?_
  refine ⟨?_, rfl⟩
  rw [fitN, aqL (by omega)]; rfl
 ·try simp only [decide_eq_false_iff_not, Int.not_lt] at hc8
  refine .skip ?_
  refine Next.go ?_
  refine .sr (.mv rfl rfl (.as rfl rfl (.p rfl (zB zE) (.ng (.ret ?_)))))
  refine Ret.go (.cons (.tmp _ _ rfl) (.cons (.tmp _ _ rfl) .nil)) _ (Heap.le.refl _) ?_
  refine ⟨?_, rfl⟩
  rw [fitN, aqK (by omega)]; rfl

theorem two_big {xs ys : List Nat} {tl tl2 : Tail} (hx : Limbs xs) (hy : Limbs ys) : [(xs, tl), (ys, tl2)].any bigB = decide (BIG ≤ val xs ∨ BIG ≤ val ys) := by
 have h1 := akP hx
 have h2 := akP hy
 have e : ∀ a b : Prop, ∀ [Decidable a] [Decidable b], (decide a || decide b) = decide (a ∨ b) := by intro a b _ _; by_cases a <;> by_cases b <;> simp_all
 simp only [List.any_cons, List.any_nil, Bool.or_false, bigB, h1, h2, e]
theorem one_big {xs : List Nat} {tl : Tail} (hx : Limbs xs) : [(xs, tl)].any bigB = decide (BIG ≤ val xs) := by
 have h1 := akP hx
 simp only [List.any_cons, List.any_nil, Bool.or_false, bigB, h1]
theorem alF (xs : List Nat) (tl tl3 : Tail) (hx : Limbs xs) (hl : xs.length ≤ 1000000) (H : Heap) : ACall Tryz.prog 202 [.slice 1 [.slice 1 (U .u32 xs) tl] tl3] H (fun y H' => y = .bool (decide (BIG ≤ val xs)) ∧ H' = H) := by
 rw [← one_big (tl := tl) hx]
 exact anK [(xs, tl)] tl3 (by simpa using hx) (by simpa using hl) (by simp) H
theorem agO (xs : List Nat) (tl : Tail) (hx : Limbs xs) (hl : xs.length ≤ 1000000) (ys : List Nat) (tl2 tl3 : Tail) (hy : Limbs ys) (hm : ys.length ≤ 1000000) (H : Heap) : ACall Tryz.prog 202 [.slice 1 [.slice 1 (U .u32 xs) tl, .slice 1 (U .u32 ys) tl2] tl3] H (fun y H' => y = .bool (decide (BIG ≤ val xs ∨ BIG ≤ val ys)) ∧ H' = H) := by
 rw [← two_big (tl := tl) (tl2 := tl2) hx hy]
 refine anK [(xs, tl), (ys, tl2)] tl3 ?_ ?_ (by simp) H
 ·intro p hp
  rcases List.mem_cons.1 hp with rfl | hp
  ·exact hx
  rcases List.mem_cons.1 hp with rfl | hp
  ·exact hy
  simp at hp
 ·intro p hp
  rcases List.mem_cons.1 hp with rfl | hp
  ·exact hl
  rcases List.mem_cons.1 hp with rfl | hp
  ·exact hm
  simp at hp

end
section
open Go Go.RowKit

def hiN (a b : Nat) : Nat := if (zI a).length < (zI b).length then b else a
def loN (a b : Nat) : Nat := if (zI a).length < (zI b).length then a else b
theorem hi_lo (a b : Nat) : hiN a b + loN a b = a + b ∧ (zI (loN a b)).length ≤ (zI (hiN a b)).length := by
 unfold hiN loN; split <;> omega
theorem qE {n : Nat} (h : n < BIG) : (zI n).length ≤ 256 := by
 have := @arL n
 omega
theorem hi_lt {a b : Nat} (ha : a < BIG) (hb : b < BIG) : hiN a b < BIG := by unfold hiN; split <;> assumption

def add_J (P Q : Nat) (b : Nat) (H : Heap) : Nat → Env → Heap → Prop := fun k env H1 => ∃ (i c : Nat) (zs : List Nat), i ≤ (zI P).length ∧ zs.length = (zI P).length + 1 ∧ Limbs zs ∧ c ≤ 1 ∧ val (zs.take i) + 4294967296 ^ i * c = val ((zI P).take i) + val ((zI Q).take i) ∧ env = [(0, aaM P), (1, aaM Q), (6, .mslice (some ⟨b, 0, none⟩) ((zI P).length + 1) ((zI P).length + 1)), (7, .int .u32 (c : Int)), (30, .int .i64 ((zI P).length : Int)), (31, .int .i64 (i : Int))] ∧ H1 = H.set b (.box 112 (U .u32 zs)) ∧ k = (zI P).length - i

set_option maxRecDepth 100000 in
theorem bfU (xs : List Nat) (tl : Tail) (hx : Limbs xs) (hl : xs.length ≤ 1000000) (ys : List Nat) (tl2 : Tail) (hy : Limbs ys) (hm : ys.length ≤ 1000000) (H : Heap) : ACall Tryz.prog 201 [.slice 1 (U .u32 xs) tl, .slice 1 (U .u32 ys) tl2] H (fun y H' => y = fitN (val xs + val ys) ∧ H' = H) := by
 refine ACall.of_body Tryz.func201 rfl Tryz.ntmps201 Tryz.results201 rfl ?_
 refine .sr ?_
 refine .p rfl (zB (qR (sz := 1) (tl := .shared))) ?_
 refine .p rfl (zB zE) (.ng (.seq (.sr (.mv rfl rfl (.mv rfl rfl (.e rfl (afM Tryz.underlying272 Tryz.sizeOf170 Tryz.zeroValue170 rfl (tm rfl) (.inl rfl) ⟨rfl, rfl⟩ (tm rfl) (.inl rfl) ⟨rfl, rfl⟩) (.cl rfl Tryz.call202 (evs1 rfl) (agO _ _ (by assumption) (by assumption) _ _ _ (by assumption) (by assumption) _) (.ng ?_))))))))
 refine AWP.cond (tm rfl) (fun hc13 => ?_) (fun hc13 => ?_)
 ·try simp only [decide_eq_true_eq] at hc13
  refine .sr ?_
  refine .p rfl (zB (qR (sz := 1) (tl := .shared))) ?_
  refine .p rfl (zB zE) (.ng (.ret ?_))
  refine Next.rt ?_
  refine Ret.go (.cons (.tmp _ _ rfl) (.cons (.tmp _ _ rfl) .nil)) _ (Heap.le.refl _) ?_
  refine ⟨?_, rfl⟩
  rw [fitN, aqL (by omega)]; rfl
 ·try simp only [decide_eq_false_iff_not] at hc13
  refine .skip ?_
  refine Next.go ?_
  refine .sr (.mv rfl rfl (.cl rfl Tryz.call203 (evs1 rfl) (qX _ _ (by assumption) (by assumption) _) (.mv rfl rfl (.cl rfl Tryz.call203 (evs1 rfl) (qX _ _ (by assumption) (by assumption) _) (.as rfl rfl (.as rfl rfl (.ng ?_)))))))
  refine AWP.seqToL [(0, aaM (hiN (val xs) (val ys))), (1, aaM (loN (val xs) (val ys)))] [4, 5] ?_ ?_
  ·refine .sr (.mv rfl rfl (.p rfl (zW Tryz.underlying170 (tm rfl)) (.mv rfl rfl (.p rfl (zW Tryz.underlying170 (tm rfl)) (.p rfl (zY (tm rfl) (tm rfl)) (.ng ?_))))))
   refine AWP.cond (tm rfl) (fun hc22 => ?_) (fun hc22 => ?_)
   ·try simp only [decide_eq_true_eq] at hc22
    refine .region (.mv rfl rfl (.mv rfl rfl (.as rfl rfl (.as rfl rfl (.nil ?_)))))
    exact ⟨rfl, (yH rfl (by simp only [hiN]; split <;> first | rfl | omega) (yH rfl (by simp only [loN]; split <;> first | rfl | omega) (zA rfl (zA rfl zL)))), rfl⟩
   ·try simp only [decide_eq_false_iff_not, Int.not_lt] at hc22
    refine .skip ?_
    exact ⟨rfl, (yH rfl (by simp only [hiN]; split <;> first | rfl | omega) (yH rfl (by simp only [loN]; split <;> first | rfl | omega) (zA rfl (zA rfl zL)))), rfl⟩
  ·refine AWP.sub [(0, _), (1, _), (4, _), (5, _)] (zA rfl (zA rfl (zA rfl (zA rfl zL)))) ?_
   have hs := hi_lo (val xs) (val ys)
   have h256 := qE (hi_lt (a := val xs) (b := val ys) (by omega) (by omega))
   revert hs h256
   generalize hiN (val xs) (val ys) = P
   generalize loN (val xs) (val ys) = Q
   intro hs h256
   refine .sr (.mv rfl rfl (.p rfl (zW Tryz.underlying170 (tm rfl)) (.p rfl (zR (tm rfl) zE (by omega)) (.s rfl (yT ((zI P).length + 1) Tryz.underlying170 Tryz.typeInfo112 Tryz.sizeOf112 Tryz.zeroValue112 (tm rfl) (tm rfl) (by omega) (by omega) (by decide) (by omega)) ?_))))
   rintro _ _ ⟨b28, rfl, hb28, hH⟩
   obtain rfl := hH.symm
   refine .as rfl rfl (.nr (.p rfl (zB (zJ 0)) (.ng (.seq (.sr (.mv rfl rfl (.p rfl (zW Tryz.underlying170 (tm rfl)) (.p rfl (zC zE) ?_))))))))
   refine .ng (.block ?_)
   refine AWP.loopW (add_J P Q b28 H) ((zI P).length) ⟨0, 0, List.replicate ((zI P).length + 1) 0, Nat.zero_le _, by simp, Limbs.rep (by omega), by omega, rfl, rfl, rfl, rfl⟩ (zA rfl (zA rfl (zA rfl (zA rfl (zA rfl (zA rfl zL)))))) (Heap.le.refl _) ?_
   rintro _ _ _ ⟨i, c, zs, hi, hz, hzl, hc, hv, rfl, rfl, hk⟩
   refine .sr (.p rfl (zY (tm rfl) (tm rfl)) (.ng (.seq ?_)))
   refine AWP.cond (tm rfl) (fun hc32 => ?_) (fun hc32 => ?_)
   ·try simp only [decide_eq_true_eq] at hc32
    refine .skip ?_
    refine Next.go ?_
    refine .seq (.block (.sr (.mv rfl rfl (.as rfl rfl (.nr (.p rfl (zB (zJ 0)) (.ng ?_)))))))
    refine AWP.seqToL [(9, .int .u32 (((zI Q).getD i 0 : Nat) : Int))] [0, 1, 6, 7, 30, 31, 8] ?_ ?_
    ·refine .sr (.mv rfl rfl (.mv rfl rfl (.p rfl (zW Tryz.underlying170 (tm rfl)) (.p rfl (zY (tm rfl) (tm rfl)) (.ng ?_)))))
     refine AWP.cond (tm rfl) (fun hc37 => ?_) (fun hc37 => ?_)
     ·try simp only [decide_eq_true_eq] at hc37
      refine .region (.mv rfl rfl (.mv rfl rfl (.p rfl (yE (i) Tryz.underlying170 Tryz.sizeOf112 (tm rfl) (tm rfl) (by omega) (by omega)) (.p rfl (zF Tryz.isAgg112 (tm rfl)) (.as rfl rfl (.nil ?_))))))
      exact ⟨rfl, (yH rfl (by rfl) (zA rfl (zA rfl (zA rfl (zA rfl (zA rfl (zA rfl (zA rfl zL)))))))), rfl⟩
     ·try simp only [decide_eq_false_iff_not, Int.not_lt] at hc37
      refine .skip ?_
      exact ⟨rfl, (yH rfl (by (rw [adV (by omega)])) (zA rfl (zA rfl (zA rfl (zA rfl (zA rfl (zA rfl (zA rfl zL)))))))), rfl⟩
    ·refine AWP.sub [(9, _), (0, _), (1, _), (6, _), (7, _), (30, _), (31, _), (8, _)] (zA rfl (zA rfl (zA rfl (zA rfl (zA rfl (zA rfl (zA rfl (zA rfl zL)))))))) ?_
     refine .region (.mv rfl rfl (.mv rfl rfl (.mv rfl rfl (.mv rfl rfl (.p rfl (yE (i) Tryz.underlying170 Tryz.sizeOf112 (tm rfl) (tm rfl) (by omega) (by omega)) (.p rfl (zF Tryz.isAgg112 (tm rfl)) (.mv rfl rfl (.mv rfl rfl ?_))))))))
     refine .cl rfl Tryz.call236 (evs3 rfl rfl rfl) (amH _ _ _ (Limbs.getD (zO _) _) (Limbs.getD (zO _) _) (by omega) _) (.mv rfl rfl (.p rfl (zD (tm rfl) rfl) (.p rfl (zD (tm rfl) rfl) (.p rfl (yX (i) Tryz.underlying170 Tryz.sizeOf112 (tm rfl) (tm rfl) (by omega) (by omega)) (.e0 (qL Tryz.sizeOf112 (tm rfl) (tm rfl) (Heap.objs_set_same _ _ _) (by omega)) ?_)))))
     try first | rw [Heap.set_set] | rw [Heap.set_under (by assumption)]
     refine .as rfl rfl (.nil ?_)
     refine Block.go ?_
     refine Next.go ?_
     refine .region (.p rfl (zR (tm rfl) zE (by omega)) (.mv rfl rfl (.ng ?_)))
     refine Round.mk (J := add_J P Q b28 H) ⟨i + 1, _, _, by omega, by simpa using hz, Limbs.set hzl (by omega), by have h1 := Limbs.getD (zO P) i; have h2 := Limbs.getD (zO Q) i; omega, axD (by omega) hv, rfl, rfl, rfl⟩ (zA rfl (zA rfl (zA rfl (zA rfl (zA rfl (zA rfl zL)))))) (Heap.le.refl _) (by omega)
   ·try simp only [decide_eq_false_iff_not, Int.not_lt] at hc32
    refine .exit ?_
    refine Next.ex ?_
    refine Next.ex ?_
    refine Block.hit ?_
    refine Next.go ?_
    refine .sr (.mv rfl rfl (.mv rfl rfl (.p rfl (zW Tryz.underlying170 (tm rfl)) (.mv rfl rfl (.p rfl (yX ((zI P).length) Tryz.underlying170 Tryz.sizeOf112 (tm rfl) (tm rfl) (by omega) (by omega)) (.e0 (qL Tryz.sizeOf112 (tm rfl) (tm rfl) (Heap.objs_set_same _ _ _) (by omega)) ?_))))))
    try first | rw [Heap.set_set] | rw [Heap.set_under (by assumption)]
    refine .ng (.seq ?_)
    have hi2 : i = (zI P).length := by omega
    subst hi2
    have hz2 : zs.length ≤ (zI P).length + 1 := by omega
    have hz3 : (zI P).length < zs.length := by omega
    have hv2 := add_end hz rfl hs.2 hv
    rw [zV, zV] at hv2
    refine AWP.frzU (t := 6) rfl hb28 (by simp <;> omega) (Nat.le_refl _) (by simp only [zX]; omega) ?_
    rw [List.take_of_length_le (by simp <;> omega)]
    have hz4 := Limbs.set hzl (i := (zI P).length) (v := c) (by omega)
    have hz5 : (zs.set (zI P).length c).length ≤ 1000000 := by simp <;> omega
    refine .region (.mv rfl rfl (.cl rfl Tryz.call204 (evs1 rfl) (anT _ _ (by assumption) (by assumption) _) (.p rfl (zD (tm rfl) rfl) (.p rfl (zD (tm rfl) rfl) (.as rfl rfl (.as rfl rfl (.ng (.ret ?_))))))))
    refine Ret.go (.cons (.tmp _ _ rfl) (.cons (.tmp _ _ rfl) .nil)) _ (Heap.le.refl _) ?_
    refine ⟨?_, rfl⟩
    rw [← hs.1, ← hv2]; rfl

theorem ajK {zs : List Nat} {i n v : Nat} (h : ∀ j, n ≤ j → zs.getD j 0 = 0) (hi : i < n) : ∀ j, n ≤ j → (zs.set i v).getD j 0 = 0 := fun j hj => by
 rw [getD_set_ne (by omega), h j hj]

def mul_J (P Q : Nat) (b : Nat) (H : Heap) : Nat → Env → Heap → Prop := fun k env H1 => ∃ (i : Nat) (zs : List Nat), i ≤ (zI P).length ∧ zs.length = (zI P).length + (zI Q).length ∧ Limbs zs ∧ (∀ j, i + (zI Q).length ≤ j → zs.getD j 0 = 0) ∧ val zs = val ((zI P).take i) * val (zI Q) ∧ env = [(0, aaM P), (1, aaM Q), (6, .mslice (some ⟨b, 0, none⟩) ((zI P).length + (zI Q).length) ((zI P).length + (zI Q).length)), (26, .int .i64 ((zI P).length : Int)), (27, .int .i64 (i : Int))] ∧ H1 = H.set b (.box 112 (U .u32 zs)) ∧ k = (zI P).length - i

def mulI_J (P Q : Nat) (b i : Nat) (o0 : List Nat) (H : Heap) : Nat → Env → Heap → Prop := fun k env H1 => ∃ (j c : Nat) (zs : List Nat), j ≤ (zI Q).length ∧ zs.length = (zI P).length + (zI Q).length ∧ Limbs zs ∧ c < 4294967296 ∧ (∀ j, i + (zI Q).length ≤ j → zs.getD j 0 = 0) ∧ val zs + 4294967296 ^ (i + j) * c = val o0 + 4294967296 ^ i * (zI P).getD i 0 * val ((zI Q).take j) ∧ env = [(0, aaM P), (1, aaM Q), (6, .mslice (some ⟨b, 0, none⟩) ((zI P).length + (zI Q).length) ((zI P).length + (zI Q).length)), (26, .int .i64 ((zI P).length : Int)), (27, .int .i64 (i : Int)), (7, .int .i64 (i : Int)), (8, .int .u64 (c : Int)), (31, .int .i64 ((zI Q).length : Int)), (32, .int .i64 (j : Int))] ∧ H1 = H.set b (.box 112 (U .u32 zs)) ∧ k = (zI Q).length - j

set_option maxRecDepth 100000 in
theorem bfQ (xs : List Nat) (tl : Tail) (hx : Limbs xs) (hl : xs.length ≤ 1000000) (ys : List Nat) (tl2 : Tail) (hy : Limbs ys) (hm : ys.length ≤ 1000000) (H : Heap) : ACall Tryz.prog 158 [.slice 1 (U .u32 xs) tl, .slice 1 (U .u32 ys) tl2] H (fun y H' => y = mulN (val xs) (val ys) ∧ H' = H) := by
 refine ACall.of_body Tryz.func158 rfl Tryz.ntmps158 Tryz.results158 rfl ?_
 refine .sr ?_
 refine .p rfl (zB (qR (sz := 1) (tl := .shared))) ?_
 refine .p rfl (zB zE) (.ng (.seq (.sr (.mv rfl rfl (.mv rfl rfl (.e rfl (afM Tryz.underlying272 Tryz.sizeOf170 Tryz.zeroValue170 rfl (tm rfl) (.inl rfl) ⟨rfl, rfl⟩ (tm rfl) (.inl rfl) ⟨rfl, rfl⟩) (.cl rfl Tryz.call202 (evs1 rfl) (agO _ _ (by assumption) (by assumption) _ _ _ (by assumption) (by assumption) _) (.ng ?_))))))))
 refine AWP.cond (tm rfl) (fun hc14 => ?_) (fun hc14 => ?_)
 ·try simp only [decide_eq_true_eq] at hc14
  refine .sr ?_
  refine .p rfl (zB (qR (sz := 1) (tl := .shared))) ?_
  refine .p rfl (zB zE) (.ng (.ret ?_))
  refine Next.rt ?_
  refine Ret.go (.cons (.tmp _ _ rfl) (.cons (.tmp _ _ rfl) .nil)) _ (Heap.le.refl _) ?_
  refine ⟨?_, rfl⟩
  rw [mulN, aqL (by omega)]; rfl
 ·try simp only [decide_eq_false_iff_not] at hc14
  refine .skip ?_
  refine Next.go ?_
  refine .sr (.mv rfl rfl (.cl rfl Tryz.call203 (evs1 rfl) (qX _ _ (by assumption) (by assumption) _) (.mv rfl rfl (.cl rfl Tryz.call203 (evs1 rfl) (qX _ _ (by assumption) (by assumption) _) (.as rfl rfl (.as rfl rfl (.ng (.seq ?_))))))))
  have h256 := qE (n := val xs) (by omega)
  have h257 := qE (n := val ys) (by omega)
  have hmul : mulN (val xs) (val ys) = fitN (val xs * val ys) := by
   exact ayG ⟨fun h => h.2.2, fun h => ⟨by omega, by omega, h⟩⟩
  rw [hmul]
  generalize val xs = P at *
  generalize val ys = Q at *
  refine .region (.mv rfl rfl (.p rfl (zW Tryz.underlying170 (tm rfl)) (.mv rfl rfl (.p rfl (zW Tryz.underlying170 (tm rfl)) (.p rfl (zR (tm rfl) (tm rfl) (by omega)) (.s rfl (yT ((zI P).length + (zI Q).length) Tryz.underlying170 Tryz.typeInfo112 Tryz.sizeOf112 Tryz.zeroValue112 (tm rfl) (tm rfl) (by omega) (by omega) (by decide) (by omega)) ?_))))))
  rintro _ _ ⟨b24, rfl, hb24, hH⟩
  obtain rfl := hH.symm
  refine .as rfl rfl (.ng (.seq (.sr (.mv rfl rfl (.p rfl (zW Tryz.underlying170 (tm rfl)) (.p rfl (zC zE) (.ng (.block ?_))))))))
  refine AWP.loopW (mul_J P Q b24 H) ((zI P).length) ⟨0, List.replicate _ 0, Nat.zero_le _, by simp, Limbs.rep (by omega), fun j _ => awS _ _, by rw [ahY, List.take_zero, val, Nat.zero_mul], rfl, rfl, rfl⟩ (zA rfl (zA rfl (zA rfl (zA rfl (zA rfl zL))))) (Heap.le.refl _) ?_
  rintro _ _ _ ⟨i, zs0, hi, hz0, hzl0, h0, hv0, rfl, rfl, hk⟩
  refine .sr (.p rfl (zY (tm rfl) (tm rfl)) (.ng (.seq ?_)))
  refine AWP.cond (tm rfl) (fun hc28 => ?_) (fun hc28 => ?_)
  ·try simp only [decide_eq_true_eq] at hc28
   refine .skip ?_
   refine Next.go ?_
   refine .seq (.block (.sr (.mv rfl rfl (.as rfl rfl (.nr (.p rfl (zB (zJ 0)) (.ng (.seq ?_))))))))
   refine .sr (.mv rfl rfl (.p rfl (zW Tryz.underlying170 (tm rfl)) (.p rfl (zC zE) (.ng (.block ?_)))))
   refine AWP.loopW (mulI_J P Q b24 i zs0 H) ((zI Q).length) ⟨0, 0, zs0, Nat.zero_le _, hz0, hzl0, by omega, h0, by rw [List.take_zero, val, Nat.mul_zero, Nat.mul_zero], rfl, rfl, rfl⟩ (zA rfl (zA rfl (zA rfl (zA rfl (zA rfl (zA rfl (zA rfl (zA rfl (zA rfl zL))))))))) (Heap.le.refl _) ?_
   rintro _ _ _ ⟨j, c, zs, hj, hz, hzl, hc, hzr, hv, rfl, rfl, hk2⟩
   refine .sr (.p rfl (zY (tm rfl) (tm rfl)) (.ng (.seq ?_)))
   refine AWP.cond (tm rfl) (fun hc33 => ?_) (fun hc33 => ?_)
   ·try simp only [decide_eq_true_eq] at hc33
    have hPi := Limbs.getD (zO P) i
    have hQj := Limbs.getD (zO Q) j
    have hZ := Limbs.getD hzl (i + j)
    have hmf := awH hPi hQj hZ hc
    refine .skip ?_
    refine Next.go ?_
    refine .seq (.block (.sr (.mv rfl rfl (.as rfl rfl (.ng (.seq ?_))))))
    refine AWP.draw [(0, true), (1, true), (2, true), (3, true), (4, true), (5, true), (6, true), (7, true), (8, true), (9, true), (10, true), (11, true), (12, true), (13, true), (14, true), (15, true), (19, true), (16, false), (17, true), (18, true), (20, true), (21, true)] rfl (by decide +kernel) ?_
    refine .p rfl rfl (zC (tm rfl)) (.p rfl rfl (zC (tm rfl)) (.p rfl rfl (yE (i) Tryz.underlying170 Tryz.sizeOf112 (tm rfl) (tm rfl) (by omega) (by omega)) (.p rfl rfl (zF Tryz.isAgg112 (tm rfl)) (.p rfl rfl (yD Tryz.underlying112 Tryz.underlying30 (tm rfl) (wrapN64 (by omega))) (.p rfl rfl (zC (tm rfl)) (.p rfl rfl (zC (tm rfl)) (.p rfl rfl (yE (j) Tryz.underlying170 Tryz.sizeOf112 (tm rfl) (tm rfl) (by omega) (by omega)) (.p rfl rfl (zF Tryz.isAgg112 (tm rfl)) ?_))))))))
    refine .p rfl rfl (yD Tryz.underlying112 Tryz.underlying30 (tm rfl) (wrapN64 (by omega))) (.p rfl rfl (acG (tm rfl) (tm rfl) (by omega)) (.p rfl rfl (zC (tm rfl)) (.p rfl rfl (zC (tm rfl)) (.p rfl rfl (zC (tm rfl)) (.p rfl rfl (zR (tm rfl) (tm rfl) (by omega)) (.p rfl rfl (yX (i + j) Tryz.underlying170 Tryz.sizeOf112 (tm rfl) (tm rfl) (by omega) (by omega)) (.p rfl rfl (zC (tm rfl)) (.s rfl rfl (qB Tryz.isAgg112 (tm rfl) (Heap.objs_set_same _ _ _) (by omega)) ?_))))))))
    rintro _ _ ⟨rfl, hH⟩
    obtain rfl := hH.symm
    refine .p rfl rfl (yD Tryz.underlying112 Tryz.underlying30 (tm rfl) (wrapN64 (by omega))) (.p rfl rfl (yL (tm rfl) (tm rfl) (by omega)) (.p rfl rfl (yL (tm rfl) (tm rfl) (by assumption)) (.p rfl rfl (zB (tm rfl)) (.nil ?_))))
    refine Next.go ?_
    refine .region (.mv rfl rfl (.mv rfl rfl (.mv rfl rfl (.p rfl (zR (tm rfl) (tm rfl) (by omega)) (.mv rfl rfl (.p rfl (yS Tryz.underlying30 Tryz.underlying112 rfl (tm rfl)) (.mv rfl rfl (.p rfl (yP (tm rfl) (zJ 32) (by assumption)) ?_))))))))
    refine .p rfl (yX (i + j) Tryz.underlying170 Tryz.sizeOf112 (tm rfl) (tm rfl) (by omega) (by omega)) (.e0 (qL Tryz.sizeOf112 (tm rfl) (tm rfl) (Heap.objs_set_same _ _ _) (by omega)) ?_)
    try first | rw [Heap.set_set] | rw [Heap.set_under (by assumption)]
    refine .as rfl rfl (.nil ?_)
    refine Block.go ?_
    refine Next.go ?_
    refine .region (.p rfl (zR (tm rfl) zE (by omega)) (.mv rfl rfl (.ng ?_)))
    refine Round.mk (J := mulI_J P Q b24 i zs0 H) ⟨j + 1, _, _, by omega, by simpa using hz, Limbs.set hzl (by omega), by omega, fun q hq => ajK hzr (by omega) q hq, awG (by omega) hv, rfl, rfl, rfl⟩ (zA rfl (zA rfl (zA rfl (zA rfl (zA rfl (zA rfl (zA rfl (zA rfl (zA rfl zL))))))))) (Heap.le.refl _) (by omega)
   ·try simp only [decide_eq_false_iff_not, Int.not_lt] at hc33
    have hj2 : j = (zI Q).length := by omega
    subst hj2
    have hcm : c % 2 ^ IntKind.u32.bits = c := Nat.mod_eq_of_lt hc
    refine .exit ?_
    refine Next.ex ?_
    refine Next.ex ?_
    refine Block.hit ?_
    refine Next.go ?_
    refine .region (.mv rfl rfl (.mv rfl rfl (.mv rfl rfl (.p rfl (zW Tryz.underlying170 (tm rfl)) (.p rfl (zR (tm rfl) (tm rfl) (by omega)) (.mv rfl rfl (.p rfl (yS Tryz.underlying30 Tryz.underlying112 rfl (tm rfl)) (.p rfl (yX (i + (zI Q).length) Tryz.underlying170 Tryz.sizeOf112 (tm rfl) (tm rfl) (by omega) (by omega)) ?_))))))))
    refine .e0 (qL Tryz.sizeOf112 (tm rfl) (tm rfl) (Heap.objs_set_same _ _ _) (by omega)) ?_
    try first | rw [Heap.set_set] | rw [Heap.set_under (by assumption)]
    refine .nil ?_
    refine Block.go ?_
    refine Next.go ?_
    refine .region (.p rfl (zR (tm rfl) zE (by omega)) (.mv rfl rfl (.ng ?_)))
    rw [hcm]
    refine Round.mk (J := mul_J P Q b24 H) ⟨i + 1, _, by omega, by simpa using hz, Limbs.set hzl hc, fun j hj => ajK (n := i + 1 + (zI Q).length) (fun j hj => hzr j (by omega)) (by omega) j hj, bdN rfl (by omega) (hzr _ (Nat.le_refl _)) hv0 hv, rfl, rfl, rfl⟩ (zA rfl (zA rfl (zA rfl (zA rfl (zA rfl zL))))) (Heap.le.refl _) (by omega)
  ·try simp only [decide_eq_false_iff_not, Int.not_lt] at hc28
   refine .exit ?_
   refine Next.ex ?_
   refine Next.ex ?_
   refine Block.hit ?_
   refine Next.go ?_
   refine .seq ?_
   have hi2 : i = (zI P).length := by omega
   subst hi2
   rw [List.take_length, zV, zV] at hv0
   refine AWP.frzU (t := 6) rfl hb24 (by omega) (Nat.le_refl _) (by simp only [zX]; omega) ?_
   rw [List.take_of_length_le (by omega)]
   have hz5 : zs0.length ≤ 1000000 := by omega
   refine .region (.mv rfl rfl (.cl rfl Tryz.call204 (evs1 rfl) (anT _ _ (by assumption) (by assumption) _) (.p rfl (zD (tm rfl) rfl) (.p rfl (zD (tm rfl) rfl) (.as rfl rfl (.as rfl rfl (.ng (.ret ?_))))))))
   refine Ret.go (.cons (.tmp _ _ rfl) (.cons (.tmp _ _ rfl) .nil)) _ (Heap.le.refl _) ?_
   refine ⟨?_, rfl⟩
   rw [← hv0]; rfl

end
end Go.Proofs.YtfkeflcdadlmdaaGreatDoor
