import Derived.Test.YtmmgbnolccpjoaaGreatDoorYd
import Derived.WalkKit
import Derived.Test.YtmmgbnolccpjoaaGreatDoorSsk
import Derived.Test.YtmmgbnolccpjoaaGreatDoorS6
import Derived.Test.YtmmgbnolccpjoaaGreatDoorProg
namespace Go.Proofs.YtmmgbnolccpjoaaGreatDoor
def Limbs (xs : List Nat) : Prop := ∀ x, x ∈ xs → x < 4294967296
def val : List Nat → Nat
 | [] => 0
 | x :: xs => x + 4294967296 * val xs
def yL : List Nat → Nat
 | [] => 0
 | x :: xs => if yL xs = 0 ∧ x = 0 then 0 else yL xs + 1
def anZ : Nat → Nat → List Nat
 | 0, _ => []
 | _ + 1, 0 => []
 | f + 1, n + 1 => (n + 1) % 4294967296 :: anZ f ((n + 1) / 4294967296)
def zF (n : Nat) : List Nat := anZ n n
theorem alO : ∀ (f g n : Nat), n ≤ f → n ≤ g → anZ f n = anZ g n
 | 0, 0, _, _, _ => rfl
 | 0, g + 1, n, h, _ => by
  have : n = 0 := by omega
  subst this; rfl
 | f + 1, 0, n, _, h => by
  have : n = 0 := by omega
  subst this; rfl
 | f + 1, g + 1, 0, _, _ => rfl
 | f + 1, g + 1, n + 1, h1, h2 => by
  unfold anZ
  rw [alO f g ((n + 1) / 4294967296) (by omega) (by omega)]
theorem qV : zF 0 = [] := rfl
theorem qE {n : Nat} (h : 0 < n) : zF n = n % 4294967296 :: zF (n / 4294967296) := by
 unfold zF
 obtain ⟨m, rfl⟩ : ∃ m, n = m + 1 := ⟨n - 1, by omega⟩
 show (m + 1) % 4294967296 :: anZ m ((m + 1) / 4294967296) = _
 rw [alO m ((m + 1) / 4294967296) ((m + 1) / 4294967296) (by omega) (Nat.le_refl _)]
theorem zR (n : Nat) : val (zF n) = n := by
 induction n using Nat.strongRecOn with
 | ind n ih =>
  rcases Nat.eq_zero_or_pos n with h | h
  ·subst h; rfl
  ·rw [qE h, val, ih _ (by omega)]; omega
theorem zK (n : Nat) : Limbs (zF n) := by
 induction n using Nat.strongRecOn with
 | ind n ih =>
  rcases Nat.eq_zero_or_pos n with h | h
  ·subst h; intro x hx; simp [qV] at hx
  ·rw [qE h]
   intro x hx
   rcases List.mem_cons.1 hx with rfl | hx
   ·omega
   ·exact ih _ (by omega) x hx
theorem Limbs.cons {x : Nat} {xs : List Nat} (h : Limbs (x :: xs)) : x < 4294967296 ∧ Limbs xs := ⟨h x (by simp), fun y hy => h y (by simp [hy])⟩
theorem Limbs.mk {x : Nat} {xs : List Nat} (hx : x < 4294967296) (h : Limbs xs) : Limbs (x :: xs) := fun y hy => by
 rcases List.mem_cons.1 hy with rfl | hy
 ·exact hx
 ·exact h y hy
theorem Limbs.nil : Limbs [] := fun _ h => by simp at h
theorem Limbs.append {xs ys : List Nat} (h : Limbs xs) (k : Limbs ys) : Limbs (xs ++ ys) := fun y hy => by
 rcases List.mem_append.1 hy with h1 | h1
 ·exact h y h1
 ·exact k y h1
theorem Limbs.take {xs : List Nat} (h : Limbs xs) (n : Nat) : Limbs (xs.take n) := fun y hy => h y (List.mem_of_mem_take hy)
theorem Limbs.drop {xs : List Nat} (h : Limbs xs) (n : Nat) : Limbs (xs.drop n) := fun y hy => h y (List.mem_of_mem_drop hy)
theorem Limbs.rep {n x : Nat} (h : x < 4294967296) : Limbs (List.replicate n x) := fun y hy => by rw [List.eq_of_mem_replicate hy]; exact h
theorem qL : ∀ {xs : List Nat}, yL xs = 0 → val xs = 0
 | [], _ => rfl
 | x :: xs, h => by
  unfold yL at h
  split at h
  ·rename_i hc; rw [val, qL hc.1, hc.2]
  ·omega
theorem qO : ∀ {xs : List Nat}, val xs = 0 → yL xs = 0
 | [], _ => rfl
 | x :: xs, h => by
  rw [val] at h
  unfold yL
  rw [if_pos ⟨qO (by omega), by omega⟩]
theorem adU : ∀ {xs : List Nat}, Limbs xs → xs.take (yL xs) = zF (val xs)
 | [], _ => rfl
 | x :: xs, h => by
  obtain ⟨hx, hxs⟩ := h.cons
  unfold yL
  split
  ·rename_i hc
   rw [val, qL hc.1, hc.2]; rfl
  ·rename_i hc
   rw [List.take_succ_cons, adU hxs]
   have hpos : 0 < val (x :: xs) := by
    rw [val]
    rcases Nat.eq_zero_or_pos x with h0 | h0
    ·rcases Nat.eq_zero_or_pos (val xs) with h1 | h1
     ·exact absurd ⟨qO h1, h0⟩ hc
     ·omega
    ·omega
   rw [qE hpos]
   simp only [val]
   rw [show (x + 4294967296 * val xs) % 4294967296 = x by omega, show (x + 4294967296 * val xs) / 4294967296 = val xs by omega]
theorem aaF : ∀ (xs : List Nat), yL xs ≤ xs.length
 | [] => Nat.le_refl _
 | x :: xs => by
  unfold yL
  have := aaF xs
  split <;> simp <;> omega
theorem aaY {xs : List Nat} (h : Limbs xs) : yL xs = (zF (val xs)).length := by
 rw [← adU h, List.length_take]
 have := aaF xs
 omega
theorem aeR (n : Nat) : yL (zF n) = (zF n).length := by rw [aaY (zK n), zR]
theorem adW {xs : List Nat} {k : Nat} (hk : k < xs.length) : yL (xs.take (k + 1)) = if xs.getD k 0 = 0 then yL (xs.take k) else k + 1 := by
 induction xs generalizing k with
 | nil => simp at hk
 | cons x xs ih =>
  cases k with
  | zero =>
   simp only [List.take_succ_cons, List.take_zero, List.getD_cons_zero]
   unfold yL
   simp [yL]
  | succ k =>
   rw [List.take_succ_cons, List.take_succ_cons]
   have hk' : k < xs.length := by simpa using hk
   simp only [yL, ih hk', List.getD_cons_succ]
   by_cases h : xs.getD k 0 = 0
   ·rw [if_pos h, if_pos h]
   ·rw [if_neg h, if_neg h, if_neg (by omega)]
theorem aaJ : ∀ (xs ys : List Nat), val (xs ++ ys) = val xs + 4294967296 ^ xs.length * val ys
 | [], ys => by simp [val]
 | x :: xs, ys => by
  rw [List.cons_append, val, aaJ xs ys, val, List.length_cons, Nat.pow_succ, Nat.mul_add, ← Nat.mul_assoc, Nat.mul_comm (4294967296 ^ xs.length) 4294967296]
  omega
theorem akA : ∀ {xs : List Nat}, Limbs xs → val xs < 4294967296 ^ xs.length
 | [], _ => by simp [val]
 | x :: xs, h => by
  obtain ⟨hx, hxs⟩ := h.cons
  have := akA hxs
  rw [val, List.length_cons, Nat.pow_succ]
  omega
theorem aoT (n : Nat) : val (List.replicate n 0) = 0 := by
 induction n with
 | zero => rfl
 | succ n ih => rw [List.replicate_succ, val, ih]
theorem qK {n k : Nat} : (zF n).length ≤ k ↔ n < 4294967296 ^ k := by
 induction k generalizing n with
 | zero =>
  rcases Nat.eq_zero_or_pos n with h | h
  ·subst h; simp [qV]
  ·rw [qE h]; simp; omega
 | succ k ih =>
  rcases Nat.eq_zero_or_pos n with h | h
  ·subst h; simp [qV]; exact Nat.pow_pos (by decide)
  ·rw [qE h, List.length_cons, Nat.add_le_add_iff_right, ih, Nat.pow_succ, Nat.div_lt_iff_lt_mul (by decide)]
theorem bfF {a b : Nat} (h : zF a = zF b) : a = b := by rw [← zR a, h, zR]
theorem aoS {xs : List Nat} {k : Nat} (hk : k < xs.length) : val (xs.take (k + 1)) = val (xs.take k) + 4294967296 ^ k * xs.getD k 0 := by
 rw [← List.take_append_getElem hk, aaJ]
 simp only [val, List.length_take, Nat.mul_zero, Nat.add_zero]
 rw [Nat.min_eq_left (by omega)]
 congr 2
 rw [List.getD_eq_getElem?_getD, List.getElem?_eq_getElem hk]; rfl
theorem Limbs.getD {xs : List Nat} (h : Limbs xs) (k : Nat) : xs.getD k 0 < 4294967296 := by
 rw [List.getD_eq_getElem?_getD]
 cases hk : xs[k]? with
 | none => simp
 | some x => exact h x (List.mem_of_getElem? hk)
theorem copied {zs xs : List Nat} {r : Nat} (h : r ≤ xs.length) : (zs.take 0 ++ xs.take r ++ zs.drop (0 + min xs.length r)).take r = xs.take r := by
 rw [List.take_zero, List.nil_append, List.take_append_of_le_length (by rw [List.length_take]; omega), List.take_take, Nat.min_self]
def BIG : Nat := 4294967296 ^ 256
section
open Go Go.RowKit

def aaP (n : Nat) : AV := .slice 1 (U .u32 (zF n)) .shared
def bdV (xs : List Nat) (tl : Tail) (H : Heap) : Nat → Env → Heap → Prop := fun k env H1 => ∃ n : Nat, n ≤ xs.length ∧ yL (xs.take n) = yL xs ∧ env = [(0, .slice 1 (U .u32 xs) tl), (3, .int .i64 (n : Int))] ∧ H = H1 ∧ k = n

set_option maxRecDepth 100000 in
theorem abG (xs : List Nat) (tl : Tail) (hx : Limbs xs) (hl : xs.length ≤ 1000000) (H : Heap) : ACall Tryz.prog 314 [.slice 1 (U .u32 xs) tl] H (fun y H' => y = .int .i64 (yL xs : Int) ∧ H' = H) := by
 refine ACall.of_body Tryz.func314 rfl Tryz.ntmps314 Tryz.results314 rfl ?_
 iterate 14 refine AX ?_
 refine AWP.loopW (bdV xs tl H) (xs.length) ⟨xs.length, Nat.le_refl _, by rw [List.take_length], rfl, rfl, rfl⟩ sX (Heap.le.refl _) ?_
 rintro _ _ _ ⟨n, hn, hr, rfl, rfl, hk⟩
 refine AX ?_
 refine AWP.seqTo 15 (.bool (decide (0 < (n : Int)) && decide (((xs.getD (n - 1) 0 : Nat) : Int) = 0))) [0, 3] ?_ ?_
 ·-- region 2
  iterate 4 refine AX ?_
  refine zH (t := 8) rfl (fun hg8 => ?_) (fun hg8 => ?_)
  ·have hh8 := hg8; try simp only [decide_eq_true_eq] at hh8
   iterate 3 refine AX ?_
   refine .gp rfl rfl rfl (by assumption) (zX (n - 1) Tryz.underlying239 Tryz.sizeOf166 (tm rfl) (tm rfl) (by omega) (by omega)) ?_
   refine AX ?_
   refine .gp rfl rfl rfl (by assumption) (qH (tm rfl) (zE 0)) ?_
   iterate 2 refine AX ?_
   exact ⟨rfl, zS rfl (by simp_all) sX, rfl⟩
  ·have hh8 := hg8; try simp only [decide_eq_false_iff_not, Int.not_lt] at hh8
   iterate 8 refine AX ?_
   exact ⟨rfl, zS rfl (by simp_all) sX, rfl⟩
 ·refine AWP.sub [(15, _), (0, _), (3, _)] sX ?_
  refine AWP.cx rfl (fun hc15 => ?_) (fun hc15 => ?_)
  ·simp only [Bool.and_eq_true, decide_eq_true_eq] at hc15
   iterate 10 refine AX ?_
   have hs := adW (xs := xs) (k := n - 1) (by omega)
   rw [show n - 1 + 1 = n by omega, if_pos (by omega)] at hs
   refine Round.mk (J := bdV xs tl H) ⟨n - 1, by omega, by rw [← hs, hr], rfl, rfl, rfl⟩ (zP rfl (zZ rfl (by rw [show ((n : Int) - 1) = ((n - 1 : Nat) : Int) by omega]) qM)) (Heap.le.refl _) (by omega)
  ·simp only [Bool.and_eq_false_iff, decide_eq_false_iff_not] at hc15
   iterate 12 refine AX ?_
   refine Ret.go (.cons (.tmp _ _ rfl) .nil) _ (Heap.le.refl _) ?_
   refine ⟨?_, rfl⟩
   have hq : n = yL xs := by
    rcases Nat.eq_zero_or_pos n with h0 | h0
    ·subst h0; rw [← hr]; rfl
    ·have hs := adW (xs := xs) (k := n - 1) (by omega)
     rw [show n - 1 + 1 = n by omega, if_neg (by omega), hr] at hs
     exact hs.symm
   rw [hq]; rfl

set_option maxRecDepth 100000 in
theorem qF (xs : List Nat) (tl : Tail) (hx : Limbs xs) (hl : xs.length ≤ 1000000) (H : Heap) : ACall Tryz.prog 311 [.slice 1 (U .u32 xs) tl] H (fun y H' => y = aaP (val xs) ∧ H' = H) := by
 have hr := aaF xs
 refine ACall.of_body Tryz.func311 rfl Tryz.ntmps311 Tryz.results311 rfl ?_
 iterate 2 refine AX ?_
 refine .p rfl (zD (aaO (sz := 1) (tl := .full))) ?_
 iterate 6 refine AX ?_
 refine .cl rfl Tryz.call314 (evs1 rfl) (abG _ _ (by assumption) (by assumption) _) (.p rfl (aeL (_) Tryz.underlying239 Tryz.sizeOf166 (tm rfl) (tm rfl) rfl (by omega)) ?_)
 iterate 4 refine AX ?_
 refine Ret.go (.cons (.tmp _ _ rfl) .nil) _ (Heap.le.refl _) ?_
 refine ⟨?_, rfl⟩
 simp only [zU, aaP]
 rw [adU hx]

set_option maxRecDepth 100000 in
theorem amQ (x y c : Nat) (hx : x < 4294967296) (hy : y < 4294967296) (hc : c ≤ 1) (H : Heap) : ACall Tryz.prog 339 [.int .u32 (x : Int), .int .u32 (y : Int), .int .u32 (c : Int)] H (fun z H' => z = .tuple [.int .u32 ((x + y + c) % 4294967296 : Nat), .int .u32 ((x + y + c) / 4294967296 : Nat)] ∧ H' = H) := by
 refine ACall.of_body Tryz.func339 rfl Tryz.ntmps339 Tryz.results339 rfl ?_
 iterate 2 refine AX ?_
 refine .p rfl (zD (zE 0)) (.p rfl (zD (zE 0)) ?_)
 iterate 25 refine AX ?_
 refine .p rfl (zW (tm rfl) (zE 32) (by omega)) ?_
 iterate 5 refine AX ?_
 refine Ret.go (.cons (.tmp _ _ rfl) (.cons (.tmp _ _ rfl) .nil)) _ (Heap.le.refl _) ?_
 refine ⟨?_, rfl⟩
 simp only [zU, IntKind.bits]
 rw [show (x + y + c) / 2 ^ 32 % 2 ^ 32 = (x + y + c) / 4294967296 by omega]

end
def yE (n : Nat) : Nat := if n = 0 then 0 else n.log2 + 1
theorem blen_pos {n : Nat} (h : 0 < n) : yE n = n.log2 + 1 := if_neg (by omega)
theorem yW {n k : Nat} : yE n ≤ k ↔ n < 2 ^ k := by
 unfold yE
 split
 ·rename_i h; subst h; simp; exact Nat.pow_pos (by decide)
 ·rename_i h
  rw [Nat.add_one_le_iff, Nat.log2_lt h]
theorem aaT {n k : Nat} : k < yE n ↔ 2 ^ k ≤ n := by
 have := @yW n k
 omega
theorem aeH {n k m : Nat} (h : 2 ^ k ≤ n) (hm : m = n / 2 ^ k) : yE n = k + yE m := by
 subst hm
 have hp : 0 < 2 ^ k := Nat.pow_pos (by decide)
 have h1 : 0 < n / 2 ^ k := Nat.div_pos h hp
 have key : ∀ j, yE n ≤ k + j ↔ yE (n / 2 ^ k) ≤ j := fun j => by
  rw [yW, yW, Nat.div_lt_iff_lt_mul hp, Nat.pow_add, Nat.mul_comm]
 have ha := (key (yE (n / 2 ^ k))).2 (Nat.le_refl _)
 have hk : k ≤ yE n := Nat.le_of_lt (aaT.2 h)
 have hb := (key (yE n - k)).1 (by omega)
 omega
theorem blen_16 {x : Nat} (hx : x < 4294967296) : ∃ y n : Nat, (if 65536 ≤ x then x / 65536 else x) = y ∧ (if 65536 ≤ x then (16 : Int) else 0) = n ∧ y < 65536 ∧ yE x = n + yE y := by
 by_cases h : 65536 ≤ x
 ·exact ⟨x / 65536, 16, if_pos h, if_pos h, by omega, aeH (k := 16) h rfl⟩
 ·exact ⟨x, 0, if_neg h, if_neg h, by omega, by omega⟩
theorem blen_8 {y n : Nat} (hy : y < 65536) : ∃ z m : Nat, (if 256 ≤ y then y / 256 else y) = z ∧ (if 256 ≤ y then (n : Int) + 8 else n) = m ∧ z < 256 ∧ n + yE y = m + yE z := by
 by_cases h : 256 ≤ y
 ·exact ⟨y / 256, n + 8, if_pos h, by rw [if_pos h]; simp, by omega, by rw [aeH (n := y) (k := 8) (m := y / 256) h rfl]; omega⟩
 ·exact ⟨y, n, if_neg h, if_neg h, by omega, rfl⟩
def len8tab : List UInt8 := [0, 1, 2, 2, 3, 3, 3, 3, 4, 4, 4, 4, 4, 4, 4, 4, 5, 5, 5, 5, 5, 5, 5, 5, 5, 5, 5, 5, 5, 5, 5, 5, 6, 6, 6, 6, 6, 6, 6, 6, 6, 6, 6, 6, 6, 6, 6, 6, 6, 6, 6, 6, 6, 6, 6, 6, 6, 6, 6, 6, 6, 6, 6, 6, 7, 7, 7, 7, 7, 7, 7, 7, 7, 7, 7, 7, 7, 7, 7, 7, 7, 7, 7, 7, 7, 7, 7, 7, 7, 7, 7, 7, 7, 7, 7, 7, 7, 7, 7, 7, 7, 7, 7, 7, 7, 7, 7, 7, 7, 7, 7, 7, 7, 7, 7, 7, 7, 7, 7, 7, 7, 7, 7, 7, 7, 7, 7, 7] ++ List.replicate 128 8
theorem len8_at {z : Nat} (h : z < 256) : (len8tab.getD z 0).toNat = yE z := by
 have key : ∀ z : Fin 256, (len8tab.getD z.1 0).toNat = yE z.1 := by decide +kernel
 exact key ⟨z, h⟩
theorem aiP {n : Nat} (h : 0 < n) : yE n = 32 * ((zF n).length - 1) + yE ((zF n).getD ((zF n).length - 1) 0) := by
 induction n using Nat.strongRecOn with
 | ind n ih =>
  rw [qE h]
  rcases Nat.eq_zero_or_pos (n / 4294967296) with h0 | h0
  ·rw [h0, qV]
   simp
   congr 1; omega
  ·have := ih _ (by omega) h0
   have hpos : 0 < (zF (n / 4294967296)).length := by rw [qE h0]; simp
   rw [aeH (n := n) (k := 32) (by omega) rfl, show (2 : Nat) ^ 32 = 4294967296 by decide, this, List.length_cons, show (zF (n / 4294967296)).length + 1 - 1 = ((zF (n / 4294967296)).length - 1) + 1 by omega, List.getD_cons_succ]
   omega
theorem ajF {a b : Nat} (h : (zF a).length < (zF b).length) : a < b := by
 rcases Nat.lt_or_ge a b with h1 | h1
 ·exact h1
 ·have h2 : (zF a).length ≤ (zF a).length := Nat.le_refl _
  rw [qK] at h2
  have h3 := qK.2 (Nat.lt_of_le_of_lt h1 h2)
  omega
theorem akB {xs ys : List Nat} (hx : Limbs xs) (hy : Limbs ys) (hl : xs.length = ys.length) {k : Nat} (hk : k < xs.length) (hs : xs.drop (k + 1) = ys.drop (k + 1)) (h : xs.getD k 0 < ys.getD k 0) : val xs < val ys := by
 have e1 : val xs = val (xs.take k) + 4294967296 ^ k * (xs.getD k 0 + 4294967296 * val (xs.drop (k + 1))) := by
  conv => lhs; rw [← List.take_append_drop k xs, aaJ, List.drop_eq_getElem_cons hk, val, List.length_take, Nat.min_eq_left (by omega)]
  rw [List.getD_eq_getElem?_getD, List.getElem?_eq_getElem hk]; rfl
 have hk' : k < ys.length := by omega
 have e2 : val ys = val (ys.take k) + 4294967296 ^ k * (ys.getD k 0 + 4294967296 * val (ys.drop (k + 1))) := by
  conv => lhs; rw [← List.take_append_drop k ys, aaJ, List.drop_eq_getElem_cons hk', val, List.length_take, Nat.min_eq_left (by omega)]
  rw [List.getD_eq_getElem?_getD, List.getElem?_eq_getElem hk']; rfl
 have h1 := akA (hx.take k)
 rw [List.length_take, Nat.min_eq_left (by omega)] at h1
 rw [e1, e2, hs]
 generalize val (ys.drop (k + 1)) = z
 have h2 : 4294967296 ^ k * (xs.getD k 0 + 4294967296 * z + 1) ≤ 4294967296 ^ k * (ys.getD k 0 + 4294967296 * z) := Nat.mul_le_mul_left _ (by omega)
 rw [Nat.mul_add, Nat.mul_one] at h2
 omega
section
open Go Go.RowKit

set_option maxRecDepth 100000 in
theorem aiS (xs : List Nat) (tl : Tail) (hx : Limbs xs) (hl : xs.length ≤ 1000000) (H : Heap) : ACall Tryz.prog 278 [.slice 1 (U .u32 xs) tl] H (fun y H' => y = aaP (val xs) ∧ H' = H) := by
 have hr := aaF xs
 refine ACall.of_body Tryz.func278 rfl Tryz.ntmps278 Tryz.results278 rfl ?_
 iterate 2 refine AX ?_
 refine .p rfl (zD (aaO (sz := 1) (tl := .full))) ?_
 iterate 5 refine AX ?_
 refine .cl rfl Tryz.call314 (evs1 rfl) (abG _ _ (by assumption) (by assumption) _) (.s rfl (yI (_) Tryz.underlying239 Tryz.typeInfo166 Tryz.sizeOf166 Tryz.zeroValue166 (tm rfl) (tm rfl) rfl rfl (by decide) (by omega)) ?_)
 rintro _ _ ⟨b6, rfl, hb6, hH⟩
 obtain rfl := hH.symm
 iterate 7 refine AX ?_
 refine .e rfl (aiC Tryz.underlying239 Tryz.sizeOf166 (tm rfl) (tm rfl) (Heap.objs_set_same _ _ _) (by (simp; done))) ?_
 try first | rw [Heap.set_set] | rw [Heap.set_under (by assumption)]
 iterate 8 refine AX ?_
 refine AWP.frzU (t := 2) rfl hb6 (by simp <;> omega) (Nat.le_refl _) (by simp only [zN]; omega) ?_
 refine AX ?_
 refine Ret.go (.cons (.tmp _ _ rfl) .nil) _ (Heap.le.refl _) ?_
 refine ⟨?_, rfl⟩
 simp only [zU, aaP]
 rw [← adU hx, copied hr]

set_option maxRecDepth 100000 in
theorem amM (x : Nat) (hx : x < 4294967296) (H : Heap) : ACall Tryz.prog 313 [.int .u32 (x : Int)] H (fun y H' => y = .int .i64 (yE x : Int) ∧ H' = H) := by
 have hb32 : ∀ z, z < 256 → yE z ≤ 8 := fun z hz => yW.2 hz
 refine ACall.of_body Tryz.func313 rfl Tryz.ntmps313 Tryz.results313 rfl ?_
 iterate 5 refine AX ?_
 refine AWP.seqToL [(0, .int .u32 ((if 65536 ≤ x then x / 65536 else x : Nat) : Int)), (2, .int .i64 (if 65536 ≤ x then 16 else 0))] [] ?_ ?_
 ·iterate 3 refine AX ?_
  refine .p rfl (abC (tm rfl) (zE 65536)) ?_
  iterate 2 refine AX ?_
  refine AWP.cx rfl (fun hc4 => ?_) (fun hc4 => ?_)
  ·iterate 3 refine AX ?_
   refine .p rfl (anQ (tm rfl) (zE 16) (by assumption)) ?_
   iterate 6 refine AX ?_
   exact ⟨rfl, (zZ rfl (by rw [if_pos (by omega)]) (zZ rfl (by rw [if_pos (by omega)]) qM)), rfl⟩
  ·refine AX ?_
   exact ⟨rfl, (zZ rfl (by rw [if_neg (by omega)]) (zZ rfl (by rw [if_neg (by omega)]) qM)), rfl⟩
 ·refine AWP.sub [(0, _), (2, _)] sX ?_
  obtain ⟨y, n, hy, hn, hyx, hbl⟩ := blen_16 hx
  rw [hy, hn]
  refine AWP.seqToL [(0, .int .u32 ((if 256 ≤ y then y / 256 else y : Nat) : Int)), (2, .int .i64 (if 256 ≤ y then (n : Int) + 8 else n))] [] ?_ ?_
  ·iterate 3 refine AX ?_
   refine .p rfl (abC (tm rfl) (zE 256)) ?_
   iterate 2 refine AX ?_
   refine AWP.cx rfl (fun hc8 => ?_) (fun hc8 => ?_)
   ·iterate 3 refine AX ?_
    refine .p rfl (anQ (tm rfl) (zE 8) (by omega)) ?_
    iterate 8 refine AX ?_
    exact ⟨rfl, (zZ rfl (by rw [if_pos (by omega)]) (zZ rfl (by rw [if_pos (by omega)]) qM)), rfl⟩
   ·refine AX ?_
    exact ⟨rfl, (zZ rfl (by rw [if_neg (by omega)]) (zZ rfl (by rw [if_neg (by omega)]) qM)), rfl⟩
  ·refine AWP.sub [(0, _), (2, _)] sX ?_
   obtain ⟨z, m, hz, hm, hzx, hbz⟩ := blen_8 (n := n) hyx
   rw [hz, hm]
   have hz8 := hb32 z hzx
   have hx32 := (yW (n := x) (k := 32)).2 hx
   iterate 5 refine AX ?_
   refine .p rfl (apM (r := yE z) len8tab Tryz.underlying9 (zM rfl) (tm rfl) (by rfl) (by simp only [IntKind.bits]; show _ < 256; omega) (by rw [show z % 2 ^ IntKind.u8.bits = z from Nat.mod_eq_of_lt hzx]; exact len8_at hzx)) ?_
   iterate 6 refine AX ?_
   refine Ret.go (.cons (.tmp _ _ rfl) .nil) _ (Heap.le.refl _) ?_
   refine ⟨?_, rfl⟩
   rw [hbl, hbz]
   simp [zU]

end
theorem aeS {xs : List Nat} {i : Nat} (h : xs.length ≤ i) : xs.getD i 0 = 0 := by
 grind
theorem qG (xs : List Nat) (i : Nat) : val (xs.take (i + 1)) = val (xs.take i) + 4294967296 ^ i * xs.getD i 0 := by
 rcases Nat.lt_or_ge i xs.length with h | h
 ·exact aoS h
 ·rw [aeS h, List.take_of_length_le (by omega), List.take_of_length_le h]; omega
theorem adJ {zs : List Nat} {i v : Nat} (h : i < zs.length) : val ((zs.set i v).take (i + 1)) = val (zs.take i) + 4294967296 ^ i * v := by
 rw [qG, List.take_set_of_le (Nat.le_refl _)]
 rw [List.getD_eq_getElem?_getD, List.getElem?_set_self h]; rfl
theorem Limbs.set {zs : List Nat} (h : Limbs zs) {i v : Nat} (hv : v < 4294967296) : Limbs (zs.set i v) := fun y hy => by
 rcases List.mem_or_eq_of_mem_set hy with h1 | h1
 ·exact h y h1
 ·rw [h1]; exact hv
theorem akT {xs : List Nat} (h : Limbs xs) : 256 < yL xs ↔ BIG ≤ val xs := by
 rw [aaY h]
 have := @qK (val xs) 256
 unfold BIG
 omega
theorem asN {n : Nat} : 256 < (zF n).length ↔ BIG ≤ n := by
 have := @qK n 256
 unfold BIG
 omega
theorem ayK {zs xs ys : List Nat} {i c : Nat} (hi : i < zs.length) (h : val (zs.take i) + 4294967296 ^ i * c = val (xs.take i) + val (ys.take i)) :
  val ((zs.set i ((xs.getD i 0 + ys.getD i 0 + c) % 4294967296)).take (i + 1)) + 4294967296 ^ (i + 1) * ((xs.getD i 0 + ys.getD i 0 + c) / 4294967296) = val (xs.take (i + 1)) + val (ys.take (i + 1)) := by
 rw [adJ hi, qG xs, qG ys, Nat.pow_succ]
 generalize xs.getD i 0 = x at *
 generalize ys.getD i 0 = y at *
 generalize 4294967296 ^ i = B at *
 have e : B * ((x + y + c) % 4294967296) + B * 4294967296 * ((x + y + c) / 4294967296) = B * (x + y + c) := by
  rw [Nat.mul_assoc, ← Nat.mul_add, Nat.mod_add_div]
 have e2 : B * (x + y + c) = B * x + B * y + B * c := by rw [Nat.mul_add, Nat.mul_add]
 omega
theorem add_end {zs xs ys : List Nat} {n c : Nat} (hz : zs.length = n + 1) (hx : xs.length = n) (hy : ys.length ≤ n) (h : val (zs.take n) + 4294967296 ^ n * c = val (xs.take n) + val (ys.take n)) : val (zs.set n c) = val xs + val ys := by
 have e := adJ (zs := zs) (i := n) (v := c) (by omega)
 rw [List.take_of_length_le (by simp; omega)] at e
 rw [e, h, List.take_of_length_le (by omega), List.take_of_length_le (by omega)]
def bgT (a b : Nat) : Int := if a < b then -1 else if b < a then 1 else 0
theorem bgD {xs ys : List Nat} {k : Nat} (hl : xs.length = ys.length) (hk : k < xs.length) (hs : xs.drop (k + 1) = ys.drop (k + 1)) (he : xs.getD k 0 = ys.getD k 0) : xs.drop k = ys.drop k := by
 rw [List.drop_eq_getElem_cons hk, List.drop_eq_getElem_cons (by omega : k < ys.length), hs]
 congr 1
 rw [List.getD_eq_getElem?_getD, List.getD_eq_getElem?_getD, List.getElem?_eq_getElem hk, List.getElem?_eq_getElem (by omega : k < ys.length)] at he
 simpa using he
section
open Go Go.RowKit

set_option maxRecDepth 100000 in
theorem ajY (v : Nat) (hv : v < 18446744073709551616) (H : Heap) : ACall Tryz.prog 230 [.int .u64 (v : Int)] H (fun y H' => y = aaP v ∧ H' = H) := by
 refine ACall.of_body Tryz.func230 rfl Tryz.ntmps230 Tryz.results230 rfl ?_
 iterate 2 refine AX ?_
 refine .p rfl (zD (aaO (sz := 1) (tl := .full))) ?_
 iterate 7 refine AX ?_
 refine .p rfl (zW (tm rfl) (zE 32) (by assumption)) ?_
 refine AX ?_
 refine .e rfl (afO Tryz.underlying239 Tryz.sizeOf166 Tryz.zeroValue166 rfl (tm rfl) (.inl rfl) ⟨rfl, rfl⟩ (tm rfl) (.inl rfl) ⟨rfl, rfl⟩) ?_
 refine .cl rfl Tryz.call278 (evs1 rfl) (aiS [v % 2 ^ IntKind.u32.bits, v / 2 ^ 32 % 2 ^ IntKind.u32.bits] .full (Limbs.mk (by simp only [IntKind.bits]; omega) (Limbs.mk (by simp only [IntKind.bits]; omega) Limbs.nil)) (by simp) _) ?_
 iterate 4 refine AX ?_
 refine Ret.go (.cons (.tmp _ _ rfl) .nil) _ (Heap.le.refl _) ?_
 refine ⟨?_, rfl⟩
 show aaP _ = _
 congr 1
 simp only [val, IntKind.bits]; omega

set_option maxRecDepth 100000 in
theorem bcE (x : Nat) (hx : x < 4294967296) (H : Heap) : ACall Tryz.prog 340 [.int .u32 (x : Int)] H (fun y H' => y = .int .i64 ((32 - yE x : Nat) : Int) ∧ H' = H) := by
 have hb := (yW (n := x) (k := 32)).2 hx
 refine ACall.of_body Tryz.func340 rfl Tryz.ntmps340 Tryz.results340 rfl ?_
 iterate 8 refine AX ?_
 refine .cl rfl Tryz.call313 (evs1 rfl) (amM _ (by assumption) _) ?_
 iterate 5 refine AX ?_
 refine Ret.go (.cons (.tmp _ _ rfl) .nil) _ (Heap.le.refl _) ?_
 refine ⟨?_, rfl⟩
 simp only [zU]
 congr 1
 omega

set_option maxRecDepth 100000 in
theorem atQ (xs : List Nat) (tl : Tail) (hx : Limbs xs) (hl : xs.length ≤ 1000000) (H : Heap) : ACall Tryz.prog 271 [.slice 1 (U .u32 xs) tl] H (fun y H' => y = .int .i64 (yE (val xs) : Int) ∧ H' = H) := by
 have hr := aaF xs
 have hrl := aaY hx
 refine ACall.of_body Tryz.func271 rfl Tryz.ntmps271 Tryz.results271 rfl ?_
 iterate 8 refine AX ?_
 refine .cl rfl Tryz.call311 (evs1 rfl) (qF _ _ (by assumption) (by assumption) _) ?_
 iterate 11 refine AX ?_
 refine AWP.cx rfl (fun hc7 => ?_) (fun hc7 => ?_)
 ·iterate 7 refine AX ?_
  refine Ret.go (.cons (.tmp _ _ rfl) .nil) _ (Heap.le.refl _) ?_
  refine ⟨?_, rfl⟩
  have h0 : val xs = 0 := by
   rcases Nat.eq_zero_or_pos (val xs) with h | h
   ·exact h
   ·rw [qE h] at hc7; simp at hc7; omega
  rw [h0]; rfl
 ·have hpos : 0 < val xs := by
   rcases Nat.eq_zero_or_pos (val xs) with h | h
   ·rw [h, qV] at hc7; exact absurd rfl hc7
   ·exact h
  have hbl := aiP hpos
  have hlb := (yW (n := (zF (val xs)).getD ((zF (val xs)).length - 1) 0) (k := 32)).2 (Limbs.getD (zK _) _)
  iterate 7 refine AX ?_
  refine .p rfl (axG zI (tm rfl) (by omega)) ?_
  iterate 4 refine AX ?_
  refine .p rfl (zX ((zF (val xs)).length - 1) Tryz.underlying239 Tryz.sizeOf166 (tm rfl) (tm rfl) (by omega) (by omega)) ?_
  refine AX ?_
  refine .cl rfl Tryz.call313 (evs1 rfl) (amM _ (Limbs.getD (zK _) _) _) ?_
  iterate 5 refine AX ?_
  refine Ret.go (.cons (.tmp _ _ rfl) .nil) _ (Heap.le.refl _) ?_
  refine ⟨?_, rfl⟩
  simp only [zU]
  congr 1
  omega

def cmp_J (xs ys : List Nat) (H : Heap) : Nat → Env → Heap → Prop := fun k env H1 => ∃ i : Nat, i ≤ xs.length ∧ xs.drop (xs.length - i) = ys.drop (xs.length - i) ∧ env = [(0, .slice 1 (U .u32 xs) .shared), (1, .slice 1 (U .u32 ys) .shared), (22, .int .i64 (xs.length : Int)), (23, .int .i64 (i : Int))] ∧ H = H1 ∧ k = xs.length - i

set_option maxRecDepth 100000 in
theorem bhE (xs : List Nat) (tl : Tail) (hx : Limbs xs) (hl : xs.length ≤ 1000000) (ys : List Nat) (tl2 : Tail) (hy : Limbs ys) (hm : ys.length ≤ 1000000) (H : Heap) : ACall Tryz.prog 316 [.slice 1 (U .u32 xs) tl, .slice 1 (U .u32 ys) tl2] H (fun y H' => y = .int .i64 (bgT (val xs) (val ys)) ∧ H' = H) := by
 have hr := aaF xs
 have hrl := aaY hx
 have hs := aaF ys
 have hsl := aaY hy
 refine ACall.of_body Tryz.func316 rfl Tryz.ntmps316 Tryz.results316 rfl ?_
 iterate 8 refine AX ?_
 refine .cl rfl Tryz.call311 (evs1 rfl) (qF _ _ (by assumption) (by assumption) _) ?_
 refine AX ?_
 refine .cl rfl Tryz.call311 (evs1 rfl) (qF _ _ (by assumption) (by assumption) _) ?_
 iterate 14 refine AX ?_
 refine AWP.cx rfl (fun hc15 => ?_) (fun hc15 => ?_)
 ·iterate 10 refine AX ?_
  refine AWP.cx rfl (fun hc20 => ?_) (fun hc20 => ?_)
  ·iterate 8 refine AX ?_
   refine Ret.go (.cons (.tmp _ _ rfl) .nil) _ (Heap.le.refl _) ?_
   refine ⟨?_, rfl⟩
   rw [bgT, if_pos (ajF (by omega))]; rfl
  ·iterate 9 refine AX ?_
   refine Ret.go (.cons (.tmp _ _ rfl) .nil) _ (Heap.le.refl _) ?_
   refine ⟨?_, rfl⟩
   have := ajF (a := val ys) (b := val xs) (by omega)
   rw [bgT, if_neg (by omega), if_pos this]; rfl
 ·have hLx := zK (val xs)
  have hLy := zK (val ys)
  have hvx := zR (val xs)
  have hvy := zR (val ys)
  have hlen : (zF (val xs)).length = (zF (val ys)).length := by omega
  iterate 11 refine AX ?_
  refine AWP.loopW (cmp_J (zF (val xs)) (zF (val ys)) H) ((zF (val xs)).length) ⟨0, Nat.zero_le _, by rw [Nat.sub_zero, List.drop_length, hlen, List.drop_length], rfl, rfl, rfl⟩ sX (Heap.le.refl _) ?_
  rintro _ _ _ ⟨i, hi, hd, rfl, rfl, rfl⟩
  iterate 6 refine AX ?_
  refine AWP.cx rfl (fun hc24 => ?_) (fun hc24 => ?_)
  ·have hds : (zF (val xs)).drop ((zF (val xs)).length - 1 - i + 1) = (zF (val ys)).drop ((zF (val xs)).length - 1 - i + 1) := by rw [show (zF (val xs)).length - 1 - i + 1 = (zF (val xs)).length - i by omega]; exact hd
   iterate 22 refine AX ?_
   refine AWP.draw [(0, true), (1, true), (2, true), (3, true), (4, true), (5, true), (6, true), (7, true), (8, true), (9, true)] rfl (by decide +kernel) ?_
   iterate 2 refine AX ?_
   refine .p rfl rfl (zX ((zF (val xs)).length - 1 - i) Tryz.underlying239 Tryz.sizeOf166 (tm rfl) (tm rfl) (by omega) (by omega)) ?_
   iterate 3 refine AX ?_
   refine .p rfl rfl (zX ((zF (val xs)).length - 1 - i) Tryz.underlying239 Tryz.sizeOf166 (tm rfl) (tm rfl) (by omega) (by omega)) ?_
   iterate 5 refine AX ?_
   refine AWP.cx rfl (fun hc31 => ?_) (fun hc31 => ?_)
   ·iterate 12 refine AX ?_
    refine Ret.go (.cons (.tmp _ _ rfl) .nil) _ (Heap.le.refl _) ?_
    refine ⟨?_, rfl⟩
    have := akB hLx hLy hlen (k := (zF (val xs)).length - 1 - i) (by omega) hds (by omega)
    rw [hvx, hvy] at this
    rw [bgT, if_pos (by omega)]; rfl
   ·refine AX ?_
    refine AWP.draw [(0, true), (1, true), (2, true), (3, true), (4, true), (5, true), (6, true), (7, true), (8, true), (9, true)] rfl (by decide +kernel) ?_
    iterate 2 refine AX ?_
    refine .p rfl rfl (zX ((zF (val xs)).length - 1 - i) Tryz.underlying239 Tryz.sizeOf166 (tm rfl) (tm rfl) (by omega) (by omega)) ?_
    iterate 3 refine AX ?_
    refine .p rfl rfl (zX ((zF (val xs)).length - 1 - i) Tryz.underlying239 Tryz.sizeOf166 (tm rfl) (tm rfl) (by omega) (by omega)) ?_
    iterate 5 refine AX ?_
    refine AWP.cx rfl (fun hc41 => ?_) (fun hc41 => ?_)
    ·iterate 12 refine AX ?_
     refine Ret.go (.cons (.tmp _ _ rfl) .nil) _ (Heap.le.refl _) ?_
     refine ⟨?_, rfl⟩
     have := akB hLy hLx hlen.symm (k := (zF (val xs)).length - 1 - i) (by omega) hds.symm (by omega)
     rw [hvx, hvy] at this
     rw [bgT, if_neg (by omega), if_pos (by omega)]; rfl
    ·iterate 9 refine AX ?_
     refine Round.mk (J := cmp_J (zF (val xs)) (zF (val ys)) H) ⟨i + 1, by omega, by rw [show (zF (val xs)).length - (i + 1) = (zF (val xs)).length - 1 - i by omega]; exact bgD hlen (by omega) hds (by omega), rfl, rfl, rfl⟩ sX (Heap.le.refl _) (by omega)
  ·iterate 11 refine AX ?_
   refine Ret.go (.cons (.tmp _ _ rfl) .nil) _ (Heap.le.refl _) ?_
   refine ⟨?_, rfl⟩
   have h0 : (zF (val xs)).length - i = 0 := by omega
   have hxy : zF (val xs) = zF (val ys) := by rw [h0] at hd; simpa using hd
   rw [bfF hxy, bgT, if_neg (Nat.lt_irrefl _), if_neg (Nat.lt_irrefl _)]; rfl

end
theorem amP : ∀ k, k = 32 * 256 → BIG = 2 ^ k := by intro k hk; unfold BIG; rw [show (4294967296 : Nat) = 2 ^ 32 by decide, ← Nat.pow_mul, hk]
theorem afE {a b k : Nat} (h : a < 2 ^ k) : (b * 2 ^ k) ||| a = b * 2 ^ k + a := by
 rw [Nat.mul_comm, Nat.two_pow_add_eq_or_of_lt h]
theorem avK {a b k : Nat} (h : a < 2 ^ k) : a ||| (b * 2 ^ k) = a + b * 2 ^ k := by
 rw [Nat.or_comm, afE h, Nat.add_comm]
theorem atZ {zs : List Nat} {i v : Nat} (h : i < zs.length) : val (zs.set i v) + 4294967296 ^ i * zs.getD i 0 = val zs + 4294967296 ^ i * v := by
 induction zs generalizing i with
 | nil => simp at h
 | cons z zs ih =>
  cases i with
  | zero => simp [val]; omega
  | succ i =>
   have := ih (i := i) (by simpa using h)
   rw [List.set_cons_succ, val, val, List.getD_cons_succ, Nat.pow_succ]
   generalize 4294967296 ^ i = B at *
   generalize zs.getD i 0 = x at *
   have e1 : B * 4294967296 * x = 4294967296 * (B * x) := by rw [Nat.mul_comm B, Nat.mul_assoc]
   have e2 : B * 4294967296 * v = 4294967296 * (B * v) := by rw [Nat.mul_comm B, Nat.mul_assoc]
   rw [e1, e2]; omega
theorem getD_set_ne {zs : List Nat} {i j v : Nat} (h : i ≠ j) : (zs.set i v).getD j 0 = zs.getD j 0 := by
 grind
theorem apZ {zs : List Nat} {i v : Nat} (h : i < zs.length) : (zs.set i v).getD i 0 = v := by
 grind
theorem getD_rep (n j : Nat) : (List.replicate n 0).getD j 0 = 0 := by
 grind
theorem mul_fits {x y o c : Nat} (hx : x < 4294967296) (hy : y < 4294967296) (ho : o < 4294967296) (hc : c < 4294967296) : x * y + o + c < 18446744073709551616 := by
 have : x * y ≤ 4294967295 * 4294967295 := Nat.mul_le_mul (by omega) (by omega)
 omega
theorem mul_step {zs o0 xs ys : List Nat} {i k c : Nat} (hi : i + k < zs.length) (h : val zs + 4294967296 ^ (i + k) * c = val o0 + 4294967296 ^ i * xs.getD i 0 * val (ys.take k)) :
  val (zs.set (i + k) ((xs.getD i 0 * ys.getD k 0 + zs.getD (i + k) 0 + c) % 4294967296)) + 4294967296 ^ (i + (k + 1)) * ((xs.getD i 0 * ys.getD k 0 + zs.getD (i + k) 0 + c) / 4294967296) = val o0 + 4294967296 ^ i * xs.getD i 0 * val (ys.take (k + 1)) := by
 have e := atZ (zs := zs) (i := i + k) (v := (xs.getD i 0 * ys.getD k 0 + zs.getD (i + k) 0 + c) % 4294967296) hi
 rw [qG ys, ← Nat.add_assoc, Nat.pow_succ]
 rw [Nat.pow_add] at *
 generalize xs.getD i 0 = x at *
 generalize ys.getD k 0 = y at *
 generalize zs.getD (i + k) 0 = o at *
 generalize 4294967296 ^ i = A at *
 generalize 4294967296 ^ k = B at *
 generalize val (ys.take k) = w at *
 generalize val (zs.set (i + k) ((x * y + o + c) % 4294967296)) = u at *
 have e3 : A * B * ((x * y + o + c) % 4294967296) + A * B * 4294967296 * ((x * y + o + c) / 4294967296) = A * B * (x * y + o + c) := by
  rw [Nat.mul_assoc (A * B), ← Nat.mul_add, Nat.mod_add_div]
 have e4 : A * B * (x * y + o + c) = A * x * (B * y) + A * B * o + A * B * c := by
  rw [Nat.mul_add, Nat.mul_add]
  congr 2
  rw [Nat.mul_assoc, Nat.mul_assoc, Nat.mul_left_comm B x y]
 rw [Nat.mul_add]
 omega
theorem mul_row {zs o0 xs ys : List Nat} {i m c : Nat} (hm : ys.length = m) (hi : i + m < zs.length) (hz : zs.getD (i + m) 0 = 0) (h0 : val o0 = val (xs.take i) * val ys) (h : val zs + 4294967296 ^ (i + m) * c = val o0 + 4294967296 ^ i * xs.getD i 0 * val (ys.take m)) :
  val (zs.set (i + m) c) = val (xs.take (i + 1)) * val ys := by
 have e := atZ (zs := zs) (i := i + m) (v := c) hi
 rw [hz, Nat.mul_zero, Nat.add_zero] at e
 have ey : ys.take m = ys := List.take_of_length_le (by omega)
 rw [e, h, h0, ey, qG, Nat.add_mul]
theorem azG {ws xs : List Nat} {i c s : Nat} (hi : i < ws.length) (hs : s ≤ 32) (hx : xs.getD i 0 < 4294967296) (hc : c < 2 ^ s) (h : val (ws.take i) + 4294967296 ^ i * c = val (xs.take i) * 2 ^ s) :
  val ((ws.set i ((c + xs.getD i 0 * 2 ^ s) % 4294967296)).take (i + 1)) + 4294967296 ^ (i + 1) * ((c + xs.getD i 0 * 2 ^ s) / 4294967296) = val (xs.take (i + 1)) * 2 ^ s ∧ (c + xs.getD i 0 * 2 ^ s) / 4294967296 < 2 ^ s ∧ c + xs.getD i 0 * 2 ^ s < 18446744073709551616 := by
 refine ⟨?_, ?_, ?_⟩
 ·rw [adJ hi, qG xs, Nat.pow_succ, Nat.add_mul, ← h]
  generalize xs.getD i 0 = x at *
  generalize 4294967296 ^ i = B at *
  generalize 2 ^ s = S at *
  have e3 : B * ((c + x * S) % 4294967296) + B * 4294967296 * ((c + x * S) / 4294967296) = B * (c + x * S) := by
   rw [Nat.mul_assoc B, ← Nat.mul_add, Nat.mod_add_div]
  rw [Nat.mul_add, ← Nat.mul_assoc] at e3
  omega
 ·rw [Nat.div_lt_iff_lt_mul (by decide)]
  have : xs.getD i 0 * 2 ^ s ≤ 4294967295 * 2 ^ s := Nat.mul_le_mul_right _ (by omega)
  omega
 ·have h1 : xs.getD i 0 * 2 ^ s ≤ 4294967295 * 2 ^ s := Nat.mul_le_mul_right _ (by omega)
  have h2 : 2 ^ s ≤ 2 ^ 32 := Nat.pow_le_pow_right (by decide) hs
  omega
theorem awV {ws : List Nat} {n c v : Nat} (hL : Limbs ws) (hn : ws.length = n) (h : val (ws.take n) + 4294967296 ^ n * c = v) : val ws = v % 4294967296 ^ n := by
 have := akA hL
 rw [hn] at this
 rw [List.take_of_length_le (by omega)] at h
 rw [← h, Nat.add_mul_mod_self_left, Nat.mod_eq_of_lt this]
theorem azE {zs z0 : List Nat} {k d r : Nat} (hd : 0 < d) (hk : k < zs.length) (hl : zs.length = z0.length) (hg : zs.getD k 0 = z0.getD k 0) (h : val (zs.drop (k + 1)) * d + r = val (z0.drop (k + 1))) :
  val ((zs.set k ((r * 4294967296 + z0.getD k 0) / d)).drop k) * d + (r * 4294967296 + z0.getD k 0) % d = val (z0.drop k) := by
 have hk0 : k < z0.length := by omega
 have e1 : (zs.set k ((r * 4294967296 + z0.getD k 0) / d)).drop k = (r * 4294967296 + z0.getD k 0) / d :: zs.drop (k + 1) := by
  rw [List.drop_eq_getElem_cons (by simpa using hk), List.getElem_set_self, List.drop_set_of_lt (by omega)]
 have e2 : z0.drop k = z0.getD k 0 :: z0.drop (k + 1) := by
  rw [List.drop_eq_getElem_cons hk0, List.getD_eq_getElem?_getD, List.getElem?_eq_getElem hk0]; rfl
 rw [e1, e2, val, val, ← h]
 generalize z0.getD k 0 = x
 generalize val (zs.drop (k + 1)) = w
 have e3 := Nat.div_add_mod (r * 4294967296 + x) d
 generalize (r * 4294967296 + x) / d = q at *
 generalize (r * 4294967296 + x) % d = m at *
 rw [Nat.add_mul, Nat.mul_comm q d, Nat.mul_assoc, Nat.mul_add 4294967296 (w * d) r]
 omega
theorem azF {r x d : Nat} (hr : r < d) (hx : x < 4294967296) (hd : d < 4294967296) : (r * 4294967296 + x) / d < 4294967296 ∧ r * 4294967296 + x < 18446744073709551616 := by
 refine ⟨?_, by omega⟩
 rw [Nat.div_lt_iff_lt_mul (by omega)]
 have : (r + 1) * 4294967296 ≤ d * 4294967296 := Nat.mul_le_mul_right _ hr
 omega
section
open Go Go.RowKit

def resN (p : Prop) [Decidable p] (v : Nat) : AV := .tuple [aaP (if p then v else 0), .int .i64 (if p then 0 else 2)]
theorem arM {p : Prop} [Decidable p] {v : Nat} (h : p) : resN p v = .tuple [aaP v, .int .i64 0] := by unfold resN; rw [if_pos h, if_pos h]
theorem arN {p : Prop} [Decidable p] {v : Nat} (h : ¬ p) : resN p v = .tuple [aaP 0, .int .i64 2] := by unfold resN; rw [if_neg h, if_neg h]
theorem azK {p q : Prop} [Decidable p] [Decidable q] {v : Nat} (h : p ↔ q) : resN p v = resN q v := by
 by_cases hp : p
 ·rw [arM hp, arM (h.1 hp)]
 ·rw [arN hp, arN (fun hq => hp (h.2 hq))]
def fitN (v : Nat) : AV := resN (v < BIG) v
def mulN (a b : Nat) : AV := resN (a < BIG ∧ b < BIG ∧ a * b < BIG) (a * b)
def numA (p : List Nat × Tail) : AV := .slice 1 (U .u32 p.1) p.2
def bigB (p : List Nat × Tail) : Bool := decide (256 < yL p.1)
theorem take_any {α : Type} {l : List α} {q : α → Bool} {i : Nat} (hi : i < l.length) (h : (l.take i).any q = false) (hq : q l[i] = false) : (l.take (i + 1)).any q = false := by
 rw [← List.take_append_getElem hi, List.any_append, h]; simp [hq]
theorem get_any {α : Type} {l : List α} {q : α → Bool} {i : Nat} (hi : i < l.length) (hq : q l[i] = true) : l.any q = true := by
 rw [List.any_eq_true]; exact ⟨l[i], List.getElem_mem hi, hq⟩

def over_J (l : List (List Nat × Tail)) (tl : Tail) (H : Heap) : Nat → Env → Heap → Prop := fun k env H1 => ∃ i : Nat, i ≤ l.length ∧ (l.take i).any bigB = false ∧ env = [(0, .slice 1 (l.map numA) tl), (5, .slice 1 (l.map numA) tl), (6, .int .i64 (l.length : Int)), (7, .int .i64 (i : Int))] ∧ H = H1 ∧ k = l.length - i

set_option maxRecDepth 100000 in
theorem anY (l : List (List Nat × Tail)) (tl : Tail) (hx : ∀ p, p ∈ l → Limbs p.1) (hl : ∀ p, p ∈ l → p.1.length ≤ 1000000) (hL : l.length ≤ 1000) (H : Heap) : ACall Tryz.prog 310 [.slice 1 (l.map numA) tl] H (fun y H' => y = .bool (l.any bigB) ∧ H' = H) := by
 refine ACall.of_body Tryz.func310 rfl Tryz.ntmps310 Tryz.results310 rfl ?_
 iterate 14 refine AX ?_
 refine AWP.loopW (over_J l tl H) (l.length) ⟨0, Nat.zero_le _, rfl, rfl, rfl, rfl⟩ sX (Heap.le.refl _) ?_
 rintro _ _ _ ⟨i, hi, hany, rfl, rfl, hk⟩
 iterate 6 refine AX ?_
 refine AWP.cx rfl (fun hc8 => ?_) (fun hc8 => ?_)
 ·have hi2 : i < l.length := by omega
  iterate 14 refine AX ?_
  refine .cl rfl Tryz.call314 (evs1 rfl) (abG l[i].1 l[i].2 (hx _ (List.getElem_mem hi2)) (hl _ (List.getElem_mem hi2)) _) ?_
  iterate 3 refine AX ?_
  refine AWP.cx rfl (fun hc13 => ?_) (fun hc13 => ?_)
  ·have hb : bigB l[i] = true := by unfold bigB; simp only [decide_eq_true_eq]; omega
   iterate 11 refine AX ?_
   refine Ret.go (.cons (.tmp _ _ rfl) .nil) _ (Heap.le.refl _) ?_
   refine ⟨?_, rfl⟩
   rw [get_any hi2 hb]; rfl
  ·have hb : bigB l[i] = false := by unfold bigB; simp only [decide_eq_false_iff_not]; omega
   iterate 8 refine AX ?_
   refine Round.mk (J := over_J l tl H) ⟨i + 1, by omega, take_any hi2 hany hb, rfl, rfl, rfl⟩ sX (Heap.le.refl _) (by omega)
 ·iterate 11 refine AX ?_
  refine Ret.go (.cons (.tmp _ _ rfl) .nil) _ (Heap.le.refl _) ?_
  refine ⟨?_, rfl⟩
  rw [List.take_of_length_le (by omega)] at hany
  rw [hany]; rfl

set_option maxRecDepth 100000 in
theorem aoH (xs : List Nat) (tl : Tail) (hx : Limbs xs) (hl : xs.length ≤ 1000000) (H : Heap) : ACall Tryz.prog 312 [.slice 1 (U .u32 xs) tl] H (fun y H' => y = fitN (val xs) ∧ H' = H) := by
 have hb := @asN (val xs)
 have hr := aaF xs
 have hrl := aaY hx
 refine ACall.of_body Tryz.func312 rfl Tryz.ntmps312 Tryz.results312 rfl ?_
 iterate 2 refine AX ?_
 refine .p rfl (zD (aaO (sz := 1) (tl := .shared))) ?_
 iterate 7 refine AX ?_
 refine .cl rfl Tryz.call311 (evs1 rfl) (qF _ _ (by assumption) (by assumption) _) ?_
 iterate 10 refine AX ?_
 refine AWP.cx rfl (fun hc8 => ?_) (fun hc8 => ?_)
 ·iterate 2 refine AX ?_
  refine .p rfl (zD (aaO (sz := 1) (tl := .shared))) ?_
  iterate 5 refine AX ?_
  refine Ret.go (.cons (.tmp _ _ rfl) (.cons (.tmp _ _ rfl) .nil)) _ (Heap.le.refl _) ?_
  refine ⟨?_, rfl⟩
  rw [fitN, arN (by omega)]; rfl
 ·iterate 10 refine AX ?_
  refine Ret.go (.cons (.tmp _ _ rfl) (.cons (.tmp _ _ rfl) .nil)) _ (Heap.le.refl _) ?_
  refine ⟨?_, rfl⟩
  rw [fitN, arM (by omega)]; rfl

theorem two_big {xs ys : List Nat} {tl tl2 : Tail} (hx : Limbs xs) (hy : Limbs ys) : [(xs, tl), (ys, tl2)].any bigB = decide (BIG ≤ val xs ∨ BIG ≤ val ys) := by
 have h1 := akT hx
 have h2 := akT hy
 have e : ∀ a b : Prop, ∀ [Decidable a] [Decidable b], (decide a || decide b) = decide (a ∨ b) := by intro a b _ _; by_cases a <;> by_cases b <;> simp_all
 simp only [List.any_cons, List.any_nil, Bool.or_false, bigB, h1, h2, e]
theorem one_big {xs : List Nat} {tl : Tail} (hx : Limbs xs) : [(xs, tl)].any bigB = decide (BIG ≤ val xs) := by
 have h1 := akT hx
 simp only [List.any_cons, List.any_nil, Bool.or_false, bigB, h1]
theorem alI (xs : List Nat) (tl tl3 : Tail) (hx : Limbs xs) (hl : xs.length ≤ 1000000) (H : Heap) : ACall Tryz.prog 310 [.slice 1 [.slice 1 (U .u32 xs) tl] tl3] H (fun y H' => y = .bool (decide (BIG ≤ val xs)) ∧ H' = H) := by
 rw [← one_big (tl := tl) hx]
 exact anY [(xs, tl)] tl3 (by simpa using hx) (by simpa using hl) (by simp) H
theorem agQ (xs : List Nat) (tl : Tail) (hx : Limbs xs) (hl : xs.length ≤ 1000000) (ys : List Nat) (tl2 tl3 : Tail) (hy : Limbs ys) (hm : ys.length ≤ 1000000) (H : Heap) : ACall Tryz.prog 310 [.slice 1 [.slice 1 (U .u32 xs) tl, .slice 1 (U .u32 ys) tl2] tl3] H (fun y H' => y = .bool (decide (BIG ≤ val xs ∨ BIG ≤ val ys)) ∧ H' = H) := by
 rw [← two_big (tl := tl) (tl2 := tl2) hx hy]
 refine anY [(xs, tl), (ys, tl2)] tl3 ?_ ?_ (by simp) H
 ·intro p hp
  rcases List.mem_cons.1 hp with rfl | hp
  ·exact hx
  rcases List.mem_cons.1 hp with rfl | hp
  ·exact hy
  simp at hp
 ·intro p hp
  rcases List.mem_cons.1 hp with rfl | hp
  ·exact hl
  rcases List.mem_cons.1 hp with rfl | hp
  ·exact hm
  simp at hp

end
section
open Go Go.RowKit

def hiN (a b : Nat) : Nat := if (zF a).length < (zF b).length then b else a
def loN (a b : Nat) : Nat := if (zF a).length < (zF b).length then a else b
theorem hi_lo (a b : Nat) : hiN a b + loN a b = a + b ∧ (zF (loN a b)).length ≤ (zF (hiN a b)).length := by
 unfold hiN loN; split <;> omega
theorem aaC {n : Nat} (h : n < BIG) : (zF n).length ≤ 256 := by
 have := @asN n
 omega
theorem hi_lt {a b : Nat} (ha : a < BIG) (hb : b < BIG) : hiN a b < BIG := by unfold hiN; split <;> assumption

def add_J (P Q : Nat) (b : Nat) (H : Heap) : Nat → Env → Heap → Prop := fun k env H1 => ∃ (i c : Nat) (zs : List Nat), i ≤ (zF P).length ∧ zs.length = (zF P).length + 1 ∧ Limbs zs ∧ c ≤ 1 ∧ val (zs.take i) + 4294967296 ^ i * c = val ((zF P).take i) + val ((zF Q).take i) ∧ env = [(0, aaP P), (1, aaP Q), (6, .mslice (some ⟨b, 0, none⟩) ((zF P).length + 1) ((zF P).length + 1)), (7, .int .u32 (c : Int)), (30, .int .i64 ((zF P).length : Int)), (31, .int .i64 (i : Int))] ∧ H1 = H.set b (.box 166 (U .u32 zs)) ∧ k = (zF P).length - i

set_option maxRecDepth 100000 in
theorem bhG (xs : List Nat) (tl : Tail) (hx : Limbs xs) (hl : xs.length ≤ 1000000) (ys : List Nat) (tl2 : Tail) (hy : Limbs ys) (hm : ys.length ≤ 1000000) (H : Heap) : ACall Tryz.prog 309 [.slice 1 (U .u32 xs) tl, .slice 1 (U .u32 ys) tl2] H (fun y H' => y = fitN (val xs + val ys) ∧ H' = H) := by
 refine ACall.of_body Tryz.func309 rfl Tryz.ntmps309 Tryz.results309 rfl ?_
 iterate 2 refine AX ?_
 refine .p rfl (zD (aaO (sz := 1) (tl := .shared))) ?_
 iterate 8 refine AX ?_
 refine .e rfl (afO Tryz.underlying327 Tryz.sizeOf239 Tryz.zeroValue239 rfl (tm rfl) (.inl rfl) ⟨rfl, rfl⟩ (tm rfl) (.inl rfl) ⟨rfl, rfl⟩) (.cl rfl Tryz.call310 (evs1 rfl) (agQ _ _ (by assumption) (by assumption) _ _ _ (by assumption) (by assumption) _) ?_)
 iterate 2 refine AX ?_
 refine AWP.cx rfl (fun hc13 => ?_) (fun hc13 => ?_)
 ·iterate 2 refine AX ?_
  refine .p rfl (zD (aaO (sz := 1) (tl := .shared))) ?_
  iterate 5 refine AX ?_
  refine Ret.go (.cons (.tmp _ _ rfl) (.cons (.tmp _ _ rfl) .nil)) _ (Heap.le.refl _) ?_
  refine ⟨?_, rfl⟩
  rw [fitN, arN (by omega)]; rfl
 ·iterate 5 refine AX ?_
  refine .cl rfl Tryz.call311 (evs1 rfl) (qF _ _ (by assumption) (by assumption) _) ?_
  refine AX ?_
  refine .cl rfl Tryz.call311 (evs1 rfl) (qF _ _ (by assumption) (by assumption) _) ?_
  iterate 4 refine AX ?_
  refine AWP.seqToL [(0, aaP (hiN (val xs) (val ys))), (1, aaP (loN (val xs) (val ys)))] [4, 5] ?_ ?_
  ·iterate 9 refine AX ?_
   refine AWP.cx rfl (fun hc22 => ?_) (fun hc22 => ?_)
   ·iterate 6 refine AX ?_
    exact ⟨rfl, (zZ rfl (by simp only [hiN]; split <;> first | rfl | omega) (zZ rfl (by simp only [loN]; split <;> first | rfl | omega) sX)), rfl⟩
   ·refine AX ?_
    exact ⟨rfl, (zZ rfl (by simp only [hiN]; split <;> first | rfl | omega) (zZ rfl (by simp only [loN]; split <;> first | rfl | omega) sX)), rfl⟩
  ·refine AWP.sub [(0, _), (1, _), (4, _), (5, _)] sX ?_
   have hs := hi_lo (val xs) (val ys)
   have h256 := aaC (hi_lt (a := val xs) (b := val ys) (by omega) (by omega))
   revert hs h256
   generalize hiN (val xs) (val ys) = P
   generalize loN (val xs) (val ys) = Q
   intro hs h256
   iterate 5 refine AX ?_
   refine .s rfl (yI ((zF P).length + 1) Tryz.underlying239 Tryz.typeInfo166 Tryz.sizeOf166 Tryz.zeroValue166 (tm rfl) (tm rfl) (by omega) (by omega) (by decide) (by omega)) ?_
   rintro _ _ ⟨b28, rfl, hb28, hH⟩
   obtain rfl := hH.symm
   iterate 5 refine AX ?_
   refine .p rfl (zD (zE 0)) ?_
   iterate 11 refine AX ?_
   refine AWP.loopW (add_J P Q b28 H) ((zF P).length) ⟨0, 0, List.replicate ((zF P).length + 1) 0, Nat.zero_le _, by simp, Limbs.rep (by omega), by omega, rfl, rfl, rfl, rfl⟩ sX (Heap.le.refl _) ?_
   rintro _ _ _ ⟨i, c, zs, hi, hz, hzl, hc, hv, rfl, rfl, hk⟩
   iterate 6 refine AX ?_
   refine AWP.cx rfl (fun hc32 => ?_) (fun hc32 => ?_)
   ·iterate 12 refine AX ?_
    refine .p rfl (zD (zE 0)) ?_
    iterate 2 refine AX ?_
    refine AWP.seqToL [(9, .int .u32 (((zF Q).getD i 0 : Nat) : Int))] [0, 1, 6, 7, 30, 31, 8] ?_ ?_
    ·iterate 8 refine AX ?_
     refine AWP.cx rfl (fun hc37 => ?_) (fun hc37 => ?_)
     ·iterate 3 refine AX ?_
      refine .p rfl (zX (i) Tryz.underlying239 Tryz.sizeOf166 (tm rfl) (tm rfl) (by omega) (by omega)) ?_
      iterate 3 refine AX ?_
      exact ⟨rfl, (zZ rfl (by rfl) sX), rfl⟩
     ·refine AX ?_
      exact ⟨rfl, (zZ rfl (by (rw [aeS (by omega)])) sX), rfl⟩
    ·refine AWP.sub [(9, _), (0, _), (1, _), (6, _), (7, _), (30, _), (31, _), (8, _)] sX ?_
     iterate 5 refine AX ?_
     refine .p rfl (zX (i) Tryz.underlying239 Tryz.sizeOf166 (tm rfl) (tm rfl) (by omega) (by omega)) ?_
     iterate 3 refine AX ?_
     refine .cl rfl Tryz.call339 (evs3 rfl rfl rfl) (amQ _ _ _ (Limbs.getD (zK _) _) (Limbs.getD (zK _) _) (by omega) _) ?_
     iterate 3 refine AX ?_
     refine .p rfl (yR (i) Tryz.underlying239 Tryz.sizeOf166 (tm rfl) (tm rfl) (by omega) (by omega)) (.e0 (qS Tryz.sizeOf166 (tm rfl) (tm rfl) (Heap.objs_set_same _ _ _) (by omega)) ?_)
     try first | rw [Heap.set_set] | rw [Heap.set_under (by assumption)]
     iterate 9 refine AX ?_
     refine Round.mk (J := add_J P Q b28 H) ⟨i + 1, _, _, by omega, by simpa using hz, Limbs.set hzl (by omega), by have h1 := Limbs.getD (zK P) i; have h2 := Limbs.getD (zK Q) i; omega, ayK (by omega) hv, rfl, rfl, rfl⟩ sX (Heap.le.refl _) (by omega)
   ·iterate 11 refine AX ?_
    refine .p rfl (yR ((zF P).length) Tryz.underlying239 Tryz.sizeOf166 (tm rfl) (tm rfl) (by omega) (by omega)) (.e0 (qS Tryz.sizeOf166 (tm rfl) (tm rfl) (Heap.objs_set_same _ _ _) (by omega)) ?_)
    try first | rw [Heap.set_set] | rw [Heap.set_under (by assumption)]
    iterate 3 refine AX ?_
    have hi2 : i = (zF P).length := by omega
    subst hi2
    have hz2 : zs.length ≤ (zF P).length + 1 := by omega
    have hz3 : (zF P).length < zs.length := by omega
    have hv2 := add_end hz rfl hs.2 hv
    rw [zR, zR] at hv2
    refine AWP.frzU (t := 6) rfl hb28 (by simp <;> omega) (Nat.le_refl _) (by simp only [zN]; omega) ?_
    rw [List.take_of_length_le (by simp <;> omega)]
    have hz4 := Limbs.set hzl (i := (zF P).length) (v := c) (by omega)
    have hz5 : (zs.set (zF P).length c).length ≤ 1000000 := by simp <;> omega
    iterate 2 refine AX ?_
    refine .cl rfl Tryz.call312 (evs1 rfl) (aoH _ _ (by assumption) (by assumption) _) ?_
    iterate 7 refine AX ?_
    refine Ret.go (.cons (.tmp _ _ rfl) (.cons (.tmp _ _ rfl) .nil)) _ (Heap.le.refl _) ?_
    refine ⟨?_, rfl⟩
    rw [← hs.1, ← hv2]; rfl

theorem axC {zs : List Nat} {i n v : Nat} (h : ∀ j, n ≤ j → zs.getD j 0 = 0) (hi : i < n) : ∀ j, n ≤ j → (zs.set i v).getD j 0 = 0 := fun j hj => by
 rw [getD_set_ne (by omega), h j hj]

def mul_J (P Q : Nat) (b : Nat) (H : Heap) : Nat → Env → Heap → Prop := fun k env H1 => ∃ (i : Nat) (zs : List Nat), i ≤ (zF P).length ∧ zs.length = (zF P).length + (zF Q).length ∧ Limbs zs ∧ (∀ j, i + (zF Q).length ≤ j → zs.getD j 0 = 0) ∧ val zs = val ((zF P).take i) * val (zF Q) ∧ env = [(0, aaP P), (1, aaP Q), (6, .mslice (some ⟨b, 0, none⟩) ((zF P).length + (zF Q).length) ((zF P).length + (zF Q).length)), (26, .int .i64 ((zF P).length : Int)), (27, .int .i64 (i : Int))] ∧ H1 = H.set b (.box 166 (U .u32 zs)) ∧ k = (zF P).length - i

def mulI_J (P Q : Nat) (b i : Nat) (o0 : List Nat) (H : Heap) : Nat → Env → Heap → Prop := fun k env H1 => ∃ (j c : Nat) (zs : List Nat), j ≤ (zF Q).length ∧ zs.length = (zF P).length + (zF Q).length ∧ Limbs zs ∧ c < 4294967296 ∧ (∀ j, i + (zF Q).length ≤ j → zs.getD j 0 = 0) ∧ val zs + 4294967296 ^ (i + j) * c = val o0 + 4294967296 ^ i * (zF P).getD i 0 * val ((zF Q).take j) ∧ env = [(0, aaP P), (1, aaP Q), (6, .mslice (some ⟨b, 0, none⟩) ((zF P).length + (zF Q).length) ((zF P).length + (zF Q).length)), (26, .int .i64 ((zF P).length : Int)), (27, .int .i64 (i : Int)), (7, .int .i64 (i : Int)), (8, .int .u64 (c : Int)), (31, .int .i64 ((zF Q).length : Int)), (32, .int .i64 (j : Int))] ∧ H1 = H.set b (.box 166 (U .u32 zs)) ∧ k = (zF Q).length - j

set_option maxRecDepth 100000 in
theorem bhC (xs : List Nat) (tl : Tail) (hx : Limbs xs) (hl : xs.length ≤ 1000000) (ys : List Nat) (tl2 : Tail) (hy : Limbs ys) (hm : ys.length ≤ 1000000) (H : Heap) : ACall Tryz.prog 269 [.slice 1 (U .u32 xs) tl, .slice 1 (U .u32 ys) tl2] H (fun y H' => y = mulN (val xs) (val ys) ∧ H' = H) := by
 refine ACall.of_body Tryz.func269 rfl Tryz.ntmps269 Tryz.results269 rfl ?_
 iterate 2 refine AX ?_
 refine .p rfl (zD (aaO (sz := 1) (tl := .shared))) ?_
 iterate 8 refine AX ?_
 refine .e rfl (afO Tryz.underlying327 Tryz.sizeOf239 Tryz.zeroValue239 rfl (tm rfl) (.inl rfl) ⟨rfl, rfl⟩ (tm rfl) (.inl rfl) ⟨rfl, rfl⟩) (.cl rfl Tryz.call310 (evs1 rfl) (agQ _ _ (by assumption) (by assumption) _ _ _ (by assumption) (by assumption) _) ?_)
 iterate 2 refine AX ?_
 refine AWP.cx rfl (fun hc14 => ?_) (fun hc14 => ?_)
 ·iterate 2 refine AX ?_
  refine .p rfl (zD (aaO (sz := 1) (tl := .shared))) ?_
  iterate 5 refine AX ?_
  refine Ret.go (.cons (.tmp _ _ rfl) (.cons (.tmp _ _ rfl) .nil)) _ (Heap.le.refl _) ?_
  refine ⟨?_, rfl⟩
  rw [mulN, arN (by omega)]; rfl
 ·iterate 5 refine AX ?_
  refine .cl rfl Tryz.call311 (evs1 rfl) (qF _ _ (by assumption) (by assumption) _) ?_
  refine AX ?_
  refine .cl rfl Tryz.call311 (evs1 rfl) (qF _ _ (by assumption) (by assumption) _) ?_
  iterate 5 refine AX ?_
  have h256 := aaC (n := val xs) (by omega)
  have h257 := aaC (n := val ys) (by omega)
  have hmul : mulN (val xs) (val ys) = fitN (val xs * val ys) := by
   exact azK ⟨fun h => h.2.2, fun h => ⟨by omega, by omega, h⟩⟩
  rw [hmul]
  generalize val xs = P at *
  generalize val ys = Q at *
  iterate 6 refine AX ?_
  refine .s rfl (yI ((zF P).length + (zF Q).length) Tryz.underlying239 Tryz.typeInfo166 Tryz.sizeOf166 Tryz.zeroValue166 (tm rfl) (tm rfl) (by omega) (by omega) (by decide) (by omega)) ?_
  rintro _ _ ⟨b24, rfl, hb24, hH⟩
  obtain rfl := hH.symm
  iterate 12 refine AX ?_
  refine AWP.loopW (mul_J P Q b24 H) ((zF P).length) ⟨0, List.replicate _ 0, Nat.zero_le _, by simp, Limbs.rep (by omega), fun j _ => getD_rep _ _, by rw [aoT, List.take_zero, val, Nat.zero_mul], rfl, rfl, rfl⟩ sX (Heap.le.refl _) ?_
  rintro _ _ _ ⟨i, zs0, hi, hz0, hzl0, h0, hv0, rfl, rfl, hk⟩
  iterate 6 refine AX ?_
  refine AWP.cx rfl (fun hc28 => ?_) (fun hc28 => ?_)
  ·iterate 12 refine AX ?_
   refine .p rfl (zD (zE 0)) ?_
   iterate 11 refine AX ?_
   refine AWP.loopW (mulI_J P Q b24 i zs0 H) ((zF Q).length) ⟨0, 0, zs0, Nat.zero_le _, hz0, hzl0, by omega, h0, by rw [List.take_zero, val, Nat.mul_zero, Nat.mul_zero], rfl, rfl, rfl⟩ sX (Heap.le.refl _) ?_
   rintro _ _ _ ⟨j, c, zs, hj, hz, hzl, hc, hzr, hv, rfl, rfl, hk2⟩
   iterate 6 refine AX ?_
   refine AWP.cx rfl (fun hc33 => ?_) (fun hc33 => ?_)
   ·have hPi := Limbs.getD (zK P) i
    have hQj := Limbs.getD (zK Q) j
    have hZ := Limbs.getD hzl (i + j)
    have hmf := mul_fits hPi hQj hZ hc
    iterate 11 refine AX ?_
    refine AWP.draw [(0, true), (1, true), (2, true), (3, true), (4, true), (5, true), (6, true), (7, true), (8, true), (9, true), (10, true), (11, true), (12, true), (13, true), (14, true), (15, true), (19, true), (16, false), (17, true), (18, true), (20, true), (21, true)] rfl (by decide +kernel) ?_
    iterate 2 refine AX ?_
    refine .p rfl rfl (zX (i) Tryz.underlying239 Tryz.sizeOf166 (tm rfl) (tm rfl) (by omega) (by omega)) ?_
    iterate 4 refine AX ?_
    refine .p rfl rfl (zX (j) Tryz.underlying239 Tryz.sizeOf166 (tm rfl) (tm rfl) (by omega) (by omega)) ?_
    iterate 2 refine AX ?_
    refine .p rfl rfl (qX (tm rfl) (tm rfl) (by omega)) ?_
    iterate 4 refine AX ?_
    refine .p rfl rfl (yR (i + j) Tryz.underlying239 Tryz.sizeOf166 (tm rfl) (tm rfl) (by omega) (by omega)) ?_
    refine AX ?_
    refine .s rfl rfl (qN Tryz.isAgg166 (tm rfl) (Heap.objs_set_same _ _ _) (by omega)) ?_
    rintro _ _ ⟨rfl, hH⟩
    obtain rfl := hH.symm
    iterate 14 refine AX ?_
    refine .p rfl (zW (tm rfl) (zE 32) (by assumption)) (.p rfl (yR (i + j) Tryz.underlying239 Tryz.sizeOf166 (tm rfl) (tm rfl) (by omega) (by omega)) (.e0 (qS Tryz.sizeOf166 (tm rfl) (tm rfl) (Heap.objs_set_same _ _ _) (by omega)) ?_))
    try first | rw [Heap.set_set] | rw [Heap.set_under (by assumption)]
    iterate 9 refine AX ?_
    refine Round.mk (J := mulI_J P Q b24 i zs0 H) ⟨j + 1, _, _, by omega, by simpa using hz, Limbs.set hzl (by omega), by omega, fun q hq => axC hzr (by omega) q hq, mul_step (by omega) hv, rfl, rfl, rfl⟩ sX (Heap.le.refl _) (by omega)
   ·have hj2 : j = (zF Q).length := by omega
    subst hj2
    have hcm : c % 2 ^ IntKind.u32.bits = c := Nat.mod_eq_of_lt hc
    iterate 13 refine AX ?_
    refine .p rfl (yR (i + (zF Q).length) Tryz.underlying239 Tryz.sizeOf166 (tm rfl) (tm rfl) (by omega) (by omega)) (.e0 (qS Tryz.sizeOf166 (tm rfl) (tm rfl) (Heap.objs_set_same _ _ _) (by omega)) ?_)
    try first | rw [Heap.set_set] | rw [Heap.set_under (by assumption)]
    iterate 8 refine AX ?_
    rw [hcm]
    refine Round.mk (J := mul_J P Q b24 H) ⟨i + 1, _, by omega, by simpa using hz, Limbs.set hzl hc, fun j hj => axC (n := i + 1 + (zF Q).length) (fun j hj => hzr j (by omega)) (by omega) j hj, mul_row rfl (by omega) (hzr _ (Nat.le_refl _)) hv0 hv, rfl, rfl, rfl⟩ sX (Heap.le.refl _) (by omega)
  ·iterate 6 refine AX ?_
   have hi2 : i = (zF P).length := by omega
   subst hi2
   rw [List.take_length, zR, zR] at hv0
   refine AWP.frzU (t := 6) rfl hb24 (by omega) (Nat.le_refl _) (by simp only [zN]; omega) ?_
   rw [List.take_of_length_le (by omega)]
   have hz5 : zs0.length ≤ 1000000 := by omega
   iterate 2 refine AX ?_
   refine .cl rfl Tryz.call312 (evs1 rfl) (aoH _ _ (by assumption) (by assumption) _) ?_
   iterate 7 refine AX ?_
   refine Ret.go (.cons (.tmp _ _ rfl) (.cons (.tmp _ _ rfl) .nil)) _ (Heap.le.refl _) ?_
   refine ⟨?_, rfl⟩
   rw [← hv0]; rfl

end
end Go.Proofs.YtmmgbnolccpjoaaGreatDoor
