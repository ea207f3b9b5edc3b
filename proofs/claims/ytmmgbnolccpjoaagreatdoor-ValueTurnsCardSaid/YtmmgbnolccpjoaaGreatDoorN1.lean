import Derived.Test.YtmmgbnolccpjoaaGreatDoorYd
set_option maxHeartbeats 1000000
namespace Go.Proofs.YtmmgbnolccpjoaaGreatDoor
open Go.Proofs.Tryz
variable {a b c i k n r v x : Nat} {xs ys zs : List Nat}
def Limbs (xs : List Nat) : Prop := ∀ x, x ∈ xs → x < 4294967296
def val : List Nat → Nat
 | [] => 0
 | x :: xs => x + 4294967296 * val xs
def yT : List Nat → Nat
 | [] => 0
 | x :: xs => if yT xs = 0 ∧ x = 0 then 0 else yT xs + 1
def auT : Nat → Nat → List Nat
 | 0, _ => []
 | _ + 1, 0 => []
 | f + 1, n + 1 => (n + 1) % 4294967296 :: auT f ((n + 1) / 4294967296)
def zE (n : Nat) : List Nat := auT n n
theorem arL : ∀ (f g n : Nat), n ≤ f → n ≤ g → auT f n = auT g n
 | 0, 0, _, _, _ => rfl
 | 0, g + 1, n, h, _ => by
  have : n = 0 := by omega
  subst this; rfl
 | f + 1, 0, n, _, h => by
  have : n = 0 := by omega
  subst this; rfl
 | f + 1, g + 1, 0, _, _ => rfl
 | f + 1, g + 1, n + 1, h1, h2 => by
  unfold auT
  rw [arL f g ((n + 1) / 4294967296) aA aA]
theorem aaR : zE 0 = [] := rfl
theorem qJ (h : 0 < n) : zE n = n % 4294967296 :: zE (n / 4294967296) := by
 unfold zE
 obtain ⟨m, rfl⟩ : ∃ m, n = m + 1 := ⟨n - 1, by omega⟩
 show (m + 1) % 4294967296 :: auT m ((m + 1) / 4294967296) = _
 rw [arL m ((m + 1) / 4294967296) ((m + 1) / 4294967296) aA (aT _)]
theorem zL (n : Nat) : val (zE n) = n := by
 induction n using Nat.strongRecOn with
 | ind n ih =>
  rcases bF n with h | h
  ·subst h; rfl
  rw [qJ h, val, ih _ aA]; omega
theorem zF (n : Nat) : Limbs (zE n) := by
 induction n using Nat.strongRecOn with
 | ind n ih =>
  rcases bF n with h | h
  ·subst h; intro x hx; simp [aaR] at hx
  rw [qJ h]
  intro x hx
  rcases cO.1 hx with rfl | hx
  ·omega
  exact ih _ aA x hx
theorem Limbs.cons {x : Nat} {xs : List Nat} (h : Limbs (x :: xs)) : x < 4294967296 ∧ Limbs xs := ⟨h x aF, fun y hy => h y (by simp [hy])⟩
theorem Limbs.mk (hx : x < 4294967296) (h : Limbs xs) : Limbs (x :: xs) := fun y hy => by
 rcases cO.1 hy with rfl | hy
 ·exact hx
 exact h y hy
theorem Limbs.nil : Limbs [] := fun _ h => by simp at h
theorem Limbs.append (h : Limbs xs) (k : Limbs ys) : Limbs (xs ++ ys) := fun y hy => by
 rcases dO.1 hy with h1 | h1
 ·exact h y h1
 exact k y h1
theorem Limbs.take (h : Limbs xs) (n : Nat) : Limbs (xs.take n) := fun y hy => h y (fR hy)
theorem Limbs.drop (h : Limbs xs) (n : Nat) : Limbs (xs.drop n) := fun y hy => h y (List.mem_of_mem_drop hy)
theorem Limbs.rep (h : x < 4294967296) : Limbs (List.replicate n x) := fun y hy => by rw [List.eq_of_mem_replicate hy]; exact h
theorem aaF : ∀ {xs : List Nat}, yT xs = 0 → val xs = 0
 | [], _ => rfl
 | x :: xs, h => by
  unfold yT at h
  split at h
  ·rename_i hc; rw [val, aaF hc.1, hc.2]
  omega
theorem aaG : ∀ {xs : List Nat}, val xs = 0 → yT xs = 0
 | [], _ => rfl
 | x :: xs, h => by
  rw [val] at h
  unfold yT
  rw [aN ⟨aaG aA, by omega⟩]
theorem adS : ∀ {xs : List Nat}, Limbs xs → xs.take (yT xs) = zE (val xs)
 | [], _ => rfl
 | x :: xs, h => by
  obtain ⟨hx, hxs⟩ := h.cons
  unfold yT
  split
  ·rename_i hc
   rw [val, aaF hc.1, hc.2]; rfl
  rename_i hc
  rw [List.take_succ_cons, adS hxs]
  have hpos : 0 < val (x :: xs) := by
   rw [val]
   rcases bF x with h0 | h0
   ·rcases bF (val xs) with h1 | h1
    ·exact absurd ⟨aaG h1, h0⟩ hc
    omega
   omega
  rw [qJ hpos]
  simp only [val]
  rw [show (x + 4294967296 * val xs) % 4294967296 = x by omega, show (x + 4294967296 * val xs) / 4294967296 = val xs by omega]
theorem aaO : ∀ (xs : List Nat), yT xs ≤ xs.length
 | [] => aT _
 | x :: xs => by
  unfold yT
  have := aaO xs
  split <;> simp <;> omega
theorem abC (h : Limbs xs) : yT xs = (zE (val xs)).length := by
 rw [← adS h, aS]
 have := aaO xs
 omega
theorem ahQ (n : Nat) : yT (zE n) = (zE n).length := by rw [abC (zF n), zL]
theorem acD (hk : k < xs.length) : yT (xs.take (k + 1)) = if xs.getD k 0 = 0 then yT (xs.take k) else k + 1 := by
 induction xs generalizing k with
 | nil => simp at hk
 | cons x xs ih =>
  cases k with
  | zero =>
   simp only [List.take_succ_cons, eP, cG]
   unfold yT
   simp [yT]
  | succ k =>
   rw [List.take_succ_cons, List.take_succ_cons]
   have hk' : k < xs.length := by simpa using hk
   simp only [yT, ih hk', dB]
   by_cases h : xs.getD k 0 = 0
   ·rw [aN h, aN h]
   rw [aL h, aL h, aI]
theorem qL : ∀ (xs ys : List Nat), val (xs ++ ys) = val xs + 4294967296 ^ xs.length * val ys
 | [], ys => by simp [val]
 | x :: xs, ys => by
  rw [cQ, val, qL xs ys, val, aU, bR, cC, ← bJ, bL (4294967296 ^ xs.length) 4294967296]
  omega
theorem afW : ∀ {xs : List Nat}, Limbs xs → val xs < 4294967296 ^ xs.length
 | [], _ => by simp [val]
 | x :: xs, h => by
  obtain ⟨hx, hxs⟩ := h.cons
  have := afW hxs
  rw [val, aU, bR]
  omega
theorem amS (n : Nat) : val (List.replicate n 0) = 0 := by
 induction n with
 | zero => rfl
 | succ n ih => rw [List.replicate_succ, val, ih]
theorem qO {n k : Nat} : (zE n).length ≤ k ↔ n < 4294967296 ^ k := by
 induction k generalizing n with
 | zero =>
  rcases bF n with h | h
  ·subst h; simp [aaR]
  rw [qJ h]; simp; omega
 | succ k ih =>
  rcases bF n with h | h
  ·subst h; simp [aaR]; exact bN aC
  rw [qJ h, aU, Nat.add_le_add_iff_right, ih, bR, bO aC]
theorem baW (h : zE a = zE b) : a = b := by rw [← zL a, h, zL]
theorem avT (hk : k < xs.length) : val (xs.take (k + 1)) = val (xs.take k) + 4294967296 ^ k * xs.getD k 0 := by
 rw [← cS hk, qL]
 simp only [val, aS, dG, cI]
 rw [cY aA]
 congr 2
 rw [aR, bA hk]; rfl
theorem Limbs.getD (h : Limbs xs) (k : Nat) : xs.getD k 0 < 4294967296 := by
 rw [aR]
 cases hk : xs[k]? with
 | none => simp
 | some x => exact h x (fD hk)
theorem copied (h : r ≤ xs.length) : (zs.take 0 ++ xs.take r ++ zs.drop (0 + min xs.length r)).take r = xs.take r := by
 rw [eP, cF, eY (by rw [aS]; omega), List.take_take, Nat.min_self]
def BIG : Nat := 4294967296 ^ 256
section
open Go Go.RowKit
set_option maxRecDepth 100000

def aaN (n : Nat) : AV := .slice 1 (U .u32 (zE n)) .shared
def bpT (xs : List Nat) (tl : Tail) (H : Heap) : Nat → Env → Heap → Prop := fun k env H1 => ∃ n : Nat, n ≤ xs.length ∧ yT (xs.take n) = yT xs ∧ env = [(0, .slice 1 (U .u32 xs) tl), (3, .int .i64 (n : Int))] ∧ H = H1 ∧ k = n

theorem acX (xs : List Nat) (tl : Tail) (hx : Limbs xs) (hl : xs.length ≤ 1000000) (H : Heap) : ACall prog 314 [.slice 1 (U .u32 xs) tl] H (fun y H' => y = .int .i64 (yT xs : Int) ∧ H' = H) := by
 refine ACall.of_body func314 rfl ntmps314 results314 rfl ?_
 refine AY ?_
 refine AWP.loopW (bpT xs tl H) (xs.length) ⟨xs.length, aT _, by rw [dE], rfl, rfl, rfl⟩ sX (hRa _) ?_
 rintro _ _ _ ⟨n, hn, hr, rfl, rfl, hk⟩
 refine AX ?_
 refine AWP.seqTo 15 (.bool (decide (0 < (n : Int)) && decide (((xs.getD (n - 1) 0 : Nat) : Int) = 0))) [0, 3] ?_ ?_
 ·-- region 2
  refine AY ?_
  refine zD (t := 8) rfl (fun hg8 => ?_) (fun hg8 => ?_)
  ·have hh8 := hg8; try simp only [aO] at hh8
   refine AY ?_
   refine .gp rfl rfl rfl aB (zU (n - 1) U239 Z166 (tm rfl) (tm rfl) aA aA) ?_
   refine AX ?_
   refine AM ?_
   refine AY ?_
   exact ⟨rfl, zO rfl aH sX, rfl⟩
  have hh8 := hg8; try simp only [aM, cH] at hh8
  refine AY ?_
  exact ⟨rfl, zO rfl aH sX, rfl⟩
 refine AWP.sub [(15, _), (0, _), (3, _)] sX ?_
 refine AWP.cx rfl (fun hc15 => ?_) (fun hc15 => ?_)
 ·simp only [bK, aO] at hc15
  refine AY ?_
  have hs := acD (xs := xs) (k := n - 1) aA
  rw [show n - 1 + 1 = n by omega, aJ] at hs
  refine Round.mk (J := bpT xs tl H) ⟨n - 1, by omega, by rw [← hs, hr], rfl, rfl, rfl⟩ (zJ rfl (zN rfl (by rw [show ((n : Int) - 1) = ((n - 1 : Nat) : Int) by omega]) yJ)) (hRa _) aA
 simp only [bU, aM] at hc15
 refine AY ?_
 refine ⟨?_, rfl⟩
 have hq : n = yT xs := by
  rcases bF n with h0 | h0
  ·subst h0; rw [← hr]; rfl
  have hs := acD (xs := xs) (k := n - 1) aA
  rw [show n - 1 + 1 = n by omega, aI, hr] at hs
  exact hs.symm
 rw [hq]; rfl

theorem qZ (xs : List Nat) (tl : Tail) (hx : Limbs xs) (hl : xs.length ≤ 1000000) : Fn 311 [.slice 1 (U .u32 xs) tl] (aaN (val xs)) := by
 intro H
 have hr := aaO xs
 refine .of_body func311 rfl ntmps311 results311 rfl ?_
 iterate 2 refine AX ?_
 refine AX ?_
 refine AY ?_
 refine .cl rfl C314 (evs1 rfl) (acX _ _ aB aB _) (.p rfl (adJ (_) U239 Z166 (tm rfl) (tm rfl) rfl aA) ?_)
 refine AY ?_
 refine ⟨?_, rfl⟩
 simp only [yE, aaN]
 rw [adS hx]

theorem asU (x y c : Nat) (hx : x < 4294967296) (hy : y < 4294967296) (hc : c ≤ 1) (H : Heap) : ACall prog 339 [.int .u32 (x : Int), .int .u32 (y : Int), .int .u32 (c : Int)] H (fun z H' => z = .tuple [.int .u32 ((x + y + c) % 4294967296 : Nat), .int .u32 ((x + y + c) / 4294967296 : Nat)] ∧ H' = H) := by
 refine .of_body func339 rfl ntmps339 results339 rfl ?_
 iterate 2 refine AX ?_
 iterate 2 refine AM ?_
 refine AY ?_
 refine AM ?_
 refine AY ?_
 refine ⟨?_, rfl⟩
 simp only [yE, IntKind.bits]
 rw [show (x + y + c) / 2 ^ 32 % 2 ^ 32 = (x + y + c) / 4294967296 by omega]

end
def yG (n : Nat) : Nat := if n = 0 then 0 else n.log2 + 1
theorem btU : yG 0 = 0 := rfl
theorem byN (h : 0 < n) : yG n = n.log2 + 1 := aI
theorem yP {n k : Nat} : yG n ≤ k ↔ n < 2 ^ k := by
 unfold yG
 split
 ·rename_i h; subst h; simp; exact bN aC
 rename_i h
 rw [Nat.add_one_le_iff, Nat.log2_lt h]
theorem aaQ {n k : Nat} : k < yG n ↔ 2 ^ k ≤ n := by
 have := @yP n k
 omega
theorem aeZ {m : Nat} (h : 2 ^ k ≤ n) (hm : m = n / 2 ^ k) : yG n = k + yG m := by
 subst hm
 have hp : 0 < 2 ^ k := bN aC
 have h1 : 0 < n / 2 ^ k := Nat.div_pos h hp
 have key : ∀ j, yG n ≤ k + j ↔ yG (n / 2 ^ k) ≤ j := fun j => by
  rw [yP, yP, bO hp, bI, bL]
 have ha := (key (yG (n / 2 ^ k))).2 (aT _)
 have hk : k ≤ yG n := dS (aaQ.2 h)
 have hb := (key (yG n - k)).1 aA
 omega
theorem ceM (hx : x < 4294967296) : ∃ y n : Nat, (if 65536 ≤ x then x / 65536 else x) = y ∧ (if 65536 ≤ x then (16 : Int) else 0) = n ∧ y < 65536 ∧ yG x = n + yG y := by
 by_cases h : 65536 ≤ x
 ·exact ⟨x / 65536, 16, aN h, aN h, by omega, aeZ (k := 16) h rfl⟩
 exact ⟨x, 0, aL h, aL h, by omega, by omega⟩
theorem cgT {y : Nat} (hy : y < 65536) : ∃ z m : Nat, (if 256 ≤ y then y / 256 else y) = z ∧ (if 256 ≤ y then (n : Int) + 8 else n) = m ∧ z < 256 ∧ n + yG y = m + yG z := by
 by_cases h : 256 ≤ y
 ·exact ⟨y / 256, n + 8, aN h, by rw [aN h]; simp, by omega, by rw [aeZ (n := y) (k := 8) (m := y / 256) h rfl]; omega⟩
 exact ⟨y, n, aL h, aL h, by omega, rfl⟩
def len8tab : List UInt8 := [0, 1, 2, 2, 3, 3, 3, 3, 4, 4, 4, 4, 4, 4, 4, 4, 5, 5, 5, 5, 5, 5, 5, 5, 5, 5, 5, 5, 5, 5, 5, 5, 6, 6, 6, 6, 6, 6, 6, 6, 6, 6, 6, 6, 6, 6, 6, 6, 6, 6, 6, 6, 6, 6, 6, 6, 6, 6, 6, 6, 6, 6, 6, 6, 7, 7, 7, 7, 7, 7, 7, 7, 7, 7, 7, 7, 7, 7, 7, 7, 7, 7, 7, 7, 7, 7, 7, 7, 7, 7, 7, 7, 7, 7, 7, 7, 7, 7, 7, 7, 7, 7, 7, 7, 7, 7, 7, 7, 7, 7, 7, 7, 7, 7, 7, 7, 7, 7, 7, 7, 7, 7, 7, 7, 7, 7, 7, 7] ++ List.replicate 128 8
theorem cdJ {z : Nat} (h : z < 256) : (len8tab.getD z 0).toNat = yG z := by
 have key : ∀ z : Fin 256, (len8tab.getD z.1 0).toNat = yG z.1 := by decide +kernel
 exact key ⟨z, h⟩
theorem ajT (h : 0 < n) : yG n = 32 * ((zE n).length - 1) + yG ((zE n).getD ((zE n).length - 1) 0) := by
 induction n using Nat.strongRecOn with
 | ind n ih =>
  rw [qJ h]
  rcases bF (n / 4294967296) with h0 | h0
  ·rw [h0, aaR]
   simp
   congr 1; omega
  have := ih _ aA h0
  have hpos : 0 < (zE (n / 4294967296)).length := by rw [qJ h0]; simp
  rw [aeZ (n := n) (k := 32) aA rfl, show (2 : Nat) ^ 32 = 4294967296 by decide, this, aU, show (zE (n / 4294967296)).length + 1 - 1 = ((zE (n / 4294967296)).length - 1) + 1 by omega, dB]
  omega
theorem agA (h : (zE a).length < (zE b).length) : a < b := by
 rcases cD a b with h1 | h1
 ·exact h1
 have h2 : (zE a).length ≤ (zE a).length := aT _
 rw [qO] at h2
 have h3 := qO.2 (aV h1 h2)
 omega
theorem ahG (hx : Limbs xs) (hy : Limbs ys) (hl : xs.length = ys.length) (hk : k < xs.length) (hs : xs.drop (k + 1) = ys.drop (k + 1)) (h : xs.getD k 0 < ys.getD k 0) : val xs < val ys := by
 have e1 : val xs = val (xs.take k) + 4294967296 ^ k * (xs.getD k 0 + 4294967296 * val (xs.drop (k + 1))) := by
  conv => lhs; rw [← cV k xs, qL, cA hk, val, aS, cY aA]
  rw [aR, bA hk]; rfl
 have hk' : k < ys.length := by omega
 have e2 : val ys = val (ys.take k) + 4294967296 ^ k * (ys.getD k 0 + 4294967296 * val (ys.drop (k + 1))) := by
  conv => lhs; rw [← cV k ys, qL, cA hk', val, aS, cY aA]
  rw [aR, bA hk']; rfl
 have h1 := afW (hx.take k)
 rw [aS, cY aA] at h1
 rw [e1, e2, hs]
 generalize val (ys.drop (k + 1)) = z
 have h2 : 4294967296 ^ k * (xs.getD k 0 + 4294967296 * z + 1) ≤ 4294967296 ^ k * (ys.getD k 0 + 4294967296 * z) := bX _ aA
 rw [cC, fH] at h2
 omega
section
open Go Go.RowKit
set_option maxRecDepth 100000

theorem anL (xs : List Nat) (tl : Tail) (hx : Limbs xs) (hl : xs.length ≤ 1000000) : Fn 278 [.slice 1 (U .u32 xs) tl] (aaN (val xs)) := by
 intro H
 have hr := aaO xs
 refine .of_body func278 rfl ntmps278 results278 rfl ?_
 iterate 2 refine AX ?_
 refine AX ?_
 refine AY ?_
 refine .cl rfl C314 (evs1 rfl) (acX _ _ aB aB _) (.s rfl (yL (_) U239 typeInfo166 Z166 V166 (tm rfl) (tm rfl) rfl rfl aC aA) ?_)
 rintro _ _ ⟨b6, rfl, hb6, hH⟩
 obtain rfl := hH.symm
 refine AY ?_
 refine .e rfl (amV U239 Z166 (tm rfl) (tm rfl) (oS _ _ _) (by (simp; done))) ?_
 try first | rw [sS] | rw [sU aB]
 iterate 8 refine AX ?_
 refine .frzU (t := 2) rfl hb6 (by simp <;> omega) (aT _) (by simp only [zK]; omega) ?_
 refine AY ?_
 refine ⟨?_, rfl⟩
 simp only [yE, aaN]
 rw [← adS hx, copied hr]

theorem asQ (x : Nat) (hx : x < 4294967296) : Fn 313 [.int .u32 (x : Int)] (.int .i64 (yG x : Int)) := by
 intro H
 have hb32 : ∀ z, z < 256 → yG z ≤ 8 := fun z hz => yP.2 hz
 refine .of_body func313 rfl ntmps313 results313 rfl ?_
 iterate 5 refine AX ?_
 refine .seqToL [(0, .int .u32 ((if 65536 ≤ x then x / 65536 else x : Nat) : Int)), (2, .int .i64 (if 65536 ≤ x then 16 else 0))] [] ?_ ?_
 ·iterate 3 refine AX ?_
  refine AM ?_
  refine AY ?_
  refine .cx rfl (fun hc4 => ?_) (fun hc4 => ?_)
  ·refine AY ?_
   refine .p rfl (auJ (tm rfl) (zI 16) aB) ?_
   refine AY ?_
   exact ⟨rfl, (zN rfl (by rw [aJ]) (zN rfl (by rw [aJ]) yJ)), rfl⟩
  refine AX ?_
  exact ⟨rfl, (zN rfl (by rw [aI]) (zN rfl (by rw [aI]) yJ)), rfl⟩
 refine .sub [(0, _), (2, _)] sX ?_
 obtain ⟨y, n, hy, hn, hyx, hbl⟩ := ceM hx
 rw [hy, hn]
 refine .seqToL [(0, .int .u32 ((if 256 ≤ y then y / 256 else y : Nat) : Int)), (2, .int .i64 (if 256 ≤ y then (n : Int) + 8 else n))] [] ?_ ?_
 ·iterate 3 refine AX ?_
  refine AM ?_
  refine AY ?_
  refine .cx rfl (fun hc8 => ?_) (fun hc8 => ?_)
  ·refine AY ?_
   refine .p rfl (auJ (tm rfl) (zI 8) aA) ?_
   refine AY ?_
   exact ⟨rfl, (zN rfl (by rw [aJ]) (zN rfl (by rw [aJ]) yJ)), rfl⟩
  refine AX ?_
  exact ⟨rfl, (zN rfl (by rw [aI]) (zN rfl (by rw [aI]) yJ)), rfl⟩
 refine .sub [(0, _), (2, _)] sX ?_
 obtain ⟨z, m, hz, hm, hzx, hbz⟩ := cgT (n := n) hyx
 rw [hz, hm]
 have hz8 := hb32 z hzx
 have hx32 := (yP (n := x) (k := 32)).2 hx
 refine AY ?_
 refine .p rfl (awY (r := yG z) len8tab U9 (zR rfl) (tm rfl) aD (by simp only [IntKind.bits]; show _ < 256; omega) (by rw [show z % 2 ^ IntKind.u8.bits = z from bB hzx]; exact cdJ hzx)) ?_
 refine AY ?_
 refine ⟨?_, rfl⟩
 rw [hbl, hbz]
 simp [yE]

end
theorem agB (h : xs.length ≤ i) : xs.getD i 0 = 0 := by
 grind
theorem yS (xs : List Nat) (i : Nat) : val (xs.take (i + 1)) = val (xs.take i) + 4294967296 ^ i * xs.getD i 0 := by
 rcases cD i xs.length with h | h
 ·exact avT h
 rw [agB h, aX aA, aX h]; omega
theorem afV (h : i < zs.length) : val ((zs.set i v).take (i + 1)) = val (zs.take i) + 4294967296 ^ i * v := by
 rw [yS, List.take_set_of_le (aT _)]
 rw [aR, List.getElem?_set_self h]; rfl
theorem Limbs.set (h : Limbs zs) (hv : v < 4294967296) : Limbs (zs.set i v) := fun y hy => by
 rcases List.mem_or_eq_of_mem_set hy with h1 | h1
 ·exact h y h1
 rw [h1]; exact hv
theorem aqH (h : Limbs xs) : 256 < yT xs ↔ BIG ≤ val xs := by
 rw [abC h]
 have := @qO (val xs) 256
 unfold BIG
 omega
theorem baX {n : Nat} : 256 < (zE n).length ↔ BIG ≤ n := by
 have := @qO n 256
 unfold BIG
 omega
theorem bjF (hi : i < zs.length) (h : val (zs.take i) + 4294967296 ^ i * c = val (xs.take i) + val (ys.take i)) :
  val ((zs.set i ((xs.getD i 0 + ys.getD i 0 + c) % 4294967296)).take (i + 1)) + 4294967296 ^ (i + 1) * ((xs.getD i 0 + ys.getD i 0 + c) / 4294967296) = val (xs.take (i + 1)) + val (ys.take (i + 1)) := by
 rw [afV hi, yS xs, yS ys, bR]
 generalize xs.getD i 0 = x at *
 generalize ys.getD i 0 = y at *
 generalize 4294967296 ^ i = B at *
 have e : B * ((x + y + c) % 4294967296) + B * 4294967296 * ((x + y + c) / 4294967296) = B * (x + y + c) := by
  rw [bJ, ← cC, fQ]
 have e2 : B * (x + y + c) = B * x + B * y + B * c := by rw [cC, cC]
 omega
theorem ceP (hz : zs.length = n + 1) (hx : xs.length = n) (hy : ys.length ≤ n) (h : val (zs.take n) + 4294967296 ^ n * c = val (xs.take n) + val (ys.take n)) : val (zs.set n c) = val xs + val ys := by
 have e := afV (zs := zs) (i := n) (v := c) aA
 rw [aX aG] at e
 rw [e, h, aX aA, aX aA]
def ayC (a b : Nat) : Int := if a < b then -1 else if b < a then 1 else 0
theorem bbO (hl : xs.length = ys.length) (hk : k < xs.length) (hs : xs.drop (k + 1) = ys.drop (k + 1)) (he : xs.getD k 0 = ys.getD k 0) : xs.drop k = ys.drop k := by
 rw [cA hk, cA (by omega : k < ys.length), hs]
 congr 1
 rw [aR, aR, bA hk, bA (by omega : k < ys.length)] at he
 simpa using he
section
open Go Go.RowKit
set_option maxRecDepth 100000

theorem apG (v : Nat) (hv : v < 18446744073709551616) : Fn 230 [.int .u64 (v : Int)] (aaN v) := by
 intro H
 refine .of_body func230 rfl ntmps230 results230 rfl ?_
 iterate 2 refine AX ?_
 refine AX ?_
 iterate 7 refine AX ?_
 refine AM ?_
 refine AX ?_
 refine .e rfl (ahJ U239 Z166 V166 rfl (tm rfl) (.inl rfl) ⟨rfl, rfl⟩ (tm rfl) (.inl rfl) ⟨rfl, rfl⟩) ?_
 refine .cl rfl C278 (evs1 rfl) (anL [v % 2 ^ IntKind.u32.bits, v / 2 ^ 32 % 2 ^ IntKind.u32.bits] .full (Limbs.mk (by simp only [IntKind.bits]; omega) (Limbs.mk (by simp only [IntKind.bits]; omega) Limbs.nil)) aF _) ?_
 refine AY ?_
 refine ⟨?_, rfl⟩
 show aaN _ = _
 congr 1
 simp only [val, IntKind.bits]; omega

theorem bnR (x : Nat) (hx : x < 4294967296) : Fn 340 [.int .u32 (x : Int)] (.int .i64 ((32 - yG x : Nat) : Int)) := by
 intro H
 have hb := (yP (n := x) (k := 32)).2 hx
 refine .of_body func340 rfl ntmps340 results340 rfl ?_
 refine AY ?_
 refine .cl rfl call313 (evs1 rfl) (asQ _ aB _) ?_
 refine AY ?_
 refine ⟨?_, rfl⟩
 simp only [yE]
 congr 1
 omega

theorem bcH (xs : List Nat) (tl : Tail) (hx : Limbs xs) (hl : xs.length ≤ 1000000) : Fn 271 [.slice 1 (U .u32 xs) tl] (.int .i64 (yG (val xs) : Int)) := by
 intro H
 have hr := aaO xs
 have hrl := abC hx
 refine .of_body func271 rfl ntmps271 results271 rfl ?_
 refine AY ?_
 refine .cl rfl C311 (evs1 rfl) (qZ _ _ aB aB _) ?_
 refine AY ?_
 refine .cx rfl (fun hc7 => ?_) (fun hc7 => ?_)
 ·refine AY ?_
  refine ⟨?_, rfl⟩
  have h0 : val xs = 0 := by
   rcases bF (val xs) with h | h
   ·exact h
   rw [qJ h] at hc7; simp at hc7; omega
  rw [h0]; rfl
 have hpos : 0 < val xs := by
  rcases bF (val xs) with h | h
  ·rw [h, aaR] at hc7; exact absurd rfl hc7
  exact h
 have hbl := ajT hpos
 have hlb := (yP (n := (zE (val xs)).getD ((zE (val xs)).length - 1) 0) (k := 32)).2 (Limbs.getD (zF _) _)
 refine AY ?_
 refine .p rfl (zU ((zE (val xs)).length - 1) U239 Z166 (tm rfl) (tm rfl) aA aA) ?_
 refine AX ?_
 refine .cl rfl call313 (evs1 rfl) (asQ _ (Limbs.getD (zF _) _) _) ?_
 refine AY ?_
 refine ⟨?_, rfl⟩
 simp only [yE]
 congr 1
 omega

def cgS (xs ys : List Nat) (H : Heap) : Nat → Env → Heap → Prop := fun k env H1 => ∃ i : Nat, i ≤ xs.length ∧ xs.drop (xs.length - i) = ys.drop (xs.length - i) ∧ env = [(0, .slice 1 (U .u32 xs) .shared), (1, .slice 1 (U .u32 ys) .shared), (22, .int .i64 (xs.length : Int)), (23, .int .i64 (i : Int))] ∧ H = H1 ∧ k = xs.length - i

theorem buJ (xs : List Nat) (tl : Tail) (hx : Limbs xs) (hl : xs.length ≤ 1000000) (ys : List Nat) (tl2 : Tail) (hy : Limbs ys) (hm : ys.length ≤ 1000000) (H : Heap) : ACall prog 316 [.slice 1 (U .u32 xs) tl, .slice 1 (U .u32 ys) tl2] H (fun y H' => y = .int .i64 (ayC (val xs) (val ys)) ∧ H' = H) := by
 have hr := aaO xs
 have hrl := abC hx
 have hs := aaO ys
 have hsl := abC hy
 refine ACall.of_body func316 rfl ntmps316 results316 rfl ?_
 refine AY ?_
 refine .cl rfl C311 (evs1 rfl) (qZ _ _ aB aB _) ?_
 refine AX ?_
 refine .cl rfl C311 (evs1 rfl) (qZ _ _ aB aB _) ?_
 refine AY ?_
 refine AWP.cx rfl (fun hc15 => ?_) (fun hc15 => ?_)
 ·refine AY ?_
  refine AWP.cx rfl (fun hc20 => ?_) (fun hc20 => ?_)
  ·refine AY ?_
   refine ⟨?_, rfl⟩
   rw [ayC, aN (agA aA)]; rfl
  refine AY ?_
  refine ⟨?_, rfl⟩
  have := agA (a := val ys) (b := val xs) aA
  rw [ayC, aI, aN this]; rfl
 have hLx := zF (val xs)
 have hLy := zF (val ys)
 have hvx := zL (val xs)
 have hvy := zL (val ys)
 have hlen : (zE (val xs)).length = (zE (val ys)).length := by omega
 refine AY ?_
 refine AWP.loopW (cgS (zE (val xs)) (zE (val ys)) H) ((zE (val xs)).length) ⟨0, Nat.zero_le _, by rw [gB, eZ, hlen, eZ], rfl, rfl, rfl⟩ sX (hRa _) ?_
 rintro _ _ _ ⟨i, hi, hd, rfl, rfl, rfl⟩
 refine AY ?_
 refine AWP.cx rfl (fun hc24 => ?_) (fun hc24 => ?_)
 ·have hds : (zE (val xs)).drop ((zE (val xs)).length - 1 - i + 1) = (zE (val ys)).drop ((zE (val xs)).length - 1 - i + 1) := by rw [show (zE (val xs)).length - 1 - i + 1 = (zE (val xs)).length - i by omega]; exact hd
  refine AY ?_
  refine AWP.draw [(0, true), (1, true), (2, true), (3, true), (4, true), (5, true), (6, true), (7, true), (8, true), (9, true)] rfl aE ?_
  refine AY ?_
  refine .p rfl rfl (zU ((zE (val xs)).length - 1 - i) U239 Z166 (tm rfl) (tm rfl) aA aA) ?_
  refine AY ?_
  refine .p rfl rfl (zU ((zE (val xs)).length - 1 - i) U239 Z166 (tm rfl) (tm rfl) aA aA) ?_
  refine AY ?_
  refine AWP.cx rfl (fun hc31 => ?_) (fun hc31 => ?_)
  ·refine AY ?_
   refine ⟨?_, rfl⟩
   have := ahG hLx hLy hlen (k := (zE (val xs)).length - 1 - i) aA hds aA
   rw [hvx, hvy] at this
   rw [ayC, aJ]; rfl
  refine AX ?_
  refine AWP.draw [(0, true), (1, true), (2, true), (3, true), (4, true), (5, true), (6, true), (7, true), (8, true), (9, true)] rfl aE ?_
  refine AY ?_
  refine .p rfl rfl (zU ((zE (val xs)).length - 1 - i) U239 Z166 (tm rfl) (tm rfl) aA aA) ?_
  refine AY ?_
  refine .p rfl rfl (zU ((zE (val xs)).length - 1 - i) U239 Z166 (tm rfl) (tm rfl) aA aA) ?_
  refine AY ?_
  refine AWP.cx rfl (fun hc41 => ?_) (fun hc41 => ?_)
  ·refine AY ?_
   refine ⟨?_, rfl⟩
   have := ahG hLy hLx hlen.symm (k := (zE (val xs)).length - 1 - i) aA hds.symm aA
   rw [hvx, hvy] at this
   rw [ayC, aI, aJ]; rfl
  refine AY ?_
  refine Round.mk (J := cgS (zE (val xs)) (zE (val ys)) H) ⟨i + 1, by omega, by rw [show (zE (val xs)).length - (i + 1) = (zE (val xs)).length - 1 - i by omega]; exact bbO hlen aA hds aA, rfl, rfl, rfl⟩ sX (hRa _) aA
 refine AY ?_
 refine ⟨?_, rfl⟩
 have h0 : (zE (val xs)).length - i = 0 := by omega
 have hxy : zE (val xs) = zE (val ys) := by rw [h0] at hd; simpa using hd
 rw [baW hxy, ayC, aL (Nat.lt_irrefl _), aL (Nat.lt_irrefl _)]; rfl

end
theorem asT : ∀ k, k = 32 * 256 → BIG = 2 ^ k := by intro k hk; unfold BIG; rw [show (4294967296 : Nat) = 2 ^ 32 by decide, ← dW, hk]
theorem aiS (h : a < 2 ^ k) : (b * 2 ^ k) ||| a = b * 2 ^ k + a := by
 rw [bL, Nat.two_pow_add_eq_or_of_lt h]
theorem beS (h : a < 2 ^ k) : a ||| (b * 2 ^ k) = a + b * 2 ^ k := by
 rw [Nat.or_comm, aiS h, eO]
theorem bcV (h : i < zs.length) : val (zs.set i v) + 4294967296 ^ i * zs.getD i 0 = val zs + 4294967296 ^ i * v := by
 induction zs generalizing i with
 | nil => simp at h
 | cons z zs ih =>
  cases i with
  | zero => simp [val]; omega
  | succ i =>
   have := ih (i := i) (by simpa using h)
   rw [List.set_cons_succ, val, val, dB, bR]
   generalize 4294967296 ^ i = B at *
   generalize zs.getD i 0 = x at *
   have e1 : B * 4294967296 * x = 4294967296 * (B * x) := by rw [bL B, bJ]
   have e2 : B * 4294967296 * v = 4294967296 * (B * v) := by rw [bL B, bJ]
   rw [e1, e2]; omega
theorem getD_set_ne {j : Nat} (h : i ≠ j) : (zs.set i v).getD j 0 = zs.getD j 0 := by
 grind
theorem axQ (h : i < zs.length) : (zs.set i v).getD i 0 = v := by
 grind
theorem biM (n j : Nat) : (List.replicate n 0).getD j 0 = 0 := by
 grind
theorem biE {y o : Nat} (hx : x < 4294967296) (hy : y < 4294967296) (ho : o < 4294967296) (hc : c < 4294967296) : x * y + o + c < 18446744073709551616 := by
 have : x * y ≤ 4294967295 * 4294967295 := eE aA aA
 omega
theorem biD {o0 : List Nat} (hi : i + k < zs.length) (h : val zs + 4294967296 ^ (i + k) * c = val o0 + 4294967296 ^ i * xs.getD i 0 * val (ys.take k)) :
  val (zs.set (i + k) ((xs.getD i 0 * ys.getD k 0 + zs.getD (i + k) 0 + c) % 4294967296)) + 4294967296 ^ (i + (k + 1)) * ((xs.getD i 0 * ys.getD k 0 + zs.getD (i + k) 0 + c) / 4294967296) = val o0 + 4294967296 ^ i * xs.getD i 0 * val (ys.take (k + 1)) := by
 have e := bcV (zs := zs) (i := i + k) (v := (xs.getD i 0 * ys.getD k 0 + zs.getD (i + k) 0 + c) % 4294967296) hi
 rw [yS ys, ← eD, bR]
 rw [bI] at *
 generalize xs.getD i 0 = x at *
 generalize ys.getD k 0 = y at *
 generalize zs.getD (i + k) 0 = o at *
 generalize 4294967296 ^ i = A at *
 generalize 4294967296 ^ k = B at *
 generalize val (ys.take k) = w at *
 generalize val (zs.set (i + k) ((x * y + o + c) % 4294967296)) = u at *
 have e3 : A * B * ((x * y + o + c) % 4294967296) + A * B * 4294967296 * ((x * y + o + c) / 4294967296) = A * B * (x * y + o + c) := by
  rw [bJ (A * B), ← cC, fQ]
 have e4 : A * B * (x * y + o + c) = A * x * (B * y) + A * B * o + A * B * c := by
  rw [cC, cC]
  congr 2
  rw [bJ, bJ, Nat.mul_left_comm B x y]
 rw [cC]
 omega
theorem brB {o0 : List Nat} {m : Nat} (hm : ys.length = m) (hi : i + m < zs.length) (hz : zs.getD (i + m) 0 = 0) (h0 : val o0 = val (xs.take i) * val ys) (h : val zs + 4294967296 ^ (i + m) * c = val o0 + 4294967296 ^ i * xs.getD i 0 * val (ys.take m)) :
  val (zs.set (i + m) c) = val (xs.take (i + 1)) * val ys := by
 have e := bcV (zs := zs) (i := i + m) (v := c) hi
 rw [hz, dG, cI] at e
 have ey : ys.take m = ys := aX aA
 rw [e, h, h0, ey, yS, bS]
theorem bjZ {ws : List Nat} {s : Nat} (hi : i < ws.length) (hs : s ≤ 32) (hx : xs.getD i 0 < 4294967296) (hc : c < 2 ^ s) (h : val (ws.take i) + 4294967296 ^ i * c = val (xs.take i) * 2 ^ s) :
  val ((ws.set i ((c + xs.getD i 0 * 2 ^ s) % 4294967296)).take (i + 1)) + 4294967296 ^ (i + 1) * ((c + xs.getD i 0 * 2 ^ s) / 4294967296) = val (xs.take (i + 1)) * 2 ^ s ∧ (c + xs.getD i 0 * 2 ^ s) / 4294967296 < 2 ^ s ∧ c + xs.getD i 0 * 2 ^ s < 18446744073709551616 := by
 refine ⟨?_, ?_, ?_⟩
 ·rw [afV hi, yS xs, bR, bS, ← h]
  generalize xs.getD i 0 = x at *
  generalize 4294967296 ^ i = B at *
  generalize 2 ^ s = S at *
  have e3 : B * ((c + x * S) % 4294967296) + B * 4294967296 * ((c + x * S) / 4294967296) = B * (c + x * S) := by
   rw [bJ B, ← cC, fQ]
  rw [cC, ← bJ] at e3
  omega
 ·rw [bO aC]
  have : xs.getD i 0 * 2 ^ s ≤ 4294967295 * 2 ^ s := bC _ aA
  omega
 have h1 : xs.getD i 0 * 2 ^ s ≤ 4294967295 * 2 ^ s := bC _ aA
 have h2 : 2 ^ s ≤ 2 ^ 32 := aZ aC hs
 omega
theorem bgR {ws : List Nat} (hL : Limbs ws) (hn : ws.length = n) (h : val (ws.take n) + 4294967296 ^ n * c = v) : val ws = v % 4294967296 ^ n := by
 have := afW hL
 rw [hn] at this
 rw [aX aA] at h
 rw [← h, dL, bB this]
theorem atY {z0 : List Nat} {d : Nat} (hd : 0 < d) (hk : k < zs.length) (hl : zs.length = z0.length) (hg : zs.getD k 0 = z0.getD k 0) (h : val (zs.drop (k + 1)) * d + r = val (z0.drop (k + 1))) :
  val ((zs.set k ((r * 4294967296 + z0.getD k 0) / d)).drop k) * d + (r * 4294967296 + z0.getD k 0) % d = val (z0.drop k) := by
 have hk0 : k < z0.length := by omega
 have e1 : (zs.set k ((r * 4294967296 + z0.getD k 0) / d)).drop k = (r * 4294967296 + z0.getD k 0) / d :: zs.drop (k + 1) := by
  rw [cA (by simpa using hk), List.getElem_set_self, List.drop_set_of_lt aA]
 have e2 : z0.drop k = z0.getD k 0 :: z0.drop (k + 1) := by
  rw [cA hk0, aR, bA hk0]; rfl
 rw [e1, e2, val, val, ← h]
 generalize z0.getD k 0 = x
 generalize val (zs.drop (k + 1)) = w
 have e3 := cJ (r * 4294967296 + x) d
 generalize (r * 4294967296 + x) / d = q at *
 generalize (r * 4294967296 + x) % d = m at *
 rw [bS, bL q d, bJ, cC 4294967296 (w * d) r]
 omega
theorem atZ {d : Nat} (hr : r < d) (hx : x < 4294967296) (hd : d < 4294967296) : (r * 4294967296 + x) / d < 4294967296 ∧ r * 4294967296 + x < 18446744073709551616 := by
 refine ⟨?_, by omega⟩
 rw [bO aA]
 have : (r + 1) * 4294967296 ≤ d * 4294967296 := bC _ hr
 omega
section
open Go Go.RowKit
set_option maxRecDepth 100000

def caC (p : Prop) [Decidable p] (v : Nat) : AV := .tuple [aaN (if p then v else 0), .int .i64 (if p then 0 else 2)]
theorem azK {p : Prop} [Decidable p] (h : p) : caC p v = .tuple [aaN v, .int .i64 0] := by unfold caC; rw [aN h, aN h]
theorem azL {p : Prop} [Decidable p] (h : ¬ p) : caC p v = .tuple [aaN 0, .int .i64 2] := by unfold caC; rw [aL h, aL h]
theorem bkI {p q : Prop} [Decidable p] [Decidable q] (h : p ↔ q) : caC p v = caC q v := by
 by_cases hp : p
 ·rw [azK hp, azK (h.1 hp)]
 rw [azL hp, azL (fun hq => hp (h.2 hq))]
def cdU (v : Nat) : AV := caC (v < BIG) v
def chJ (a b : Nat) : AV := caC (a < BIG ∧ b < BIG ∧ a * b < BIG) (a * b)
def chQ (p : List Nat × Tail) : AV := .slice 1 (U .u32 p.1) p.2
def buO (p : List Nat × Tail) : Bool := decide (256 < yT p.1)
theorem bvA {α : Type} {l : List α} {q : α → Bool} (hi : i < l.length) (h : (l.take i).any q = false) (hq : q l[i] = false) : (l.take (i + 1)).any q = false := by
 rw [← cS hi, List.any_append, h]; simp [hq]
theorem cdP {α : Type} {l : List α} {q : α → Bool} (hi : i < l.length) (hq : q l[i] = true) : l.any q = true := by
 rw [List.any_eq_true]; exact ⟨l[i], eJ hi, hq⟩

def caG (l : List (List Nat × Tail)) (tl : Tail) (H : Heap) : Nat → Env → Heap → Prop := fun k env H1 => ∃ i : Nat, i ≤ l.length ∧ (l.take i).any buO = false ∧ env = [(0, .slice 1 (l.map chQ) tl), (5, .slice 1 (l.map chQ) tl), (6, .int .i64 (l.length : Int)), (7, .int .i64 (i : Int))] ∧ H = H1 ∧ k = l.length - i

theorem auR (l : List (List Nat × Tail)) (tl : Tail) (hx : ∀ p, p ∈ l → Limbs p.1) (hl : ∀ p, p ∈ l → p.1.length ≤ 1000000) (hL : l.length ≤ 1000) (H : Heap) : ACall prog 310 [.slice 1 (l.map chQ) tl] H (fun y H' => y = .bool (l.any buO) ∧ H' = H) := by
 refine ACall.of_body func310 rfl ntmps310 results310 rfl ?_
 refine AY ?_
 refine AWP.loopW (caG l tl H) (l.length) ⟨0, Nat.zero_le _, rfl, rfl, rfl, rfl⟩ sX (hRa _) ?_
 rintro _ _ _ ⟨i, hi, hany, rfl, rfl, hk⟩
 refine AY ?_
 refine AWP.cx rfl (fun hc8 => ?_) (fun hc8 => ?_)
 ·have hi2 : i < l.length := by omega
  refine AY ?_
  refine .cl rfl C314 (evs1 rfl) (acX l[i].1 l[i].2 (hx _ (eJ hi2)) (hl _ (eJ hi2)) _) ?_
  refine AY ?_
  refine AWP.cx rfl (fun hc13 => ?_) (fun hc13 => ?_)
  ·have hb : buO l[i] = true := by unfold buO; simp only [aO]; omega
   refine AY ?_
   refine ⟨?_, rfl⟩
   rw [cdP hi2 hb]; rfl
  have hb : buO l[i] = false := by unfold buO; simp only [aM]; omega
  refine AY ?_
  refine Round.mk (J := caG l tl H) ⟨i + 1, by omega, bvA hi2 hany hb, rfl, rfl, rfl⟩ sX (hRa _) aA
 refine AY ?_
 refine ⟨?_, rfl⟩
 rw [aX aA] at hany
 rw [hany]; rfl

theorem avC (xs : List Nat) (tl : Tail) (hx : Limbs xs) (hl : xs.length ≤ 1000000) : Fn 312 [.slice 1 (U .u32 xs) tl] (cdU (val xs)) := by
 intro H
 have hb := @baX (val xs)
 have hr := aaO xs
 have hrl := abC hx
 refine .of_body func312 rfl ntmps312 results312 rfl ?_
 iterate 2 refine AX ?_
 refine AM ?_
 refine AY ?_
 refine .cl rfl C311 (evs1 rfl) (qZ _ _ aB aB _) ?_
 refine AY ?_
 refine .cx rfl (fun hc8 => ?_) (fun hc8 => ?_)
 ·iterate 2 refine AX ?_
  refine AM ?_
  refine AY ?_
  refine ⟨?_, rfl⟩
  rw [cdU, azL aA]; rfl
 refine AY ?_
 refine ⟨?_, rfl⟩
 rw [cdU, azK aA]; rfl

theorem cbH {tl tl2 : Tail} (hx : Limbs xs) (hy : Limbs ys) : [(xs, tl), (ys, tl2)].any buO = decide (BIG ≤ val xs ∨ BIG ≤ val ys) := by
 have h1 := aqH hx
 have h2 := aqH hy
 have e : ∀ a b : Prop, ∀ [Decidable a] [Decidable b], (decide a || decide b) = decide (a ∨ b) := by intro a b _ _; by_cases a <;> by_cases b <;> simp_all
 simp only [List.any_cons, List.any_nil, Bool.or_false, buO, h1, h2, e]
theorem ccM {tl : Tail} (hx : Limbs xs) : [(xs, tl)].any buO = decide (BIG ≤ val xs) := by
 have h1 := aqH hx
 simp only [List.any_cons, List.any_nil, Bool.or_false, buO, h1]
theorem arE (xs : List Nat) (tl tl3 : Tail) (hx : Limbs xs) (hl : xs.length ≤ 1000000) : Fn 310 [.slice 1 [.slice 1 (U .u32 xs) tl] tl3] (.bool (decide (BIG ≤ val xs))) := by
 intro H
 rw [← ccM (tl := tl) hx]
 exact auR [(xs, tl)] tl3 (by simpa using hx) (by simpa using hl) aF H
theorem akT (xs : List Nat) (tl : Tail) (hx : Limbs xs) (hl : xs.length ≤ 1000000) (ys : List Nat) (tl2 tl3 : Tail) (hy : Limbs ys) (hm : ys.length ≤ 1000000) : Fn 310 [.slice 1 [.slice 1 (U .u32 xs) tl, .slice 1 (U .u32 ys) tl2] tl3] (.bool (decide (BIG ≤ val xs ∨ BIG ≤ val ys))) := by
 intro H
 rw [← cbH (tl := tl) (tl2 := tl2) hx hy]
 refine auR [(xs, tl), (ys, tl2)] tl3 ?_ ?_ aF H
 ·intro p hp
  rcases cO.1 hp with rfl | hp
  ·exact hx
  rcases cO.1 hp with rfl | hp
  ·exact hy
  simp at hp
 intro p hp
 rcases cO.1 hp with rfl | hp
 ·exact hl
 rcases cO.1 hp with rfl | hp
 ·exact hm
 simp at hp

end
section
open Go Go.RowKit
set_option maxRecDepth 100000

def hiN (a b : Nat) : Nat := if (zE a).length < (zE b).length then b else a
def loN (a b : Nat) : Nat := if (zE a).length < (zE b).length then a else b
theorem chV (a b : Nat) : hiN a b + loN a b = a + b ∧ (zE (loN a b)).length ≤ (zE (hiN a b)).length := by
 unfold hiN loN; split <;> omega
theorem yK (h : n < BIG) : (zE n).length ≤ 256 := by
 have := @baX n
 omega
theorem chU (ha : a < BIG) (hb : b < BIG) : hiN a b < BIG := by unfold hiN; split <;> assumption

def cgX (P Q : Nat) (b : Nat) (H : Heap) : Nat → Env → Heap → Prop := fun k env H1 => ∃ (i c : Nat) (zs : List Nat), i ≤ (zE P).length ∧ zs.length = (zE P).length + 1 ∧ Limbs zs ∧ c ≤ 1 ∧ val (zs.take i) + 4294967296 ^ i * c = val ((zE P).take i) + val ((zE Q).take i) ∧ env = [(0, aaN P), (1, aaN Q), (6, .mslice (some ⟨b, 0, none⟩) ((zE P).length + 1) ((zE P).length + 1)), (7, .int .u32 (c : Int)), (30, .int .i64 ((zE P).length : Int)), (31, .int .i64 (i : Int))] ∧ H1 = H.set b (.box 166 (U .u32 zs)) ∧ k = (zE P).length - i

theorem buL (xs : List Nat) (tl : Tail) (hx : Limbs xs) (hl : xs.length ≤ 1000000) (ys : List Nat) (tl2 : Tail) (hy : Limbs ys) (hm : ys.length ≤ 1000000) (H : Heap) : ACall prog 309 [.slice 1 (U .u32 xs) tl, .slice 1 (U .u32 ys) tl2] H (fun y H' => y = cdU (val xs + val ys) ∧ H' = H) := by
 refine ACall.of_body func309 rfl ntmps309 results309 rfl ?_
 iterate 2 refine AX ?_
 refine AM ?_
 refine AY ?_
 refine .e rfl (ahJ U327 Z239 V239 rfl (tm rfl) (.inl rfl) ⟨rfl, rfl⟩ (tm rfl) (.inl rfl) ⟨rfl, rfl⟩) (.cl rfl C310 (evs1 rfl) (akT _ _ aB aB _ _ _ aB aB _) ?_)
 refine AY ?_
 refine AWP.cx rfl (fun hc13 => ?_) (fun hc13 => ?_)
 ·iterate 2 refine AX ?_
  refine AM ?_
  refine AY ?_
  refine ⟨?_, rfl⟩
  rw [cdU, azL aA]; rfl
 refine AY ?_
 refine .cl rfl C311 (evs1 rfl) (qZ _ _ aB aB _) ?_
 refine AX ?_
 refine .cl rfl C311 (evs1 rfl) (qZ _ _ aB aB _) ?_
 iterate 4 refine AX ?_
 refine AWP.seqToL [(0, aaN (hiN (val xs) (val ys))), (1, aaN (loN (val xs) (val ys)))] [4, 5] ?_ ?_
 ·refine AY ?_
  refine AWP.cx rfl (fun hc22 => ?_) (fun hc22 => ?_)
  ·refine AY ?_
   exact ⟨rfl, (zN rfl (by simp only [hiN]; split <;> first | rfl | omega) (zN rfl (by simp only [loN]; split <;> first | rfl | omega) sX)), rfl⟩
  refine AX ?_
  exact ⟨rfl, (zN rfl (by simp only [hiN]; split <;> first | rfl | omega) (zN rfl (by simp only [loN]; split <;> first | rfl | omega) sX)), rfl⟩
 refine AWP.sub [(0, _), (1, _), (4, _), (5, _)] sX ?_
 have hs := chV (val xs) (val ys)
 have h256 := yK (chU (a := val xs) (b := val ys) aA aA)
 revert hs h256
 generalize hiN (val xs) (val ys) = P
 generalize loN (val xs) (val ys) = Q
 intro hs h256
 refine AY ?_
 refine .s rfl (yL ((zE P).length + 1) U239 typeInfo166 Z166 V166 (tm rfl) (tm rfl) aA aA aC aA) ?_
 rintro _ _ ⟨b28, rfl, hb28, hH⟩
 obtain rfl := hH.symm
 iterate 5 refine AX ?_
 refine AM ?_
 refine AY ?_
 refine AWP.loopW (cgX P Q b28 H) ((zE P).length) ⟨0, 0, List.replicate ((zE P).length + 1) 0, Nat.zero_le _, by simp, Limbs.rep aA, by omega, rfl, rfl, rfl, rfl⟩ sX (hRa _) ?_
 rintro _ _ _ ⟨i, c, zs, hi, hz, hzl, hc, hv, rfl, rfl, hk⟩
 refine AY ?_
 refine AWP.cx rfl (fun hc32 => ?_) (fun hc32 => ?_)
 ·iterate 12 refine AX ?_
  refine AM ?_
  iterate 2 refine AX ?_
  refine AWP.seqToL [(9, .int .u32 (((zE Q).getD i 0 : Nat) : Int))] [0, 1, 6, 7, 30, 31, 8] ?_ ?_
  ·refine AY ?_
   refine AWP.cx rfl (fun hc37 => ?_) (fun hc37 => ?_)
   ·refine AY ?_
    refine .p rfl (zU (i) U239 Z166 (tm rfl) (tm rfl) aA aA) ?_
    refine AY ?_
    exact ⟨rfl, (zN rfl aD sX), rfl⟩
   refine AX ?_
   exact ⟨rfl, (zN rfl (by (rw [agB aA])) sX), rfl⟩
  refine AWP.sub [(9, _), (0, _), (1, _), (6, _), (7, _), (30, _), (31, _), (8, _)] sX ?_
  refine AY ?_
  refine .p rfl (zU (i) U239 Z166 (tm rfl) (tm rfl) aA aA) ?_
  refine AY ?_
  refine .cl rfl call339 (evs3 rfl rfl rfl) (asU _ _ _ (Limbs.getD (zF _) _) (Limbs.getD (zF _) _) aA _) ?_
  refine AY ?_
  refine .p rfl (yI (i) U239 Z166 (tm rfl) (tm rfl) aA aA) (.e0 (yW Z166 (tm rfl) (tm rfl) (oS _ _ _) aA) ?_)
  try first | rw [sS] | rw [sU aB]
  refine AY ?_
  refine Round.mk (J := cgX P Q b28 H) ⟨i + 1, _, _, by omega, by simpa using hz, Limbs.set hzl aA, by have h1 := Limbs.getD (zF P) i; have h2 := Limbs.getD (zF Q) i; omega, bjF aA hv, rfl, rfl, rfl⟩ sX (hRa _) aA
 refine AY ?_
 refine .p rfl (yI ((zE P).length) U239 Z166 (tm rfl) (tm rfl) aA aA) (.e0 (yW Z166 (tm rfl) (tm rfl) (oS _ _ _) aA) ?_)
 try first | rw [sS] | rw [sU aB]
 iterate 3 refine AX ?_
 have hi2 : i = (zE P).length := by omega
 subst hi2
 have hz2 : zs.length ≤ (zE P).length + 1 := by omega
 have hz3 : (zE P).length < zs.length := by omega
 have hv2 := ceP hz rfl hs.2 hv
 rw [zL, zL] at hv2
 refine AWP.frzU (t := 6) rfl hb28 (by simp <;> omega) (aT _) (by simp only [zK]; omega) ?_
 rw [aX (by simp <;> omega)]
 have hz4 := Limbs.set hzl (i := (zE P).length) (v := c) aA
 have hz5 : (zs.set (zE P).length c).length ≤ 1000000 := by simp <;> omega
 refine AY ?_
 refine .cl rfl call312 (evs1 rfl) (avC _ _ aB aB _) ?_
 refine AY ?_
 refine ⟨?_, rfl⟩
 rw [← hs.1, ← hv2]; rfl

theorem aoR (h : ∀ j, n ≤ j → zs.getD j 0 = 0) (hi : i < n) : ∀ j, n ≤ j → (zs.set i v).getD j 0 = 0 := fun j hj => by
 rw [getD_set_ne aA, h j hj]

def cfZ (P Q : Nat) (b : Nat) (H : Heap) : Nat → Env → Heap → Prop := fun k env H1 => ∃ (i : Nat) (zs : List Nat), i ≤ (zE P).length ∧ zs.length = (zE P).length + (zE Q).length ∧ Limbs zs ∧ (∀ j, i + (zE Q).length ≤ j → zs.getD j 0 = 0) ∧ val zs = val ((zE P).take i) * val (zE Q) ∧ env = [(0, aaN P), (1, aaN Q), (6, .mslice (some ⟨b, 0, none⟩) ((zE P).length + (zE Q).length) ((zE P).length + (zE Q).length)), (26, .int .i64 ((zE P).length : Int)), (27, .int .i64 (i : Int))] ∧ H1 = H.set b (.box 166 (U .u32 zs)) ∧ k = (zE P).length - i

def caI (P Q : Nat) (b i : Nat) (o0 : List Nat) (H : Heap) : Nat → Env → Heap → Prop := fun k env H1 => ∃ (j c : Nat) (zs : List Nat), j ≤ (zE Q).length ∧ zs.length = (zE P).length + (zE Q).length ∧ Limbs zs ∧ c < 4294967296 ∧ (∀ j, i + (zE Q).length ≤ j → zs.getD j 0 = 0) ∧ val zs + 4294967296 ^ (i + j) * c = val o0 + 4294967296 ^ i * (zE P).getD i 0 * val ((zE Q).take j) ∧ env = [(0, aaN P), (1, aaN Q), (6, .mslice (some ⟨b, 0, none⟩) ((zE P).length + (zE Q).length) ((zE P).length + (zE Q).length)), (26, .int .i64 ((zE P).length : Int)), (27, .int .i64 (i : Int)), (7, .int .i64 (i : Int)), (8, .int .u64 (c : Int)), (31, .int .i64 ((zE Q).length : Int)), (32, .int .i64 (j : Int))] ∧ H1 = H.set b (.box 166 (U .u32 zs)) ∧ k = (zE Q).length - j

theorem buH (xs : List Nat) (tl : Tail) (hx : Limbs xs) (hl : xs.length ≤ 1000000) (ys : List Nat) (tl2 : Tail) (hy : Limbs ys) (hm : ys.length ≤ 1000000) (H : Heap) : ACall prog 269 [.slice 1 (U .u32 xs) tl, .slice 1 (U .u32 ys) tl2] H (fun y H' => y = chJ (val xs) (val ys) ∧ H' = H) := by
 refine ACall.of_body func269 rfl ntmps269 results269 rfl ?_
 iterate 2 refine AX ?_
 refine AM ?_
 refine AY ?_
 refine .e rfl (ahJ U327 Z239 V239 rfl (tm rfl) (.inl rfl) ⟨rfl, rfl⟩ (tm rfl) (.inl rfl) ⟨rfl, rfl⟩) (.cl rfl C310 (evs1 rfl) (akT _ _ aB aB _ _ _ aB aB _) ?_)
 refine AY ?_
 refine AWP.cx rfl (fun hc14 => ?_) (fun hc14 => ?_)
 ·iterate 2 refine AX ?_
  refine AM ?_
  refine AY ?_
  refine ⟨?_, rfl⟩
  rw [chJ, azL aA]; rfl
 refine AY ?_
 refine .cl rfl C311 (evs1 rfl) (qZ _ _ aB aB _) ?_
 refine AX ?_
 refine .cl rfl C311 (evs1 rfl) (qZ _ _ aB aB _) ?_
 iterate 5 refine AX ?_
 have h256 := yK (n := val xs) aA
 have h257 := yK (n := val ys) aA
 have hmul : chJ (val xs) (val ys) = cdU (val xs * val ys) := by
  exact bkI ⟨fun h => h.2.2, fun h => ⟨by omega, by omega, h⟩⟩
 rw [hmul]
 generalize val xs = P at *
 generalize val ys = Q at *
 refine AY ?_
 refine .s rfl (yL ((zE P).length + (zE Q).length) U239 typeInfo166 Z166 V166 (tm rfl) (tm rfl) aA aA aC aA) ?_
 rintro _ _ ⟨b24, rfl, hb24, hH⟩
 obtain rfl := hH.symm
 refine AY ?_
 refine AWP.loopW (cfZ P Q b24 H) ((zE P).length) ⟨0, List.replicate _ 0, Nat.zero_le _, by simp, Limbs.rep aA, fun j _ => biM _ _, by rw [amS, eP, val, dQ], rfl, rfl, rfl⟩ sX (hRa _) ?_
 rintro _ _ _ ⟨i, zs0, hi, hz0, hzl0, h0, hv0, rfl, rfl, hk⟩
 refine AY ?_
 refine AWP.cx rfl (fun hc28 => ?_) (fun hc28 => ?_)
 ·iterate 12 refine AX ?_
  refine AM ?_
  refine AY ?_
  refine AWP.loopW (caI P Q b24 i zs0 H) ((zE Q).length) ⟨0, 0, zs0, Nat.zero_le _, hz0, hzl0, by omega, h0, by rw [eP, val, dG, dG], rfl, rfl, rfl⟩ sX (hRa _) ?_
  rintro _ _ _ ⟨j, c, zs, hj, hz, hzl, hc, hzr, hv, rfl, rfl, hk2⟩
  refine AY ?_
  refine AWP.cx rfl (fun hc33 => ?_) (fun hc33 => ?_)
  ·have hPi := Limbs.getD (zF P) i
   have hQj := Limbs.getD (zF Q) j
   have hZ := Limbs.getD hzl (i + j)
   have hmf := biE hPi hQj hZ hc
   refine AY ?_
   refine AWP.draw [(0, true), (1, true), (2, true), (3, true), (4, true), (5, true), (6, true), (7, true), (8, true), (9, true), (10, true), (11, true), (12, true), (13, true), (14, true), (15, true), (19, true), (16, false), (17, true), (18, true), (20, true), (21, true)] rfl aE ?_
   refine AY ?_
   refine .p rfl rfl (zU (i) U239 Z166 (tm rfl) (tm rfl) aA aA) ?_
   refine AY ?_
   refine .p rfl rfl (zU (j) U239 Z166 (tm rfl) (tm rfl) aA aA) ?_
   refine AY ?_
   refine .p rfl rfl (yI (i + j) U239 Z166 (tm rfl) (tm rfl) aA aA) ?_
   refine AX ?_
   refine .s rfl rfl (yY G166 (tm rfl) (oS _ _ _) aA) ?_
   rintro _ _ ⟨rfl, hH⟩
   obtain rfl := hH.symm
   iterate 14 refine AX ?_
   refine AM ?_
   refine .p rfl (yI (i + j) U239 Z166 (tm rfl) (tm rfl) aA aA) (.e0 (yW Z166 (tm rfl) (tm rfl) (oS _ _ _) aA) ?_)
   try first | rw [sS] | rw [sU aB]
   refine AY ?_
   refine Round.mk (J := caI P Q b24 i zs0 H) ⟨j + 1, _, _, by omega, by simpa using hz, Limbs.set hzl aA, by omega, fun q hq => aoR hzr aA q hq, biD aA hv, rfl, rfl, rfl⟩ sX (hRa _) aA
  have hj2 : j = (zE Q).length := by omega
  subst hj2
  have hcm : c % 2 ^ IntKind.u32.bits = c := bB hc
  refine AY ?_
  refine .p rfl (yI (i + (zE Q).length) U239 Z166 (tm rfl) (tm rfl) aA aA) (.e0 (yW Z166 (tm rfl) (tm rfl) (oS _ _ _) aA) ?_)
  try first | rw [sS] | rw [sU aB]
  refine AY ?_
  rw [hcm]
  refine Round.mk (J := cfZ P Q b24 H) ⟨i + 1, _, by omega, by simpa using hz, Limbs.set hzl hc, fun j hj => aoR (n := i + 1 + (zE Q).length) (fun j hj => hzr j aA) aA j hj, brB rfl aA (hzr _ (aT _)) hv0 hv, rfl, rfl, rfl⟩ sX (hRa _) aA
 iterate 6 refine AX ?_
 have hi2 : i = (zE P).length := by omega
 subst hi2
 rw [dE, zL, zL] at hv0
 refine AWP.frzU (t := 6) rfl hb24 aA (aT _) (by simp only [zK]; omega) ?_
 rw [aX aA]
 have hz5 : zs0.length ≤ 1000000 := by omega
 refine AY ?_
 refine .cl rfl call312 (evs1 rfl) (avC _ _ aB aB _) ?_
 refine AY ?_
 refine ⟨?_, rfl⟩
 rw [← hv0]; rfl

end
end Go.Proofs.YtmmgbnolccpjoaaGreatDoor
