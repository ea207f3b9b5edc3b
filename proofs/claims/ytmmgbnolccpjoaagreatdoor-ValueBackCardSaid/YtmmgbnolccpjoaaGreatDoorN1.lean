import Derived.Test.YtmmgbnolccpjoaaGreatDoorYd
namespace Go.Proofs.YtmmgbnolccpjoaaGreatDoor
variable {a b c i k n r v x : Nat} {xs ys zs : List Nat}
def Limbs (xs : List Nat) : Prop := ∀ x, x ∈ xs → x < 4294967296
def val : List Nat → Nat
 | [] => 0
 | x :: xs => x + 4294967296 * val xs
def qD : List Nat → Nat
 | [] => 0
 | x :: xs => if qD xs = 0 ∧ x = 0 then 0 else qD xs + 1
def arI : Nat → Nat → List Nat
 | 0, _ => []
 | _ + 1, 0 => []
 | f + 1, n + 1 => (n + 1) % 4294967296 :: arI f ((n + 1) / 4294967296)
def zK (n : Nat) : List Nat := arI n n
theorem aoM : ∀ (f g n : Nat), n ≤ f → n ≤ g → arI f n = arI g n
 | 0, 0, _, _, _ => rfl
 | 0, g + 1, n, h, _ => by
  have : n = 0 := by omega
  subst this; rfl
 | f + 1, 0, n, _, h => by
  have : n = 0 := by omega
  subst this; rfl
 | f + 1, g + 1, 0, _, _ => rfl
 | f + 1, g + 1, n + 1, h1, h2 => by
  unfold arI
  rw [aoM f g ((n + 1) / 4294967296) (by omega) (by omega)]
theorem aaZ : zK 0 = [] := rfl
theorem qV (h : 0 < n) : zK n = n % 4294967296 :: zK (n / 4294967296) := by
 unfold zK
 obtain ⟨m, rfl⟩ : ∃ m, n = m + 1 := ⟨n - 1, by omega⟩
 show (m + 1) % 4294967296 :: arI m ((m + 1) / 4294967296) = _
 rw [aoM m ((m + 1) / 4294967296) ((m + 1) / 4294967296) (by omega) (aX _)]
theorem zT (n : Nat) : val (zK n) = n := by
 induction n using Nat.strongRecOn with
 | ind n ih =>
  rcases aY n with h | h
  ·subst h; rfl
  rw [qV h, val, ih _ (by omega)]; omega
theorem zP (n : Nat) : Limbs (zK n) := by
 induction n using Nat.strongRecOn with
 | ind n ih =>
  rcases aY n with h | h
  ·subst h; intro x hx; simp [aaZ] at hx
  rw [qV h]
  intro x hx
  rcases cQ.1 hx with rfl | hx
  ·omega
  exact ih _ (by omega) x hx
theorem Limbs.cons {x : Nat} {xs : List Nat} (h : Limbs (x :: xs)) : x < 4294967296 ∧ Limbs xs := ⟨h x (by simp), fun y hy => h y (by simp [hy])⟩
theorem Limbs.mk (hx : x < 4294967296) (h : Limbs xs) : Limbs (x :: xs) := fun y hy => by
 rcases cQ.1 hy with rfl | hy
 ·exact hx
 exact h y hy
theorem Limbs.nil : Limbs [] := fun _ h => by simp at h
theorem Limbs.append (h : Limbs xs) (k : Limbs ys) : Limbs (xs ++ ys) := fun y hy => by
 rcases eF.1 hy with h1 | h1
 ·exact h y h1
 exact k y h1
theorem Limbs.take (h : Limbs xs) (n : Nat) : Limbs (xs.take n) := fun y hy => h y (List.mem_of_mem_take hy)
theorem Limbs.drop (h : Limbs xs) (n : Nat) : Limbs (xs.drop n) := fun y hy => h y (List.mem_of_mem_drop hy)
theorem Limbs.rep (h : x < 4294967296) : Limbs (List.replicate n x) := fun y hy => by rw [List.eq_of_mem_replicate hy]; exact h
theorem aaL : ∀ {xs : List Nat}, qD xs = 0 → val xs = 0
 | [], _ => rfl
 | x :: xs, h => by
  unfold qD at h
  split at h
  ·rename_i hc; rw [val, aaL hc.1, hc.2]
  omega
theorem aaM : ∀ {xs : List Nat}, val xs = 0 → qD xs = 0
 | [], _ => rfl
 | x :: xs, h => by
  rw [val] at h
  unfold qD
  rw [aO ⟨aaM (by omega), by omega⟩]
theorem adC : ∀ {xs : List Nat}, Limbs xs → xs.take (qD xs) = zK (val xs)
 | [], _ => rfl
 | x :: xs, h => by
  obtain ⟨hx, hxs⟩ := h.cons
  unfold qD
  split
  ·rename_i hc
   rw [val, aaL hc.1, hc.2]; rfl
  rename_i hc
  rw [List.take_succ_cons, adC hxs]
  have hpos : 0 < val (x :: xs) := by
   rw [val]
   rcases aY x with h0 | h0
   ·rcases aY (val xs) with h1 | h1
    ·exact absurd ⟨aaM h1, h0⟩ hc
    omega
   omega
  rw [qV hpos]
  simp only [val]
  rw [show (x + 4294967296 * val xs) % 4294967296 = x by omega, show (x + 4294967296 * val xs) / 4294967296 = val xs by omega]
theorem aaW : ∀ (xs : List Nat), qD xs ≤ xs.length
 | [] => aX _
 | x :: xs => by
  unfold qD
  have := aaW xs
  split <;> simp <;> omega
theorem abF (h : Limbs xs) : qD xs = (zK (val xs)).length := by
 rw [← adC h, aQ]
 have := aaW xs
 omega
theorem agQ (n : Nat) : qD (zK n) = (zK n).length := by rw [abF (zP n), zT]
theorem acA (hk : k < xs.length) : qD (xs.take (k + 1)) = if xs.getD k 0 = 0 then qD (xs.take k) else k + 1 := by
 induction xs generalizing k with
 | nil => simp at hk
 | cons x xs ih =>
  cases k with
  | zero =>
   simp only [List.take_succ_cons, eV, dQ]
   unfold qD
   simp [qD]
  | succ k =>
   rw [List.take_succ_cons, List.take_succ_cons]
   have hk' : k < xs.length := by simpa using hk
   simp only [qD, ih hk', dS]
   by_cases h : xs.getD k 0 = 0
   ·rw [aO h, aO h]
   rw [aN h, aN h, aN (by omega)]
theorem qX : ∀ (xs ys : List Nat), val (xs ++ ys) = val xs + 4294967296 ^ xs.length * val ys
 | [], ys => by simp [val]
 | x :: xs, ys => by
  rw [eT, val, qX xs ys, val, bE, bO, bY, ← bC, bD (4294967296 ^ xs.length) 4294967296]
  omega
theorem afE : ∀ {xs : List Nat}, Limbs xs → val xs < 4294967296 ^ xs.length
 | [], _ => by simp [val]
 | x :: xs, h => by
  obtain ⟨hx, hxs⟩ := h.cons
  have := afE hxs
  rw [val, bE, bO]
  omega
theorem akK (n : Nat) : val (List.replicate n 0) = 0 := by
 induction n with
 | zero => rfl
 | succ n ih => rw [fJ, val, ih]
theorem qZ {n k : Nat} : (zK n).length ≤ k ↔ n < 4294967296 ^ k := by
 induction k generalizing n with
 | zero =>
  rcases aY n with h | h
  ·subst h; simp [aaZ]
  rw [qV h]; simp; omega
 | succ k ih =>
  rcases aY n with h | h
  ·subst h; simp [aaZ]; exact bI (by decide)
  rw [qV h, bE, Nat.add_le_add_iff_right, ih, bO, bJ (by decide)]
theorem awH (h : zK a = zK b) : a = b := by rw [← zT a, h, zT]
theorem asE (hk : k < xs.length) : val (xs.take (k + 1)) = val (xs.take k) + 4294967296 ^ k * xs.getD k 0 := by
 rw [← dJ hk, qX]
 simp only [val, aQ, cW, cC]
 rw [dE (by omega)]
 congr 2
 rw [aP, bF hk]; rfl
theorem Limbs.getD (h : Limbs xs) (k : Nat) : xs.getD k 0 < 4294967296 := by
 rw [aP]
 cases hk : xs[k]? with
 | none => simp
 | some x => exact h x (eW hk)
theorem copied (h : r ≤ xs.length) : (zs.take 0 ++ xs.take r ++ zs.drop (0 + min xs.length r)).take r = xs.take r := by
 rw [eV, cT, eS (by rw [aQ]; omega), List.take_take, Nat.min_self]
def BIG : Nat := 4294967296 ^ 256
section
open Go Go.RowKit
set_option maxRecDepth 100000

def aaT (n : Nat) : AV := .slice 1 (U .u32 (zK n)) .shared
def bjN (xs : List Nat) (tl : Tail) (H : Heap) : Nat → Env → Heap → Prop := fun k env H1 => ∃ n : Nat, n ≤ xs.length ∧ qD (xs.take n) = qD xs ∧ env = [(0, .slice 1 (U .u32 xs) tl), (3, .int .i64 (n : Int))] ∧ H = H1 ∧ k = n

theorem acM (xs : List Nat) (tl : Tail) (hx : Limbs xs) (hl : xs.length ≤ 1000000) (H : Heap) : ACall Tryz.prog 314 [.slice 1 (U .u32 xs) tl] H (fun y H' => y = .int .i64 (qD xs : Int) ∧ H' = H) := by
 refine ACall.of_body Tryz.func314 rfl Tryz.ntmps314 Tryz.results314 rfl ?_
 iterate 14 refine AX ?_
 refine AWP.loopW (bjN xs tl H) (xs.length) ⟨xs.length, aX _, by rw [dL], rfl, rfl, rfl⟩ sX (hRa _) ?_
 rintro _ _ _ ⟨n, hn, hr, rfl, rfl, hk⟩
 refine AX ?_
 refine AWP.seqTo 15 (.bool (decide (0 < (n : Int)) && decide (((xs.getD (n - 1) 0 : Nat) : Int) = 0))) [0, 3] ?_ ?_
 ·-- region 2
  iterate 4 refine AX ?_
  refine zL (t := 8) rfl (fun hg8 => ?_) (fun hg8 => ?_)
  ·have hh8 := hg8; try simp only [aM] at hh8
   iterate 3 refine AX ?_
   refine .gp rfl rfl rfl (by assumption) (yA (n - 1) U239 Z166 (tm rfl) (tm rfl) (by omega) (by omega)) ?_
   refine AX ?_
   refine .gp rfl rfl rfl (by assumption) (zR (tm rfl) (zI 0)) ?_
   iterate 2 refine AX ?_
   exact ⟨rfl, zY rfl (by simp_all) sX, rfl⟩
  have hh8 := hg8; try simp only [aL, bN] at hh8
  iterate 8 refine AX ?_
  exact ⟨rfl, zY rfl (by simp_all) sX, rfl⟩
 refine AWP.sub [(15, _), (0, _), (3, _)] sX ?_
 refine AWP.cx rfl (fun hc15 => ?_) (fun hc15 => ?_)
 ·simp only [bK, aM] at hc15
  iterate 10 refine AX ?_
  have hs := acA (xs := xs) (k := n - 1) (by omega)
  rw [show n - 1 + 1 = n by omega, aO (by omega)] at hs
  refine Round.mk (J := bjN xs tl H) ⟨n - 1, by omega, by rw [← hs, hr], rfl, rfl, rfl⟩ (zC rfl (zX rfl (by rw [show ((n : Int) - 1) = ((n - 1 : Nat) : Int) by omega]) zU)) (hRa _) (by omega)
 simp only [cB, aL] at hc15
 iterate 13 refine AX ?_
 refine ⟨?_, rfl⟩
 have hq : n = qD xs := by
  rcases aY n with h0 | h0
  ·subst h0; rw [← hr]; rfl
  have hs := acA (xs := xs) (k := n - 1) (by omega)
  rw [show n - 1 + 1 = n by omega, aN (by omega), hr] at hs
  exact hs.symm
 rw [hq]; rfl

theorem aaI (xs : List Nat) (tl : Tail) (hx : Limbs xs) (hl : xs.length ≤ 1000000) (H : Heap) : ACall Tryz.prog 311 [.slice 1 (U .u32 xs) tl] H (fun y H' => y = aaT (val xs) ∧ H' = H) := by
 have hr := aaW xs
 refine ACall.of_body Tryz.func311 rfl Tryz.ntmps311 Tryz.results311 rfl ?_
 iterate 2 refine AX ?_
 refine .p rfl (zA (qK (sz := 1) (tl := .full))) ?_
 iterate 6 refine AX ?_
 refine .cl rfl C314 (evs1 rfl) (acM _ _ (by assumption) (by assumption) _) (.p rfl (acT (_) U239 Z166 (tm rfl) (tm rfl) rfl (by omega)) ?_)
 iterate 5 refine AX ?_
 refine ⟨?_, rfl⟩
 simp only [yI, aaT]
 rw [adC hx]

theorem apP (x y c : Nat) (hx : x < 4294967296) (hy : y < 4294967296) (hc : c ≤ 1) (H : Heap) : ACall Tryz.prog 339 [.int .u32 (x : Int), .int .u32 (y : Int), .int .u32 (c : Int)] H (fun z H' => z = .tuple [.int .u32 ((x + y + c) % 4294967296 : Nat), .int .u32 ((x + y + c) / 4294967296 : Nat)] ∧ H' = H) := by
 refine ACall.of_body Tryz.func339 rfl Tryz.ntmps339 Tryz.results339 rfl ?_
 iterate 2 refine AX ?_
 refine .p rfl (zA (zI 0)) (.p rfl (zA (zI 0)) ?_)
 iterate 25 refine AX ?_
 refine .p rfl (yF (tm rfl) (zI 32) (by omega)) ?_
 iterate 6 refine AX ?_
 refine ⟨?_, rfl⟩
 simp only [yI, IntKind.bits]
 rw [show (x + y + c) / 2 ^ 32 % 2 ^ 32 = (x + y + c) / 4294967296 by omega]

end
def yJ (n : Nat) : Nat := if n = 0 then 0 else n.log2 + 1
theorem bmY : yJ 0 = 0 := rfl
theorem blen_pos (h : 0 < n) : yJ n = n.log2 + 1 := aN (by omega)
theorem qB {n k : Nat} : yJ n ≤ k ↔ n < 2 ^ k := by
 unfold yJ
 split
 ·rename_i h; subst h; simp; exact bI (by decide)
 rename_i h
 rw [Nat.add_one_le_iff, Nat.log2_lt h]
theorem aaX {n k : Nat} : k < yJ n ↔ 2 ^ k ≤ n := by
 have := @qB n k
 omega
theorem aeG {m : Nat} (h : 2 ^ k ≤ n) (hm : m = n / 2 ^ k) : yJ n = k + yJ m := by
 subst hm
 have hp : 0 < 2 ^ k := bI (by decide)
 have h1 : 0 < n / 2 ^ k := Nat.div_pos h hp
 have key : ∀ j, yJ n ≤ k + j ↔ yJ (n / 2 ^ k) ≤ j := fun j => by
  rw [qB, qB, bJ hp, bB, bD]
 have ha := (key (yJ (n / 2 ^ k))).2 (aX _)
 have hk : k ≤ yJ n := dG (aaX.2 h)
 have hb := (key (yJ n - k)).1 (by omega)
 omega
theorem blen_16 (hx : x < 4294967296) : ∃ y n : Nat, (if 65536 ≤ x then x / 65536 else x) = y ∧ (if 65536 ≤ x then (16 : Int) else 0) = n ∧ y < 65536 ∧ yJ x = n + yJ y := by
 by_cases h : 65536 ≤ x
 ·exact ⟨x / 65536, 16, aO h, aO h, by omega, aeG (k := 16) h rfl⟩
 exact ⟨x, 0, aN h, aN h, by omega, by omega⟩
theorem blen_8 {y : Nat} (hy : y < 65536) : ∃ z m : Nat, (if 256 ≤ y then y / 256 else y) = z ∧ (if 256 ≤ y then (n : Int) + 8 else n) = m ∧ z < 256 ∧ n + yJ y = m + yJ z := by
 by_cases h : 256 ≤ y
 ·exact ⟨y / 256, n + 8, aO h, by rw [aO h]; simp, by omega, by rw [aeG (n := y) (k := 8) (m := y / 256) h rfl]; omega⟩
 exact ⟨y, n, aN h, aN h, by omega, rfl⟩
def len8tab : List UInt8 := [0, 1, 2, 2, 3, 3, 3, 3, 4, 4, 4, 4, 4, 4, 4, 4, 5, 5, 5, 5, 5, 5, 5, 5, 5, 5, 5, 5, 5, 5, 5, 5, 6, 6, 6, 6, 6, 6, 6, 6, 6, 6, 6, 6, 6, 6, 6, 6, 6, 6, 6, 6, 6, 6, 6, 6, 6, 6, 6, 6, 6, 6, 6, 6, 7, 7, 7, 7, 7, 7, 7, 7, 7, 7, 7, 7, 7, 7, 7, 7, 7, 7, 7, 7, 7, 7, 7, 7, 7, 7, 7, 7, 7, 7, 7, 7, 7, 7, 7, 7, 7, 7, 7, 7, 7, 7, 7, 7, 7, 7, 7, 7, 7, 7, 7, 7, 7, 7, 7, 7, 7, 7, 7, 7, 7, 7, 7, 7] ++ List.replicate 128 8
theorem len8_at {z : Nat} (h : z < 256) : (len8tab.getD z 0).toNat = yJ z := by
 have key : ∀ z : Fin 256, (len8tab.getD z.1 0).toNat = yJ z.1 := by decide +kernel
 exact key ⟨z, h⟩
theorem aiH (h : 0 < n) : yJ n = 32 * ((zK n).length - 1) + yJ ((zK n).getD ((zK n).length - 1) 0) := by
 induction n using Nat.strongRecOn with
 | ind n ih =>
  rw [qV h]
  rcases aY (n / 4294967296) with h0 | h0
  ·rw [h0, aaZ]
   simp
   congr 1; omega
  have := ih _ (by omega) h0
  have hpos : 0 < (zK (n / 4294967296)).length := by rw [qV h0]; simp
  rw [aeG (n := n) (k := 32) (by omega) rfl, show (2 : Nat) ^ 32 = 4294967296 by decide, this, bE, show (zK (n / 4294967296)).length + 1 - 1 = ((zK (n / 4294967296)).length - 1) + 1 by omega, dS]
  omega
theorem afH (h : (zK a).length < (zK b).length) : a < b := by
 rcases bZ a b with h1 | h1
 ·exact h1
 have h2 : (zK a).length ≤ (zK a).length := aX _
 rw [qZ] at h2
 have h3 := qZ.2 (aR h1 h2)
 omega
theorem agH (hx : Limbs xs) (hy : Limbs ys) (hl : xs.length = ys.length) (hk : k < xs.length) (hs : xs.drop (k + 1) = ys.drop (k + 1)) (h : xs.getD k 0 < ys.getD k 0) : val xs < val ys := by
 have e1 : val xs = val (xs.take k) + 4294967296 ^ k * (xs.getD k 0 + 4294967296 * val (xs.drop (k + 1))) := by
  conv => lhs; rw [← cY k xs, qX, cN hk, val, aQ, dE (by omega)]
  rw [aP, bF hk]; rfl
 have hk' : k < ys.length := by omega
 have e2 : val ys = val (ys.take k) + 4294967296 ^ k * (ys.getD k 0 + 4294967296 * val (ys.drop (k + 1))) := by
  conv => lhs; rw [← cY k ys, qX, cN hk', val, aQ, dE (by omega)]
  rw [aP, bF hk']; rfl
 have h1 := afE (hx.take k)
 rw [aQ, dE (by omega)] at h1
 rw [e1, e2, hs]
 generalize val (ys.drop (k + 1)) = z
 have h2 : 4294967296 ^ k * (xs.getD k 0 + 4294967296 * z + 1) ≤ 4294967296 ^ k * (ys.getD k 0 + 4294967296 * z) := bT _ (by omega)
 rw [bY, eZ] at h2
 omega
section
open Go Go.RowKit
set_option maxRecDepth 100000

theorem akY (xs : List Nat) (tl : Tail) (hx : Limbs xs) (hl : xs.length ≤ 1000000) (H : Heap) : ACall Tryz.prog 278 [.slice 1 (U .u32 xs) tl] H (fun y H' => y = aaT (val xs) ∧ H' = H) := by
 have hr := aaW xs
 refine ACall.of_body Tryz.func278 rfl Tryz.ntmps278 Tryz.results278 rfl ?_
 iterate 2 refine AX ?_
 refine .p rfl (zA (qK (sz := 1) (tl := .full))) ?_
 iterate 5 refine AX ?_
 refine .cl rfl C314 (evs1 rfl) (acM _ _ (by assumption) (by assumption) _) (.s rfl (yV (_) U239 Tryz.typeInfo166 Z166 V166 (tm rfl) (tm rfl) rfl rfl (by decide) (by omega)) ?_)
 rintro _ _ ⟨b6, rfl, hb6, hH⟩
 obtain rfl := hH.symm
 iterate 7 refine AX ?_
 refine .e rfl (akN U239 Z166 (tm rfl) (tm rfl) (oS _ _ _) (by (simp; done))) ?_
 try first | rw [sS] | rw [sU (by assumption)]
 iterate 8 refine AX ?_
 refine AWP.frzU (t := 2) rfl hb6 (by simp <;> omega) (aX _) (by simp only [zW]; omega) ?_
 iterate 2 refine AX ?_
 refine ⟨?_, rfl⟩
 simp only [yI, aaT]
 rw [← adC hx, copied hr]

theorem apL (x : Nat) (hx : x < 4294967296) (H : Heap) : ACall Tryz.prog 313 [.int .u32 (x : Int)] H (fun y H' => y = .int .i64 (yJ x : Int) ∧ H' = H) := by
 have hb32 : ∀ z, z < 256 → yJ z ≤ 8 := fun z hz => qB.2 hz
 refine ACall.of_body Tryz.func313 rfl Tryz.ntmps313 Tryz.results313 rfl ?_
 iterate 5 refine AX ?_
 refine AWP.seqToL [(0, .int .u32 ((if 65536 ≤ x then x / 65536 else x : Nat) : Int)), (2, .int .i64 (if 65536 ≤ x then 16 else 0))] [] ?_ ?_
 ·iterate 3 refine AX ?_
  refine .p rfl (yS (tm rfl) (zI 65536)) ?_
  iterate 2 refine AX ?_
  refine AWP.cx rfl (fun hc4 => ?_) (fun hc4 => ?_)
  ·iterate 3 refine AX ?_
   refine .p rfl (aqZ (tm rfl) (zI 16) (by assumption)) ?_
   iterate 6 refine AX ?_
   exact ⟨rfl, (zX rfl (by rw [aO (by omega)]) (zX rfl (by rw [aO (by omega)]) zU)), rfl⟩
  refine AX ?_
  exact ⟨rfl, (zX rfl (by rw [aN (by omega)]) (zX rfl (by rw [aN (by omega)]) zU)), rfl⟩
 refine AWP.sub [(0, _), (2, _)] sX ?_
 obtain ⟨y, n, hy, hn, hyx, hbl⟩ := blen_16 hx
 rw [hy, hn]
 refine AWP.seqToL [(0, .int .u32 ((if 256 ≤ y then y / 256 else y : Nat) : Int)), (2, .int .i64 (if 256 ≤ y then (n : Int) + 8 else n))] [] ?_ ?_
 ·iterate 3 refine AX ?_
  refine .p rfl (yS (tm rfl) (zI 256)) ?_
  iterate 2 refine AX ?_
  refine AWP.cx rfl (fun hc8 => ?_) (fun hc8 => ?_)
  ·iterate 3 refine AX ?_
   refine .p rfl (aqZ (tm rfl) (zI 8) (by omega)) ?_
   iterate 8 refine AX ?_
   exact ⟨rfl, (zX rfl (by rw [aO (by omega)]) (zX rfl (by rw [aO (by omega)]) zU)), rfl⟩
  refine AX ?_
  exact ⟨rfl, (zX rfl (by rw [aN (by omega)]) (zX rfl (by rw [aN (by omega)]) zU)), rfl⟩
 refine AWP.sub [(0, _), (2, _)] sX ?_
 obtain ⟨z, m, hz, hm, hzx, hbz⟩ := blen_8 (n := n) hyx
 rw [hz, hm]
 have hz8 := hb32 z hzx
 have hx32 := (qB (n := x) (k := 32)).2 hx
 iterate 5 refine AX ?_
 refine .p rfl (atA (r := yJ z) len8tab U9 (zS rfl) (tm rfl) (by rfl) (by simp only [IntKind.bits]; show _ < 256; omega) (by rw [show z % 2 ^ IntKind.u8.bits = z from aW hzx]; exact len8_at hzx)) ?_
 iterate 7 refine AX ?_
 refine ⟨?_, rfl⟩
 rw [hbl, hbz]
 simp [yI]

end
theorem afJ (h : xs.length ≤ i) : xs.getD i 0 = 0 := by
 grind
theorem qC (xs : List Nat) (i : Nat) : val (xs.take (i + 1)) = val (xs.take i) + 4294967296 ^ i * xs.getD i 0 := by
 rcases bZ i xs.length with h | h
 ·exact asE h
 rw [afJ h, aU (by omega), aU h]; omega
theorem afD (h : i < zs.length) : val ((zs.set i v).take (i + 1)) = val (zs.take i) + 4294967296 ^ i * v := by
 rw [qC, List.take_set_of_le (aX _)]
 rw [aP, List.getElem?_set_self h]; rfl
theorem Limbs.set (h : Limbs zs) (hv : v < 4294967296) : Limbs (zs.set i v) := fun y hy => by
 rcases List.mem_or_eq_of_mem_set hy with h1 | h1
 ·exact h y h1
 rw [h1]; exact hv
theorem anN (h : Limbs xs) : 256 < qD xs ↔ BIG ≤ val xs := by
 rw [abF h]
 have := @qZ (val xs) 256
 unfold BIG
 omega
theorem awI {n : Nat} : 256 < (zK n).length ↔ BIG ≤ n := by
 have := @qZ n 256
 unfold BIG
 omega
theorem bdK (hi : i < zs.length) (h : val (zs.take i) + 4294967296 ^ i * c = val (xs.take i) + val (ys.take i)) :
  val ((zs.set i ((xs.getD i 0 + ys.getD i 0 + c) % 4294967296)).take (i + 1)) + 4294967296 ^ (i + 1) * ((xs.getD i 0 + ys.getD i 0 + c) / 4294967296) = val (xs.take (i + 1)) + val (ys.take (i + 1)) := by
 rw [afD hi, qC xs, qC ys, bO]
 generalize xs.getD i 0 = x at *
 generalize ys.getD i 0 = y at *
 generalize 4294967296 ^ i = B at *
 have e : B * ((x + y + c) % 4294967296) + B * 4294967296 * ((x + y + c) / 4294967296) = B * (x + y + c) := by
  rw [bC, ← bY, fF]
 have e2 : B * (x + y + c) = B * x + B * y + B * c := by rw [bY, bY]
 omega
theorem add_end (hz : zs.length = n + 1) (hx : xs.length = n) (hy : ys.length ≤ n) (h : val (zs.take n) + 4294967296 ^ n * c = val (xs.take n) + val (ys.take n)) : val (zs.set n c) = val xs + val ys := by
 have e := afD (zs := zs) (i := n) (v := c) (by omega)
 rw [aU (by simp; omega)] at e
 rw [e, h, aU (by omega), aU (by omega)]
def atZ (a b : Nat) : Int := if a < b then -1 else if b < a then 1 else 0
theorem awX (hl : xs.length = ys.length) (hk : k < xs.length) (hs : xs.drop (k + 1) = ys.drop (k + 1)) (he : xs.getD k 0 = ys.getD k 0) : xs.drop k = ys.drop k := by
 rw [cN hk, cN (by omega : k < ys.length), hs]
 congr 1
 rw [aP, aP, bF hk, bF (by omega : k < ys.length)] at he
 simpa using he
section
open Go Go.RowKit
set_option maxRecDepth 100000

theorem amO (v : Nat) (hv : v < 18446744073709551616) (H : Heap) : ACall Tryz.prog 230 [.int .u64 (v : Int)] H (fun y H' => y = aaT v ∧ H' = H) := by
 refine ACall.of_body Tryz.func230 rfl Tryz.ntmps230 Tryz.results230 rfl ?_
 iterate 2 refine AX ?_
 refine .p rfl (zA (qK (sz := 1) (tl := .full))) ?_
 iterate 7 refine AX ?_
 refine .p rfl (yF (tm rfl) (zI 32) (by assumption)) ?_
 refine AX ?_
 refine .e rfl (agI U239 Z166 V166 rfl (tm rfl) (.inl rfl) ⟨rfl, rfl⟩ (tm rfl) (.inl rfl) ⟨rfl, rfl⟩) ?_
 refine .cl rfl C278 (evs1 rfl) (akY [v % 2 ^ IntKind.u32.bits, v / 2 ^ 32 % 2 ^ IntKind.u32.bits] .full (Limbs.mk (by simp only [IntKind.bits]; omega) (Limbs.mk (by simp only [IntKind.bits]; omega) Limbs.nil)) (by simp) _) ?_
 iterate 5 refine AX ?_
 refine ⟨?_, rfl⟩
 show aaT _ = _
 congr 1
 simp only [val, IntKind.bits]; omega

theorem bhR (x : Nat) (hx : x < 4294967296) (H : Heap) : ACall Tryz.prog 340 [.int .u32 (x : Int)] H (fun y H' => y = .int .i64 ((32 - yJ x : Nat) : Int) ∧ H' = H) := by
 have hb := (qB (n := x) (k := 32)).2 hx
 refine ACall.of_body Tryz.func340 rfl Tryz.ntmps340 Tryz.results340 rfl ?_
 iterate 8 refine AX ?_
 refine .cl rfl Tryz.call313 (evs1 rfl) (apL _ (by assumption) _) ?_
 iterate 6 refine AX ?_
 refine ⟨?_, rfl⟩
 simp only [yI]
 congr 1
 omega

theorem axJ (xs : List Nat) (tl : Tail) (hx : Limbs xs) (hl : xs.length ≤ 1000000) (H : Heap) : ACall Tryz.prog 271 [.slice 1 (U .u32 xs) tl] H (fun y H' => y = .int .i64 (yJ (val xs) : Int) ∧ H' = H) := by
 have hr := aaW xs
 have hrl := abF hx
 refine ACall.of_body Tryz.func271 rfl Tryz.ntmps271 Tryz.results271 rfl ?_
 iterate 8 refine AX ?_
 refine .cl rfl C311 (evs1 rfl) (aaI _ _ (by assumption) (by assumption) _) ?_
 iterate 11 refine AX ?_
 refine AWP.cx rfl (fun hc7 => ?_) (fun hc7 => ?_)
 ·iterate 8 refine AX ?_
  refine ⟨?_, rfl⟩
  have h0 : val xs = 0 := by
   rcases aY (val xs) with h | h
   ·exact h
   rw [qV h] at hc7; simp at hc7; omega
  rw [h0]; rfl
 have hpos : 0 < val xs := by
  rcases aY (val xs) with h | h
  ·rw [h, aaZ] at hc7; exact absurd rfl hc7
  exact h
 have hbl := aiH hpos
 have hlb := (qB (n := (zK (val xs)).getD ((zK (val xs)).length - 1) 0) (k := 32)).2 (Limbs.getD (zP _) _)
 iterate 12 refine AX ?_
 refine .p rfl (yA ((zK (val xs)).length - 1) U239 Z166 (tm rfl) (tm rfl) (by omega) (by omega)) ?_
 refine AX ?_
 refine .cl rfl Tryz.call313 (evs1 rfl) (apL _ (Limbs.getD (zP _) _) _) ?_
 iterate 6 refine AX ?_
 refine ⟨?_, rfl⟩
 simp only [yI]
 congr 1
 omega

def cmp_J (xs ys : List Nat) (H : Heap) : Nat → Env → Heap → Prop := fun k env H1 => ∃ i : Nat, i ≤ xs.length ∧ xs.drop (xs.length - i) = ys.drop (xs.length - i) ∧ env = [(0, .slice 1 (U .u32 xs) .shared), (1, .slice 1 (U .u32 ys) .shared), (22, .int .i64 (xs.length : Int)), (23, .int .i64 (i : Int))] ∧ H = H1 ∧ k = xs.length - i

theorem bnL (xs : List Nat) (tl : Tail) (hx : Limbs xs) (hl : xs.length ≤ 1000000) (ys : List Nat) (tl2 : Tail) (hy : Limbs ys) (hm : ys.length ≤ 1000000) (H : Heap) : ACall Tryz.prog 316 [.slice 1 (U .u32 xs) tl, .slice 1 (U .u32 ys) tl2] H (fun y H' => y = .int .i64 (atZ (val xs) (val ys)) ∧ H' = H) := by
 have hr := aaW xs
 have hrl := abF hx
 have hs := aaW ys
 have hsl := abF hy
 refine ACall.of_body Tryz.func316 rfl Tryz.ntmps316 Tryz.results316 rfl ?_
 iterate 8 refine AX ?_
 refine .cl rfl C311 (evs1 rfl) (aaI _ _ (by assumption) (by assumption) _) ?_
 refine AX ?_
 refine .cl rfl C311 (evs1 rfl) (aaI _ _ (by assumption) (by assumption) _) ?_
 iterate 14 refine AX ?_
 refine AWP.cx rfl (fun hc15 => ?_) (fun hc15 => ?_)
 ·iterate 10 refine AX ?_
  refine AWP.cx rfl (fun hc20 => ?_) (fun hc20 => ?_)
  ·iterate 9 refine AX ?_
   refine ⟨?_, rfl⟩
   rw [atZ, aO (afH (by omega))]; rfl
  iterate 10 refine AX ?_
  refine ⟨?_, rfl⟩
  have := afH (a := val ys) (b := val xs) (by omega)
  rw [atZ, aN (by omega), aO this]; rfl
 have hLx := zP (val xs)
 have hLy := zP (val ys)
 have hvx := zT (val xs)
 have hvy := zT (val ys)
 have hlen : (zK (val xs)).length = (zK (val ys)).length := by omega
 iterate 11 refine AX ?_
 refine AWP.loopW (cmp_J (zK (val xs)) (zK (val ys)) H) ((zK (val xs)).length) ⟨0, Nat.zero_le _, by rw [Nat.sub_zero, fX, hlen, fX], rfl, rfl, rfl⟩ sX (hRa _) ?_
 rintro _ _ _ ⟨i, hi, hd, rfl, rfl, rfl⟩
 iterate 6 refine AX ?_
 refine AWP.cx rfl (fun hc24 => ?_) (fun hc24 => ?_)
 ·have hds : (zK (val xs)).drop ((zK (val xs)).length - 1 - i + 1) = (zK (val ys)).drop ((zK (val xs)).length - 1 - i + 1) := by rw [show (zK (val xs)).length - 1 - i + 1 = (zK (val xs)).length - i by omega]; exact hd
  iterate 22 refine AX ?_
  refine AWP.draw [(0, true), (1, true), (2, true), (3, true), (4, true), (5, true), (6, true), (7, true), (8, true), (9, true)] rfl (by decide +kernel) ?_
  iterate 2 refine AX ?_
  refine .p rfl rfl (yA ((zK (val xs)).length - 1 - i) U239 Z166 (tm rfl) (tm rfl) (by omega) (by omega)) ?_
  iterate 3 refine AX ?_
  refine .p rfl rfl (yA ((zK (val xs)).length - 1 - i) U239 Z166 (tm rfl) (tm rfl) (by omega) (by omega)) ?_
  iterate 5 refine AX ?_
  refine AWP.cx rfl (fun hc31 => ?_) (fun hc31 => ?_)
  ·iterate 13 refine AX ?_
   refine ⟨?_, rfl⟩
   have := agH hLx hLy hlen (k := (zK (val xs)).length - 1 - i) (by omega) hds (by omega)
   rw [hvx, hvy] at this
   rw [atZ, aO (by omega)]; rfl
  refine AX ?_
  refine AWP.draw [(0, true), (1, true), (2, true), (3, true), (4, true), (5, true), (6, true), (7, true), (8, true), (9, true)] rfl (by decide +kernel) ?_
  iterate 2 refine AX ?_
  refine .p rfl rfl (yA ((zK (val xs)).length - 1 - i) U239 Z166 (tm rfl) (tm rfl) (by omega) (by omega)) ?_
  iterate 3 refine AX ?_
  refine .p rfl rfl (yA ((zK (val xs)).length - 1 - i) U239 Z166 (tm rfl) (tm rfl) (by omega) (by omega)) ?_
  iterate 5 refine AX ?_
  refine AWP.cx rfl (fun hc41 => ?_) (fun hc41 => ?_)
  ·iterate 13 refine AX ?_
   refine ⟨?_, rfl⟩
   have := agH hLy hLx hlen.symm (k := (zK (val xs)).length - 1 - i) (by omega) hds.symm (by omega)
   rw [hvx, hvy] at this
   rw [atZ, aN (by omega), aO (by omega)]; rfl
  iterate 9 refine AX ?_
  refine Round.mk (J := cmp_J (zK (val xs)) (zK (val ys)) H) ⟨i + 1, by omega, by rw [show (zK (val xs)).length - (i + 1) = (zK (val xs)).length - 1 - i by omega]; exact awX hlen (by omega) hds (by omega), rfl, rfl, rfl⟩ sX (hRa _) (by omega)
 iterate 12 refine AX ?_
 refine ⟨?_, rfl⟩
 have h0 : (zK (val xs)).length - i = 0 := by omega
 have hxy : zK (val xs) = zK (val ys) := by rw [h0] at hd; simpa using hd
 rw [awH hxy, atZ, aN (Nat.lt_irrefl _), aN (Nat.lt_irrefl _)]; rfl

end
theorem apO : ∀ k, k = 32 * 256 → BIG = 2 ^ k := by intro k hk; unfold BIG; rw [show (4294967296 : Nat) = 2 ^ 32 by decide, ← dO, hk]
theorem ahN (h : a < 2 ^ k) : (b * 2 ^ k) ||| a = b * 2 ^ k + a := by
 rw [bD, Nat.two_pow_add_eq_or_of_lt h]
theorem azO (h : a < 2 ^ k) : a ||| (b * 2 ^ k) = a + b * 2 ^ k := by
 rw [Nat.or_comm, ahN h, eL]
theorem axS (h : i < zs.length) : val (zs.set i v) + 4294967296 ^ i * zs.getD i 0 = val zs + 4294967296 ^ i * v := by
 induction zs generalizing i with
 | nil => simp at h
 | cons z zs ih =>
  cases i with
  | zero => simp [val]; omega
  | succ i =>
   have := ih (i := i) (by simpa using h)
   rw [List.set_cons_succ, val, val, dS, bO]
   generalize 4294967296 ^ i = B at *
   generalize zs.getD i 0 = x at *
   have e1 : B * 4294967296 * x = 4294967296 * (B * x) := by rw [bD B, bC]
   have e2 : B * 4294967296 * v = 4294967296 * (B * v) := by rw [bD B, bC]
   rw [e1, e2]; omega
theorem getD_set_ne {j : Nat} (h : i ≠ j) : (zs.set i v).getD j 0 = zs.getD j 0 := by
 grind
theorem atO (h : i < zs.length) : (zs.set i v).getD i 0 = v := by
 grind
theorem bcV (n j : Nat) : (List.replicate n 0).getD j 0 = 0 := by
 grind
theorem bcN {y o : Nat} (hx : x < 4294967296) (hy : y < 4294967296) (ho : o < 4294967296) (hc : c < 4294967296) : x * y + o + c < 18446744073709551616 := by
 have : x * y ≤ 4294967295 * 4294967295 := dZ (by omega) (by omega)
 omega
theorem bcM {o0 : List Nat} (hi : i + k < zs.length) (h : val zs + 4294967296 ^ (i + k) * c = val o0 + 4294967296 ^ i * xs.getD i 0 * val (ys.take k)) :
  val (zs.set (i + k) ((xs.getD i 0 * ys.getD k 0 + zs.getD (i + k) 0 + c) % 4294967296)) + 4294967296 ^ (i + (k + 1)) * ((xs.getD i 0 * ys.getD k 0 + zs.getD (i + k) 0 + c) / 4294967296) = val o0 + 4294967296 ^ i * xs.getD i 0 * val (ys.take (k + 1)) := by
 have e := axS (zs := zs) (i := i + k) (v := (xs.getD i 0 * ys.getD k 0 + zs.getD (i + k) 0 + c) % 4294967296) hi
 rw [qC ys, ← dY, bO]
 rw [bB] at *
 generalize xs.getD i 0 = x at *
 generalize ys.getD k 0 = y at *
 generalize zs.getD (i + k) 0 = o at *
 generalize 4294967296 ^ i = A at *
 generalize 4294967296 ^ k = B at *
 generalize val (ys.take k) = w at *
 generalize val (zs.set (i + k) ((x * y + o + c) % 4294967296)) = u at *
 have e3 : A * B * ((x * y + o + c) % 4294967296) + A * B * 4294967296 * ((x * y + o + c) / 4294967296) = A * B * (x * y + o + c) := by
  rw [bC (A * B), ← bY, fF]
 have e4 : A * B * (x * y + o + c) = A * x * (B * y) + A * B * o + A * B * c := by
  rw [bY, bY]
  congr 2
  rw [bC, bC, Nat.mul_left_comm B x y]
 rw [bY]
 omega
theorem bkP {o0 : List Nat} {m : Nat} (hm : ys.length = m) (hi : i + m < zs.length) (hz : zs.getD (i + m) 0 = 0) (h0 : val o0 = val (xs.take i) * val ys) (h : val zs + 4294967296 ^ (i + m) * c = val o0 + 4294967296 ^ i * xs.getD i 0 * val (ys.take m)) :
  val (zs.set (i + m) c) = val (xs.take (i + 1)) * val ys := by
 have e := axS (zs := zs) (i := i + m) (v := c) hi
 rw [hz, cW, cC] at e
 have ey : ys.take m = ys := aU (by omega)
 rw [e, h, h0, ey, qC, bP]
theorem beI {ws : List Nat} {s : Nat} (hi : i < ws.length) (hs : s ≤ 32) (hx : xs.getD i 0 < 4294967296) (hc : c < 2 ^ s) (h : val (ws.take i) + 4294967296 ^ i * c = val (xs.take i) * 2 ^ s) :
  val ((ws.set i ((c + xs.getD i 0 * 2 ^ s) % 4294967296)).take (i + 1)) + 4294967296 ^ (i + 1) * ((c + xs.getD i 0 * 2 ^ s) / 4294967296) = val (xs.take (i + 1)) * 2 ^ s ∧ (c + xs.getD i 0 * 2 ^ s) / 4294967296 < 2 ^ s ∧ c + xs.getD i 0 * 2 ^ s < 18446744073709551616 := by
 refine ⟨?_, ?_, ?_⟩
 ·rw [afD hi, qC xs, bO, bP, ← h]
  generalize xs.getD i 0 = x at *
  generalize 4294967296 ^ i = B at *
  generalize 2 ^ s = S at *
  have e3 : B * ((c + x * S) % 4294967296) + B * 4294967296 * ((c + x * S) / 4294967296) = B * (c + x * S) := by
   rw [bC B, ← bY, fF]
  rw [bY, ← bC] at e3
  omega
 ·rw [bJ (by decide)]
  have : xs.getD i 0 * 2 ^ s ≤ 4294967295 * 2 ^ s := aV _ (by omega)
  omega
 have h1 : xs.getD i 0 * 2 ^ s ≤ 4294967295 * 2 ^ s := aV _ (by omega)
 have h2 : 2 ^ s ≤ 2 ^ 32 := aT (by decide) hs
 omega
theorem bbL {ws : List Nat} (hL : Limbs ws) (hn : ws.length = n) (h : val (ws.take n) + 4294967296 ^ n * c = v) : val ws = v % 4294967296 ^ n := by
 have := afE hL
 rw [hn] at this
 rw [aU (by omega)] at h
 rw [← h, dB, aW this]
theorem aqP {z0 : List Nat} {d : Nat} (hd : 0 < d) (hk : k < zs.length) (hl : zs.length = z0.length) (hg : zs.getD k 0 = z0.getD k 0) (h : val (zs.drop (k + 1)) * d + r = val (z0.drop (k + 1))) :
  val ((zs.set k ((r * 4294967296 + z0.getD k 0) / d)).drop k) * d + (r * 4294967296 + z0.getD k 0) % d = val (z0.drop k) := by
 have hk0 : k < z0.length := by omega
 have e1 : (zs.set k ((r * 4294967296 + z0.getD k 0) / d)).drop k = (r * 4294967296 + z0.getD k 0) / d :: zs.drop (k + 1) := by
  rw [cN (by simpa using hk), List.getElem_set_self, List.drop_set_of_lt (by omega)]
 have e2 : z0.drop k = z0.getD k 0 :: z0.drop (k + 1) := by
  rw [cN hk0, aP, bF hk0]; rfl
 rw [e1, e2, val, val, ← h]
 generalize z0.getD k 0 = x
 generalize val (zs.drop (k + 1)) = w
 have e3 := cD (r * 4294967296 + x) d
 generalize (r * 4294967296 + x) / d = q at *
 generalize (r * 4294967296 + x) % d = m at *
 rw [bP, bD q d, bC, bY 4294967296 (w * d) r]
 omega
theorem aqQ {d : Nat} (hr : r < d) (hx : x < 4294967296) (hd : d < 4294967296) : (r * 4294967296 + x) / d < 4294967296 ∧ r * 4294967296 + x < 18446744073709551616 := by
 refine ⟨?_, by omega⟩
 rw [bJ (by omega)]
 have : (r + 1) * 4294967296 ≤ d * 4294967296 := aV _ hr
 omega
section
open Go Go.RowKit
set_option maxRecDepth 100000

def resN (p : Prop) [Decidable p] (v : Nat) : AV := .tuple [aaT (if p then v else 0), .int .i64 (if p then 0 else 2)]
theorem avG {p : Prop} [Decidable p] (h : p) : resN p v = .tuple [aaT v, .int .i64 0] := by unfold resN; rw [aO h, aO h]
theorem avH {p : Prop} [Decidable p] (h : ¬ p) : resN p v = .tuple [aaT 0, .int .i64 2] := by unfold resN; rw [aN h, aN h]
theorem beP {p q : Prop} [Decidable p] [Decidable q] (h : p ↔ q) : resN p v = resN q v := by
 by_cases hp : p
 ·rw [avG hp, avG (h.1 hp)]
 rw [avH hp, avH (fun hq => hp (h.2 hq))]
def fitN (v : Nat) : AV := resN (v < BIG) v
def mulN (a b : Nat) : AV := resN (a < BIG ∧ b < BIG ∧ a * b < BIG) (a * b)
def numA (p : List Nat × Tail) : AV := .slice 1 (U .u32 p.1) p.2
def bigB (p : List Nat × Tail) : Bool := decide (256 < qD p.1)
theorem take_any {α : Type} {l : List α} {q : α → Bool} (hi : i < l.length) (h : (l.take i).any q = false) (hq : q l[i] = false) : (l.take (i + 1)).any q = false := by
 rw [← dJ hi, List.any_append, h]; simp [hq]
theorem get_any {α : Type} {l : List α} {q : α → Bool} (hi : i < l.length) (hq : q l[i] = true) : l.any q = true := by
 rw [List.any_eq_true]; exact ⟨l[i], eJ hi, hq⟩

def over_J (l : List (List Nat × Tail)) (tl : Tail) (H : Heap) : Nat → Env → Heap → Prop := fun k env H1 => ∃ i : Nat, i ≤ l.length ∧ (l.take i).any bigB = false ∧ env = [(0, .slice 1 (l.map numA) tl), (5, .slice 1 (l.map numA) tl), (6, .int .i64 (l.length : Int)), (7, .int .i64 (i : Int))] ∧ H = H1 ∧ k = l.length - i

theorem arH (l : List (List Nat × Tail)) (tl : Tail) (hx : ∀ p, p ∈ l → Limbs p.1) (hl : ∀ p, p ∈ l → p.1.length ≤ 1000000) (hL : l.length ≤ 1000) (H : Heap) : ACall Tryz.prog 310 [.slice 1 (l.map numA) tl] H (fun y H' => y = .bool (l.any bigB) ∧ H' = H) := by
 refine ACall.of_body Tryz.func310 rfl Tryz.ntmps310 Tryz.results310 rfl ?_
 iterate 14 refine AX ?_
 refine AWP.loopW (over_J l tl H) (l.length) ⟨0, Nat.zero_le _, rfl, rfl, rfl, rfl⟩ sX (hRa _) ?_
 rintro _ _ _ ⟨i, hi, hany, rfl, rfl, hk⟩
 iterate 6 refine AX ?_
 refine AWP.cx rfl (fun hc8 => ?_) (fun hc8 => ?_)
 ·have hi2 : i < l.length := by omega
  iterate 14 refine AX ?_
  refine .cl rfl C314 (evs1 rfl) (acM l[i].1 l[i].2 (hx _ (eJ hi2)) (hl _ (eJ hi2)) _) ?_
  iterate 3 refine AX ?_
  refine AWP.cx rfl (fun hc13 => ?_) (fun hc13 => ?_)
  ·have hb : bigB l[i] = true := by unfold bigB; simp only [aM]; omega
   iterate 12 refine AX ?_
   refine ⟨?_, rfl⟩
   rw [get_any hi2 hb]; rfl
  have hb : bigB l[i] = false := by unfold bigB; simp only [aL]; omega
  iterate 8 refine AX ?_
  refine Round.mk (J := over_J l tl H) ⟨i + 1, by omega, take_any hi2 hany hb, rfl, rfl, rfl⟩ sX (hRa _) (by omega)
 iterate 12 refine AX ?_
 refine ⟨?_, rfl⟩
 rw [aU (by omega)] at hany
 rw [hany]; rfl

theorem arQ (xs : List Nat) (tl : Tail) (hx : Limbs xs) (hl : xs.length ≤ 1000000) (H : Heap) : ACall Tryz.prog 312 [.slice 1 (U .u32 xs) tl] H (fun y H' => y = fitN (val xs) ∧ H' = H) := by
 have hb := @awI (val xs)
 have hr := aaW xs
 have hrl := abF hx
 refine ACall.of_body Tryz.func312 rfl Tryz.ntmps312 Tryz.results312 rfl ?_
 iterate 2 refine AX ?_
 refine .p rfl (zA (qK (sz := 1) (tl := .shared))) ?_
 iterate 7 refine AX ?_
 refine .cl rfl C311 (evs1 rfl) (aaI _ _ (by assumption) (by assumption) _) ?_
 iterate 10 refine AX ?_
 refine AWP.cx rfl (fun hc8 => ?_) (fun hc8 => ?_)
 ·iterate 2 refine AX ?_
  refine .p rfl (zA (qK (sz := 1) (tl := .shared))) ?_
  iterate 6 refine AX ?_
  refine ⟨?_, rfl⟩
  rw [fitN, avH (by omega)]; rfl
 iterate 11 refine AX ?_
 refine ⟨?_, rfl⟩
 rw [fitN, avG (by omega)]; rfl

theorem two_big {tl tl2 : Tail} (hx : Limbs xs) (hy : Limbs ys) : [(xs, tl), (ys, tl2)].any bigB = decide (BIG ≤ val xs ∨ BIG ≤ val ys) := by
 have h1 := anN hx
 have h2 := anN hy
 have e : ∀ a b : Prop, ∀ [Decidable a] [Decidable b], (decide a || decide b) = decide (a ∨ b) := by intro a b _ _; by_cases a <;> by_cases b <;> simp_all
 simp only [List.any_cons, List.any_nil, Bool.or_false, bigB, h1, h2, e]
theorem one_big {tl : Tail} (hx : Limbs xs) : [(xs, tl)].any bigB = decide (BIG ≤ val xs) := by
 have h1 := anN hx
 simp only [List.any_cons, List.any_nil, Bool.or_false, bigB, h1]
theorem aoE (xs : List Nat) (tl tl3 : Tail) (hx : Limbs xs) (hl : xs.length ≤ 1000000) (H : Heap) : ACall Tryz.prog 310 [.slice 1 [.slice 1 (U .u32 xs) tl] tl3] H (fun y H' => y = .bool (decide (BIG ≤ val xs)) ∧ H' = H) := by
 rw [← one_big (tl := tl) hx]
 exact arH [(xs, tl)] tl3 (by simpa using hx) (by simpa using hl) (by simp) H
theorem ajA (xs : List Nat) (tl : Tail) (hx : Limbs xs) (hl : xs.length ≤ 1000000) (ys : List Nat) (tl2 tl3 : Tail) (hy : Limbs ys) (hm : ys.length ≤ 1000000) (H : Heap) : ACall Tryz.prog 310 [.slice 1 [.slice 1 (U .u32 xs) tl, .slice 1 (U .u32 ys) tl2] tl3] H (fun y H' => y = .bool (decide (BIG ≤ val xs ∨ BIG ≤ val ys)) ∧ H' = H) := by
 rw [← two_big (tl := tl) (tl2 := tl2) hx hy]
 refine arH [(xs, tl), (ys, tl2)] tl3 ?_ ?_ (by simp) H
 ·intro p hp
  rcases cQ.1 hp with rfl | hp
  ·exact hx
  rcases cQ.1 hp with rfl | hp
  ·exact hy
  simp at hp
 intro p hp
 rcases cQ.1 hp with rfl | hp
 ·exact hl
 rcases cQ.1 hp with rfl | hp
 ·exact hm
 simp at hp

end
section
open Go Go.RowKit
set_option maxRecDepth 100000

def hiN (a b : Nat) : Nat := if (zK a).length < (zK b).length then b else a
def loN (a b : Nat) : Nat := if (zK a).length < (zK b).length then a else b
theorem hi_lo (a b : Nat) : hiN a b + loN a b = a + b ∧ (zK (loN a b)).length ≤ (zK (hiN a b)).length := by
 unfold hiN loN; split <;> omega
theorem yU (h : n < BIG) : (zK n).length ≤ 256 := by
 have := @awI n
 omega
theorem hi_lt (ha : a < BIG) (hb : b < BIG) : hiN a b < BIG := by unfold hiN; split <;> assumption

def add_J (P Q : Nat) (b : Nat) (H : Heap) : Nat → Env → Heap → Prop := fun k env H1 => ∃ (i c : Nat) (zs : List Nat), i ≤ (zK P).length ∧ zs.length = (zK P).length + 1 ∧ Limbs zs ∧ c ≤ 1 ∧ val (zs.take i) + 4294967296 ^ i * c = val ((zK P).take i) + val ((zK Q).take i) ∧ env = [(0, aaT P), (1, aaT Q), (6, .mslice (some ⟨b, 0, none⟩) ((zK P).length + 1) ((zK P).length + 1)), (7, .int .u32 (c : Int)), (30, .int .i64 ((zK P).length : Int)), (31, .int .i64 (i : Int))] ∧ H1 = H.set b (.box 166 (U .u32 zs)) ∧ k = (zK P).length - i

theorem bnR (xs : List Nat) (tl : Tail) (hx : Limbs xs) (hl : xs.length ≤ 1000000) (ys : List Nat) (tl2 : Tail) (hy : Limbs ys) (hm : ys.length ≤ 1000000) (H : Heap) : ACall Tryz.prog 309 [.slice 1 (U .u32 xs) tl, .slice 1 (U .u32 ys) tl2] H (fun y H' => y = fitN (val xs + val ys) ∧ H' = H) := by
 refine ACall.of_body Tryz.func309 rfl Tryz.ntmps309 Tryz.results309 rfl ?_
 iterate 2 refine AX ?_
 refine .p rfl (zA (qK (sz := 1) (tl := .shared))) ?_
 iterate 8 refine AX ?_
 refine .e rfl (agI U327 Z239 V239 rfl (tm rfl) (.inl rfl) ⟨rfl, rfl⟩ (tm rfl) (.inl rfl) ⟨rfl, rfl⟩) (.cl rfl C310 (evs1 rfl) (ajA _ _ (by assumption) (by assumption) _ _ _ (by assumption) (by assumption) _) ?_)
 iterate 2 refine AX ?_
 refine AWP.cx rfl (fun hc13 => ?_) (fun hc13 => ?_)
 ·iterate 2 refine AX ?_
  refine .p rfl (zA (qK (sz := 1) (tl := .shared))) ?_
  iterate 6 refine AX ?_
  refine ⟨?_, rfl⟩
  rw [fitN, avH (by omega)]; rfl
 iterate 5 refine AX ?_
 refine .cl rfl C311 (evs1 rfl) (aaI _ _ (by assumption) (by assumption) _) ?_
 refine AX ?_
 refine .cl rfl C311 (evs1 rfl) (aaI _ _ (by assumption) (by assumption) _) ?_
 iterate 4 refine AX ?_
 refine AWP.seqToL [(0, aaT (hiN (val xs) (val ys))), (1, aaT (loN (val xs) (val ys)))] [4, 5] ?_ ?_
 ·iterate 9 refine AX ?_
  refine AWP.cx rfl (fun hc22 => ?_) (fun hc22 => ?_)
  ·iterate 6 refine AX ?_
   exact ⟨rfl, (zX rfl (by simp only [hiN]; split <;> first | rfl | omega) (zX rfl (by simp only [loN]; split <;> first | rfl | omega) sX)), rfl⟩
  refine AX ?_
  exact ⟨rfl, (zX rfl (by simp only [hiN]; split <;> first | rfl | omega) (zX rfl (by simp only [loN]; split <;> first | rfl | omega) sX)), rfl⟩
 refine AWP.sub [(0, _), (1, _), (4, _), (5, _)] sX ?_
 have hs := hi_lo (val xs) (val ys)
 have h256 := yU (hi_lt (a := val xs) (b := val ys) (by omega) (by omega))
 revert hs h256
 generalize hiN (val xs) (val ys) = P
 generalize loN (val xs) (val ys) = Q
 intro hs h256
 iterate 5 refine AX ?_
 refine .s rfl (yV ((zK P).length + 1) U239 Tryz.typeInfo166 Z166 V166 (tm rfl) (tm rfl) (by omega) (by omega) (by decide) (by omega)) ?_
 rintro _ _ ⟨b28, rfl, hb28, hH⟩
 obtain rfl := hH.symm
 iterate 5 refine AX ?_
 refine .p rfl (zA (zI 0)) ?_
 iterate 11 refine AX ?_
 refine AWP.loopW (add_J P Q b28 H) ((zK P).length) ⟨0, 0, List.replicate ((zK P).length + 1) 0, Nat.zero_le _, by simp, Limbs.rep (by omega), by omega, rfl, rfl, rfl, rfl⟩ sX (hRa _) ?_
 rintro _ _ _ ⟨i, c, zs, hi, hz, hzl, hc, hv, rfl, rfl, hk⟩
 iterate 6 refine AX ?_
 refine AWP.cx rfl (fun hc32 => ?_) (fun hc32 => ?_)
 ·iterate 12 refine AX ?_
  refine .p rfl (zA (zI 0)) ?_
  iterate 2 refine AX ?_
  refine AWP.seqToL [(9, .int .u32 (((zK Q).getD i 0 : Nat) : Int))] [0, 1, 6, 7, 30, 31, 8] ?_ ?_
  ·iterate 8 refine AX ?_
   refine AWP.cx rfl (fun hc37 => ?_) (fun hc37 => ?_)
   ·iterate 3 refine AX ?_
    refine .p rfl (yA (i) U239 Z166 (tm rfl) (tm rfl) (by omega) (by omega)) ?_
    iterate 3 refine AX ?_
    exact ⟨rfl, (zX rfl (by rfl) sX), rfl⟩
   refine AX ?_
   exact ⟨rfl, (zX rfl (by (rw [afJ (by omega)])) sX), rfl⟩
  refine AWP.sub [(9, _), (0, _), (1, _), (6, _), (7, _), (30, _), (31, _), (8, _)] sX ?_
  iterate 5 refine AX ?_
  refine .p rfl (yA (i) U239 Z166 (tm rfl) (tm rfl) (by omega) (by omega)) ?_
  iterate 3 refine AX ?_
  refine .cl rfl Tryz.call339 (evs3 rfl rfl rfl) (apP _ _ _ (Limbs.getD (zP _) _) (Limbs.getD (zP _) _) (by omega) _) ?_
  iterate 3 refine AX ?_
  refine .p rfl (yO (i) U239 Z166 (tm rfl) (tm rfl) (by omega) (by omega)) (.e0 (qH Z166 (tm rfl) (tm rfl) (oS _ _ _) (by omega)) ?_)
  try first | rw [sS] | rw [sU (by assumption)]
  iterate 9 refine AX ?_
  refine Round.mk (J := add_J P Q b28 H) ⟨i + 1, _, _, by omega, by simpa using hz, Limbs.set hzl (by omega), by have h1 := Limbs.getD (zP P) i; have h2 := Limbs.getD (zP Q) i; omega, bdK (by omega) hv, rfl, rfl, rfl⟩ sX (hRa _) (by omega)
 iterate 11 refine AX ?_
 refine .p rfl (yO ((zK P).length) U239 Z166 (tm rfl) (tm rfl) (by omega) (by omega)) (.e0 (qH Z166 (tm rfl) (tm rfl) (oS _ _ _) (by omega)) ?_)
 try first | rw [sS] | rw [sU (by assumption)]
 iterate 3 refine AX ?_
 have hi2 : i = (zK P).length := by omega
 subst hi2
 have hz2 : zs.length ≤ (zK P).length + 1 := by omega
 have hz3 : (zK P).length < zs.length := by omega
 have hv2 := add_end hz rfl hs.2 hv
 rw [zT, zT] at hv2
 refine AWP.frzU (t := 6) rfl hb28 (by simp <;> omega) (aX _) (by simp only [zW]; omega) ?_
 rw [aU (by simp <;> omega)]
 have hz4 := Limbs.set hzl (i := (zK P).length) (v := c) (by omega)
 have hz5 : (zs.set (zK P).length c).length ≤ 1000000 := by simp <;> omega
 iterate 2 refine AX ?_
 refine .cl rfl Tryz.call312 (evs1 rfl) (arQ _ _ (by assumption) (by assumption) _) ?_
 iterate 8 refine AX ?_
 refine ⟨?_, rfl⟩
 rw [← hs.1, ← hv2]; rfl

theorem amB (h : ∀ j, n ≤ j → zs.getD j 0 = 0) (hi : i < n) : ∀ j, n ≤ j → (zs.set i v).getD j 0 = 0 := fun j hj => by
 rw [getD_set_ne (by omega), h j hj]

def mul_J (P Q : Nat) (b : Nat) (H : Heap) : Nat → Env → Heap → Prop := fun k env H1 => ∃ (i : Nat) (zs : List Nat), i ≤ (zK P).length ∧ zs.length = (zK P).length + (zK Q).length ∧ Limbs zs ∧ (∀ j, i + (zK Q).length ≤ j → zs.getD j 0 = 0) ∧ val zs = val ((zK P).take i) * val (zK Q) ∧ env = [(0, aaT P), (1, aaT Q), (6, .mslice (some ⟨b, 0, none⟩) ((zK P).length + (zK Q).length) ((zK P).length + (zK Q).length)), (26, .int .i64 ((zK P).length : Int)), (27, .int .i64 (i : Int))] ∧ H1 = H.set b (.box 166 (U .u32 zs)) ∧ k = (zK P).length - i

def mulI_J (P Q : Nat) (b i : Nat) (o0 : List Nat) (H : Heap) : Nat → Env → Heap → Prop := fun k env H1 => ∃ (j c : Nat) (zs : List Nat), j ≤ (zK Q).length ∧ zs.length = (zK P).length + (zK Q).length ∧ Limbs zs ∧ c < 4294967296 ∧ (∀ j, i + (zK Q).length ≤ j → zs.getD j 0 = 0) ∧ val zs + 4294967296 ^ (i + j) * c = val o0 + 4294967296 ^ i * (zK P).getD i 0 * val ((zK Q).take j) ∧ env = [(0, aaT P), (1, aaT Q), (6, .mslice (some ⟨b, 0, none⟩) ((zK P).length + (zK Q).length) ((zK P).length + (zK Q).length)), (26, .int .i64 ((zK P).length : Int)), (27, .int .i64 (i : Int)), (7, .int .i64 (i : Int)), (8, .int .u64 (c : Int)), (31, .int .i64 ((zK Q).length : Int)), (32, .int .i64 (j : Int))] ∧ H1 = H.set b (.box 166 (U .u32 zs)) ∧ k = (zK Q).length - j

theorem bnJ (xs : List Nat) (tl : Tail) (hx : Limbs xs) (hl : xs.length ≤ 1000000) (ys : List Nat) (tl2 : Tail) (hy : Limbs ys) (hm : ys.length ≤ 1000000) (H : Heap) : ACall Tryz.prog 269 [.slice 1 (U .u32 xs) tl, .slice 1 (U .u32 ys) tl2] H (fun y H' => y = mulN (val xs) (val ys) ∧ H' = H) := by
 refine ACall.of_body Tryz.func269 rfl Tryz.ntmps269 Tryz.results269 rfl ?_
 iterate 2 refine AX ?_
 refine .p rfl (zA (qK (sz := 1) (tl := .shared))) ?_
 iterate 8 refine AX ?_
 refine .e rfl (agI U327 Z239 V239 rfl (tm rfl) (.inl rfl) ⟨rfl, rfl⟩ (tm rfl) (.inl rfl) ⟨rfl, rfl⟩) (.cl rfl C310 (evs1 rfl) (ajA _ _ (by assumption) (by assumption) _ _ _ (by assumption) (by assumption) _) ?_)
 iterate 2 refine AX ?_
 refine AWP.cx rfl (fun hc14 => ?_) (fun hc14 => ?_)
 ·iterate 2 refine AX ?_
  refine .p rfl (zA (qK (sz := 1) (tl := .shared))) ?_
  iterate 6 refine AX ?_
  refine ⟨?_, rfl⟩
  rw [mulN, avH (by omega)]; rfl
 iterate 5 refine AX ?_
 refine .cl rfl C311 (evs1 rfl) (aaI _ _ (by assumption) (by assumption) _) ?_
 refine AX ?_
 refine .cl rfl C311 (evs1 rfl) (aaI _ _ (by assumption) (by assumption) _) ?_
 iterate 5 refine AX ?_
 have h256 := yU (n := val xs) (by omega)
 have h257 := yU (n := val ys) (by omega)
 have hmul : mulN (val xs) (val ys) = fitN (val xs * val ys) := by
  exact beP ⟨fun h => h.2.2, fun h => ⟨by omega, by omega, h⟩⟩
 rw [hmul]
 generalize val xs = P at *
 generalize val ys = Q at *
 iterate 6 refine AX ?_
 refine .s rfl (yV ((zK P).length + (zK Q).length) U239 Tryz.typeInfo166 Z166 V166 (tm rfl) (tm rfl) (by omega) (by omega) (by decide) (by omega)) ?_
 rintro _ _ ⟨b24, rfl, hb24, hH⟩
 obtain rfl := hH.symm
 iterate 12 refine AX ?_
 refine AWP.loopW (mul_J P Q b24 H) ((zK P).length) ⟨0, List.replicate _ 0, Nat.zero_le _, by simp, Limbs.rep (by omega), fun j _ => bcV _ _, by rw [akK, eV, val, dF], rfl, rfl, rfl⟩ sX (hRa _) ?_
 rintro _ _ _ ⟨i, zs0, hi, hz0, hzl0, h0, hv0, rfl, rfl, hk⟩
 iterate 6 refine AX ?_
 refine AWP.cx rfl (fun hc28 => ?_) (fun hc28 => ?_)
 ·iterate 12 refine AX ?_
  refine .p rfl (zA (zI 0)) ?_
  iterate 11 refine AX ?_
  refine AWP.loopW (mulI_J P Q b24 i zs0 H) ((zK Q).length) ⟨0, 0, zs0, Nat.zero_le _, hz0, hzl0, by omega, h0, by rw [eV, val, cW, cW], rfl, rfl, rfl⟩ sX (hRa _) ?_
  rintro _ _ _ ⟨j, c, zs, hj, hz, hzl, hc, hzr, hv, rfl, rfl, hk2⟩
  iterate 6 refine AX ?_
  refine AWP.cx rfl (fun hc33 => ?_) (fun hc33 => ?_)
  ·have hPi := Limbs.getD (zP P) i
   have hQj := Limbs.getD (zP Q) j
   have hZ := Limbs.getD hzl (i + j)
   have hmf := bcN hPi hQj hZ hc
   iterate 11 refine AX ?_
   refine AWP.draw [(0, true), (1, true), (2, true), (3, true), (4, true), (5, true), (6, true), (7, true), (8, true), (9, true), (10, true), (11, true), (12, true), (13, true), (14, true), (15, true), (19, true), (16, false), (17, true), (18, true), (20, true), (21, true)] rfl (by decide +kernel) ?_
   iterate 2 refine AX ?_
   refine .p rfl rfl (yA (i) U239 Z166 (tm rfl) (tm rfl) (by omega) (by omega)) ?_
   iterate 4 refine AX ?_
   refine .p rfl rfl (yA (j) U239 Z166 (tm rfl) (tm rfl) (by omega) (by omega)) ?_
   iterate 7 refine AX ?_
   refine .p rfl rfl (yO (i + j) U239 Z166 (tm rfl) (tm rfl) (by omega) (by omega)) ?_
   refine AX ?_
   refine .s rfl rfl (qJ G166 (tm rfl) (oS _ _ _) (by omega)) ?_
   rintro _ _ ⟨rfl, hH⟩
   obtain rfl := hH.symm
   iterate 14 refine AX ?_
   refine .p rfl (yF (tm rfl) (zI 32) (by assumption)) (.p rfl (yO (i + j) U239 Z166 (tm rfl) (tm rfl) (by omega) (by omega)) (.e0 (qH Z166 (tm rfl) (tm rfl) (oS _ _ _) (by omega)) ?_))
   try first | rw [sS] | rw [sU (by assumption)]
   iterate 9 refine AX ?_
   refine Round.mk (J := mulI_J P Q b24 i zs0 H) ⟨j + 1, _, _, by omega, by simpa using hz, Limbs.set hzl (by omega), by omega, fun q hq => amB hzr (by omega) q hq, bcM (by omega) hv, rfl, rfl, rfl⟩ sX (hRa _) (by omega)
  have hj2 : j = (zK Q).length := by omega
  subst hj2
  have hcm : c % 2 ^ IntKind.u32.bits = c := aW hc
  iterate 13 refine AX ?_
  refine .p rfl (yO (i + (zK Q).length) U239 Z166 (tm rfl) (tm rfl) (by omega) (by omega)) (.e0 (qH Z166 (tm rfl) (tm rfl) (oS _ _ _) (by omega)) ?_)
  try first | rw [sS] | rw [sU (by assumption)]
  iterate 8 refine AX ?_
  rw [hcm]
  refine Round.mk (J := mul_J P Q b24 H) ⟨i + 1, _, by omega, by simpa using hz, Limbs.set hzl hc, fun j hj => amB (n := i + 1 + (zK Q).length) (fun j hj => hzr j (by omega)) (by omega) j hj, bkP rfl (by omega) (hzr _ (aX _)) hv0 hv, rfl, rfl, rfl⟩ sX (hRa _) (by omega)
 iterate 6 refine AX ?_
 have hi2 : i = (zK P).length := by omega
 subst hi2
 rw [dL, zT, zT] at hv0
 refine AWP.frzU (t := 6) rfl hb24 (by omega) (aX _) (by simp only [zW]; omega) ?_
 rw [aU (by omega)]
 have hz5 : zs0.length ≤ 1000000 := by omega
 iterate 2 refine AX ?_
 refine .cl rfl Tryz.call312 (evs1 rfl) (arQ _ _ (by assumption) (by assumption) _) ?_
 iterate 8 refine AX ?_
 refine ⟨?_, rfl⟩
 rw [← hv0]; rfl

end
end Go.Proofs.YtmmgbnolccpjoaaGreatDoor
