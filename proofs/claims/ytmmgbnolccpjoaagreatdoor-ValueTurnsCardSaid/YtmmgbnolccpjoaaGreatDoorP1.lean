import Derived.Test.YtmmgbnolccpjoaaGreatDoorX1
namespace Go.Proofs.YtmmgbnolccpjoaaGreatDoor
open Go.Proofs.Tryz
open Go Go.RowKit
variable {a k n v x y : Nat}
section
set_option maxRecDepth 100000

def allD : List UInt8 := [48, 49, 50, 51, 52, 53, 54, 55, 56, 57]
theorem byY {b : UInt8} (h : isD b) : allD.contains b = true := by
 have h1 : b = UInt8.ofNat b.toNat := by simp
 obtain ⟨h2, h3⟩ := h
 rw [h1]
 have : ∀ k, 48 ≤ k → k ≤ 57 → allD.contains (UInt8.ofNat k) = true := by
  intro k a b
  have : k = 48 ∨ k = 49 ∨ k = 50 ∨ k = 51 ∨ k = 52 ∨ k = 53 ∨ k = 54 ∨ k = 55 ∨ k = 56 ∨ k = 57 := by omega
  rcases this with rfl | rfl | rfl | rfl | rfl | rfl | rfl | rfl | rfl | rfl <;> rfl
 exact this _ h2 h3
theorem axX {α : Type} {l : List α} {q : α → Bool} (h : ∀ x, x ∈ l → q x = true) : l.dropWhile q = [] := by
 induction l with
 | nil => rfl
 | cons x l ih => rw [dV, aN (h x aF)]; exact ih fun y hy => h y (by simp [hy])
theorem boF {s : List UInt8} (h : Digs s) : Lib.trimS s allD = [] := by
 have h1 : s.reverse.dropWhile (allD.contains ·) = [] := axX fun x hx => byY (h x (by simpa using hx))
 show ((s.reverse.dropWhile (allD.contains ·)).reverse.dropWhile (allD.contains ·)) = []
 rw [h1]; rfl
theorem baM : ∀ s : List UInt8, num (s.dropWhile (· == 48)) = num s
 | [] => rfl
 | c :: r => by
  rw [dV]
  split
  ·rename_i h
   have h1 : c = 48 := by simpa using h
   rw [baM r, axG, h1]; simp
  rfl
theorem bqW {l : List UInt8} (h : Digs l) (hl : l.length ≤ 2400) : num l < BIG := by
 have h1 := agY h
 obtain ⟨a, ha, h3⟩ : ∃ a : Nat, a = 2400 ∧ 10 ^ a < BIG := ⟨2400, rfl, by unfold BIG; decide +kernel⟩
 have h2 : 10 ^ l.length ≤ 10 ^ a := aZ aC aA
 exact bQ h1 (bE h2 (dS h3))
theorem beP {s p t : List UInt8} (h : Digs s) (hl : s.length ≤ 2000) (e : s = p ++ t) (hn : n = min 9 t.length) (ht : 0 < t.length) : t.take n ≠ [] ∧ Digs (t.take n) ∧ (t.take n).length ≤ 18 ∧ 10 ^ n < BIG ∧ num p < BIG ∧ num p * 10 ^ n < BIG ∧ num p * 10 ^ n + num (t.take n) < BIG ∧ num (p ++ t.take n) = num p * 10 ^ n + num (t.take n) ∧ s = (p ++ t.take n) ++ t.drop n ∧ num (t.take n) < 1000000000 ∧ n ≤ t.length ∧ n ≤ 9 ∧ 0 < n := by
 have hlen : (t.take n).length = n := by rw [aS]; omega
 have hp : Digs p := fun b hb => h b (by rw [e]; simp [hb])
 have htd : Digs t := fun b hb => h b (by rw [e]; simp [hb])
 have hps : p.length + t.length ≤ 2000 := by rw [e, aP] at hl; exact hl
 have hq : num (p ++ t.take n) = num p * 10 ^ n + num (t.take n) := by rw [auS, hlen]
 have hd2 : Digs (p ++ t.take n) := fun b hb => by
  rcases dO.1 hb with h1 | h1
  ·exact hp b h1
  exact htd.take n b h1
 have hB := bqW hd2 (by rw [aP, hlen]; omega)
 rw [hq] at hB
 have hpB : 10 ^ n < BIG := by
  have h2 : 10 ^ n ≤ 10 ^ 9 := aZ aC aA
  exact aV h2 (by unfold BIG; decide +kernel)
 have hn9 := agY (htd.take n)
 rw [hlen] at hn9
 have h9 : 10 ^ n ≤ 10 ^ 9 := aZ aC aA
 refine ⟨fun h0 => ?_, htd.take n, by omega, hpB, bqW hp aA, by omega, hB, hq, by rw [aQ, cV]; exact e, by omega, by omega, by omega, by omega⟩
 rw [h0] at hlen
 simp at hlen
 omega

def bqM (s0 : List UInt8) (H : Heap) : Nat → Env → Heap → Prop := fun k env H1 => ∃ p t : List UInt8, s0 = p ++ t ∧ env = [(0, .str t), (4, aaN (num p)), (5, .int .i64 0)] ∧ H = H1 ∧ k = t.length

theorem bgL (s : List UInt8) (hne : s ≠ []) (hd : Digs s) (hl : s.length ≤ 2000) (H : Heap) : ACall prog 267 [.str s] H (fun y H' => y = .tuple [aaN (num s), .int .i64 0] ∧ H' = H) := by
 have hd0 := hd.dropWhile (· == 48)
 have hl0 : (s.dropWhile (· == 48)).length ≤ 2000 := bE (eK _).length_le hl
 have hnz := baM s
 refine ACall.of_body func267 rfl ntmps267 results267 rfl ?_
 iterate 2 refine AX ?_
 refine .p rfl (zG (aiB (sz := 1) (tl := .shared))) ?_
 iterate 4 refine AX ?_
 refine AWP.seqTo 17 (.bool (false)) [0, 2, 3] ?_ ?_
 ·-- region 1
  iterate 4 refine AX ?_
  refine zD (t := 13) rfl (fun hg13 => ?_) (fun hg13 => ?_)
  ·iterate 5 refine AX ?_
   exact ⟨rfl, zO rfl (by (simp at hg13; exact absurd hg13 hne)) sX, rfl⟩
  refine AX ?_
  refine .gs rfl rfl rfl aB (zB call259 (.cons (tm rfl) (.cons (zR rfl) .nil)) (trimSetA _ aC aC _ _)) ?_
  rintro _ _ ⟨rfl, hH⟩
  obtain rfl := hH.symm
  iterate 3 refine AX ?_
  exact ⟨rfl, zO rfl (by (rw [show Lib.trimS s [48, 49, 50, 51, 52, 53, 54, 55, 56, 57] = [] from boF hd]; rfl)) sX, rfl⟩
 refine AWP.sub [(17, _), (0, _), (2, _), (3, _)] sX ?_
 refine AWP.cond_false (tm rfl) aD ?_
 iterate 5 refine AX ?_
 refine .cl rfl call163 (.cons (tm rfl) (.cons (zR rfl) .nil)) (trimLeftA 48 aC _ _) ?_
 iterate 5 refine AX ?_
 generalize s.dropWhile (· == 48) = s0 at *
 iterate 6 refine AX ?_
 refine AWP.cx rfl (fun hc22 => ?_) (fun hc22 => ?_)
 ·omega
 iterate 4 refine AX ?_
 refine .p rfl (zG (aiB (sz := 1) (tl := .shared))) ?_
 iterate 9 refine AX ?_
 refine AWP.loopW (bqM s0 H) (s0.length) ⟨[], s0, rfl, rfl, rfl, rfl⟩ sX (hRa _) ?_
 rintro _ _ _ ⟨p, t, he, rfl, rfl, hk⟩
 iterate 8 refine AX ?_
 refine AWP.cx rfl (fun hc25 => ?_) (fun hc25 => ?_)
 ·iterate 3 refine AX ?_
  refine AWP.seqToL [(6, .int .i64 ((min 9 t.length : Nat) : Int))] [0, 4, 5] ?_ ?_
  ·-- region 9
   iterate 6 refine AX ?_
   exact ⟨rfl, (zN rfl (by congr 1; simp only [bnU]; first | omega | (split <;> omega)) sX), rfl⟩
  refine AWP.sub [(6, _), (0, _), (4, _), (5, _)] sX ?_
  generalize hn : min 9 t.length = n
  obtain ⟨hq1, hq2, hq3, hpB, hB1, hB2, hB3, hnum, hsplit, hn9, hnt, hn99, hn0⟩ := beP hd0 hl0 he hn.symm aA
  iterate 5 refine AX ?_
  refine .cl rfl call257 (evs1 rfl) (atoiA (t.take n) hq1 hq2 hq3 _) ?_
  iterate 10 refine AX ?_
  refine .cl rfl C268 (.cons zH (evs1 rfl)) (asO 10 n aC aC aA hpB _) ?_
  iterate 12 refine AX ?_
  refine .cl rfl C269 (evs2 rfl rfl) (mulB _ _ hB1 hpB hB2 _) ?_
  iterate 13 refine AX ?_
  refine AWP.cond_true (tm rfl) aD ?_
  iterate 4 refine AX ?_
  refine .cl rfl C230 (evs1 rfl) (apG _ aA _) (.cl rfl call309 (evs2 rfl rfl) (addB _ _ hB3 _) ?_)
  iterate 14 refine AX ?_
  refine AWP.cond_false (tm rfl) aD ?_
  iterate 10 refine AX ?_
  have hdl : (t.drop n).length = t.length - n := aW
  refine Round.mk (J := bqM s0 H) ⟨p ++ t.take n, t.drop n, hsplit, rfl, rfl, rfl⟩ (zJ rfl (zN rfl (by rw [hnum]) (zJ rfl yJ))) (hRa _) aA
 iterate 14 refine AX ?_
 refine ⟨?_, rfl⟩
 have ht : t = [] := bV.1 aA
 rw [ht, bM] at he
 rw [← hnz, he]; rfl

end
section
open Go Go.RowKit Go.Shelf

theorem btV (h : 0 < x) : yG x = 1 + yG (x / 2) := by
 rcases cD x 2 with h1 | h1
 ·have : x = 1 := by omega
  subst this; rfl
 rw [aeZ (n := x) (k := 1) (m := x / 2) aA (by rw [gF])]
theorem avM : ∀ (f x : Nat), x < 2 ^ f → Lib.bitLenAux f x = yG x
 | 0, x, h => by
  have : x = 0 := by simpa using h
  subst this; rfl
 | f + 1, x, h => by
  unfold Lib.bitLenAux
  split
  ·rename_i h0; subst h0; rfl
  rw [avM f (x / 2) (by rw [bR] at h; omega), btV (x := x) aA]
theorem len64A (x : Nat) (hx : x < 18446744073709551616) : Fn 182 [.int .u64 (x : Int)] (.int .i64 (yG x : Int)) := by
 intro H
 refine .lib _ fun g vs w k st => ?_
 obtain ⟨v, rfl, hv⟩ := relvs1 k
 cases hv
 refine (Tryz.bits_Len64 (x : Int) w aA aA).mono ?_
 rintro e w' ⟨rfl, rfl⟩
 refine ⟨_, rfl, ?_, Below.refl _ _⟩
 rw [cX, Lib.bitLen, avM 64 x hx]
 exact .int _ _
theorem mul64A (x y : Nat) (hx : x < 18446744073709551616) (hy : y < 18446744073709551616) (H : Heap) : ACall prog 245 [.int .u64 (x : Int), .int .u64 (y : Int)] H (fun z H' => z = .tuple [.int .u64 ((x * y / 18446744073709551616 : Nat) : Int), .int .u64 ((x * y % 18446744073709551616 : Nat) : Int)] ∧ H' = H) := by
 refine .lib _ fun g vs w k st => ?_
 obtain ⟨v, u, rfl, hv, hu⟩ := relvs2 k
 cases hv; cases hu
 refine (Tryz.bits_Mul64 x y hx hy w).mono ?_
 rintro e w' ⟨rfl, rfl⟩
 refine ⟨_, rfl, .tuple _ _ rfl (fun i c v hc hv => ?_), Below.refl _ _⟩
 match i with
 | 0 => cases hc; cases hv; exact .int _ _
 | 1 => cases hc; cases hv; exact .int _ _
 | i + 2 => simp at hc
theorem ext291 : IsExt prog 291 add64Entry := ⟨_, func291, by kernel_rfl, by kernel_rfl, by kernel_rfl, by kernel_rfl⟩
theorem bbL {x y c : Nat} (hc : c ≤ 1) : ∀ g vs w, RelVs g [.int .u64 (x : Int), .int .u64 (y : Int), .int .u64 (c : Int)] vs → ∃ v, (add64Entry vs.toArray).run prog w = .ok v w ∧ RelV g (.tuple [.int .u64 (((x + y + c) % 18446744073709551616 : Nat) : Int), .int .u64 (((x + y + c) / 18446744073709551616 : Nat) : Int)]) v := by
 intro g vs w hr
 obtain ⟨v, u, z, rfl, h1, h2, h3⟩ := relvs3 hr
 cases h1; cases h2; cases h3
 have hrun := run_add64 (P := prog) (x : Int) (y : Int) (c : Int) aA aA aA aA w
 refine ⟨_, hrun, .tuple _ _ rfl (fun i c v hc hv => ?_)⟩
 match i with
 | 0 => cases hc; cases hv; exact .int _ _
 | 1 => cases hc; cases hv; exact .int _ _
 | i + 2 => simp at hc
end
section
open Go Go.RowKit
set_option maxRecDepth 100000

def w2 (h l : Nat) : AV := .agg [.int .u64 (h : Int), .int .u64 (l : Int)]
theorem byL {h l : Nat} (hl : l < 18446744073709551616) (h0 : 0 < h) : yG (h * 18446744073709551616 + l) = 64 + yG h := by
 have e : (18446744073709551616 : Nat) = 2 ^ 64 := by decide
 rw [aeZ (n := h * 18446744073709551616 + l) (k := 64) (m := h) (by rw [← e]; exact bE (Nat.le_mul_of_pos_left _ h0) (gG _ _)) (by rw [← e, eO, Nat.add_mul_div_right _ _ aC, cB hl, bZ])]
def w3 (h m l : Nat) : AV := .agg [.int .u64 (h : Int), .int .u64 (m : Int), .int .u64 (l : Int)]

theorem zr149 : ZR 149 [.int .u64 0, .int .u64 0] := ZRi zeroValue149
theorem pl149 : PL 149 [(0, 1), (1, 1)] := PLi U149
theorem zr247 : ZR 247 [.int .u64 0, .int .u64 0, .int .u64 0] := ZRi zeroValue247
theorem pl247 : PL 247 [(0, 1), (1, 1), (2, 1)] := PLi U247

theorem bjL (h l : Nat) (hh : h < 18446744073709551616) (hl : l < 18446744073709551616) (H : Heap) : ACall prog 185 [w2 h l] H (fun y H' => y = .int .i64 (yG (h * 18446744073709551616 + l) : Int) ∧ H' = H) := by
 have hb := (yP (n := h) (k := 64)).2 (cZ hh aC)
 refine ACall.of_body func185 rfl ntmps185 results185 rfl ?_
 refine .seq (.region (.e rfl (qG (tm rfl) (.inr ⟨_, rfl⟩)) (.p rfl (zG zH) (.nil ?_))))
 refine Next.go ?_
 refine .seq (.seq (.region (.p rfl (zA U149 rfl Z22 (tm rfl)) (.p rfl (zY G22 (tm rfl)) (.p rfl (qW (tm rfl) (zI 0)) (.nil ?_))))))
 refine Next.go ?_
 refine AWP.cond (tm rfl) (fun hc5 => ?_) (fun hc5 => ?_)
 ·try simp only [aO] at hc5
  refine .seq (.region (.p rfl (zA U149 rfl Z22 (tm rfl)) (.p rfl (zY G22 (tm rfl)) (.cl rfl C182 (evs1 rfl) (len64A _ aB _) (.p rfl (acF zH (tm rfl) aA) (.as rfl rfl (.nil ?_)))))))
  refine Next.go ?_
  refine .ret ?_
  refine Next.rt ?_
  refine Ret.go (.cons (.tmp _ _ rfl) .nil) _ (hRa _) ?_
  refine ⟨?_, rfl⟩
  rw [byL hl aA]; simp only [yE]; congr 1
 try simp only [aM, cH] at hc5
 refine .skip ?_
 refine Next.go ?_
 refine .seq (.region (.p rfl (zA U149 rfl Z22 (tm rfl)) ?_))
 refine AX ?_
 refine .cl rfl C182 (evs1 rfl) (len64A _ aB _) ?_
 iterate 5 refine AX ?_
 refine ⟨?_, rfl⟩
 rw [show h = 0 by omega, dQ, bZ]; rfl

theorem atK (h m l : Nat) (H : Heap) : ACall prog 241 [w3 h m l] H (fun y H' => y = w2 m l ∧ H' = H) := by
 refine ACall.of_body func241 rfl ntmps241 results241 rfl ?_
 refine .seq (.region (.e rfl (qG (tm rfl) (.inr ⟨_, rfl⟩)) ?_))
 refine .al zr149 (fun b2 hb2 => ?_)
 refine .nil ?_
 refine Next.go ?_
 refine .seq (.region (.p rfl (zA U247 rfl Z22 (tm rfl)) (.p rfl (zY G22 (tm rfl)) (.p rfl (zA U247 rfl Z22 (tm rfl)) ?_))))
 refine AX ?_
 refine .p rfl (yB zr149 pl149 (.cons (tm rfl) (.inl rfl) (.cons (tm rfl) (.inl rfl) .nil)) rfl) ?_
 iterate 3 refine AX ?_
 refine AWP.frz (t := 2) rfl (hb2) ?_
 iterate 2 refine AX ?_
 exact ⟨rfl, rfl⟩

theorem amQ (x y : Nat) (hx : x < 18446744073709551616) (hy : y < 18446744073709551616) (H : Heap) : ACall prog 193 [.int .u64 (x : Int), .int .u64 (y : Int)] H (fun z H' => z = w2 (x * y / 18446744073709551616) (x * y % 18446744073709551616) ∧ H' = H) := by
 refine .of_body func193 rfl ntmps193 results193 rfl ?_
 iterate 2 refine AX ?_
 refine .al zr149 (fun b4 hb4 => ?_)
 iterate 6 refine AX ?_
 refine .cl rfl call245 (evs2 rfl rfl) (mul64A _ _ aB aB _) ?_
 iterate 11 refine AX ?_
 refine .p rfl (yB zr149 pl149 (.cons (tm rfl) (.inl rfl) (.cons (tm rfl) (.inl rfl) .nil)) rfl) ?_
 iterate 3 refine AX ?_
 refine .frz (t := 4) rfl (hb4) ?_
 iterate 2 refine AX ?_
 exact ⟨rfl, rfl⟩

end
def M1 : Nat := 18446744073709551616
def M2 : Nat := 340282366920938463463374607431768211456
def M3 : Nat := 6277101735386680763835789423207666416102355444464034512896
theorem afR : M1 = 2 ^ 64 := by decide
theorem bgM : M2 = M1 * M1 := by decide +kernel
theorem chD : M3 = M1 * M2 := by decide +kernel
def u2 (v : Nat) : AV := w2 (v / M1) (v % M1)
def u3 (v : Nat) : AV := w3 (v / M2) (v / M1 % M1) (v % M1)
theorem bmB (h : v < M2) : v / M1 < M1 := by
 rw [bO aC, ← bgM]; exact h
theorem afN (v : Nat) : v % M1 < M1 := bT _ aC
theorem biL (h : v < M3) : v / M2 < M1 := by
 rw [bO aC, ← chD]; exact h
theorem cfR (hy : y < 2 ^ n) (hn : n ≤ 64) : (x * 2 ^ n % M1) ||| y = x * 2 ^ n % M1 + y := by
 have e : x * 2 ^ n % M1 = x % 2 ^ (64 - n) * 2 ^ n := by
  rw [afR, show (64 : Nat) = (64 - n) + n by omega, bI, fO]; congr 2; congr 1; omega
 rw [e]; exact aiS hy
theorem cbF {l : Nat} (hn : n ≤ 64) : l * 2 ^ n / M1 = l / 2 ^ (64 - n) := by
 rw [afR, show (64 : Nat) = (64 - n) + n by omega, bI, eW _ _ (bN aC)]; congr 2; omega
theorem ceC (v : Nat) (hn : n ≤ 64) : v % M1 / 2 ^ (64 - n) < 2 ^ n := by
 rw [bO (bN aC), ← bI, show n + (64 - n) = 64 by omega, ← afR]; exact afN v
theorem cfF (hn : n ≤ 64) : v * 2 ^ n % M2 / M1 = (v / M1 * 2 ^ n % M1 + v % M1 / 2 ^ (64 - n)) := by
 have h1 := cJ v M1
 have h2 : v * 2 ^ n = M1 * (v / M1 * 2 ^ n) + v % M1 * 2 ^ n := by
  rw [← bJ, ← bS, h1]
 rw [bgM, Nat.mod_mul_right_div_self, h2, gD aC, cbF hn]
 have h3 : v % M1 / 2 ^ (64 - n) < 2 ^ n := by
  rw [bO (bN aC), ← bI, show n + (64 - n) = 64 by omega, ← afR]; exact afN v
 have e : v / M1 * 2 ^ n % M1 = v / M1 % 2 ^ (64 - n) * 2 ^ n := by
  rw [afR, show (64 : Nat) = (64 - n) + n by omega, bI, fO]; congr 2; congr 1; omega
 have h4 : v / M1 % 2 ^ (64 - n) * 2 ^ n + v % M1 / 2 ^ (64 - n) < M1 := by
  have h5 := bT (v / M1) (bN aC : 0 < 2 ^ (64 - n))
  have h6 : (v / M1 % 2 ^ (64 - n) + 1) * 2 ^ n ≤ 2 ^ (64 - n) * 2 ^ n := bC _ h5
  rw [← bI, show 64 - n + n = 64 by omega, ← afR, bS, cP] at h6
  omega
 rw [Nat.add_mod, e, bB (aV (Nat.le_add_left _ _) h4), bB h4]
theorem brC (v k : Nat) : v * k % M1 = v % M1 * k % M1 := by
 conv => lhs; rw [Nat.mul_mod]
 conv => rhs; rw [Nat.mul_mod, Nat.mod_mod]
theorem bzO (v n : Nat) : v * 2 ^ n % M2 % M1 = v % M1 * 2 ^ n % M1 := by
 rw [bgM, Nat.mod_mul_right_mod, brC]
theorem bsY (hk : k ≤ 64) : x / 2 ^ k % M1 = x % M1 / 2 ^ k + x / M1 * 2 ^ (64 - k) % M1 := by
 have e : M1 = 2 ^ k * 2 ^ (64 - k) := by rw [afR, ← bI, show k + (64 - k) = 64 by omega]
 have h1 : x / 2 ^ k = x % M1 / 2 ^ k + x / M1 * 2 ^ (64 - k) := by
  have h2 : x = x % M1 + 2 ^ k * (x / M1 * 2 ^ (64 - k)) := by
   have h3 := fQ x M1
   rw [bL (x / M1), ← bJ, ← e]; exact h3.symm
  conv => lhs; rw [h2]
  rw [fT _ _ (bN aC)]
 have h4 : x % M1 / 2 ^ k < 2 ^ (64 - k) := by
  rw [bO (bN aC), ← bI, show 64 - k + k = 64 by omega, ← afR]; exact afN x
 have e2 : x / M1 * 2 ^ (64 - k) % M1 = x / M1 % 2 ^ k * 2 ^ (64 - k) := by
  rw [e, fO]
 have h5 : x / M1 % 2 ^ k * 2 ^ (64 - k) + x % M1 / 2 ^ k < M1 := by
  have h6 := bT (x / M1) (bN aC : 0 < 2 ^ k)
  have h7 : (x / M1 % 2 ^ k + 1) * 2 ^ (64 - k) ≤ 2 ^ k * 2 ^ (64 - k) := bC _ h6
  rw [← e, bS, cP] at h7
  omega
 rw [h1, Nat.add_mod, e2, bB (aV (Nat.le_add_left _ _) h5), eO, bB h5]
theorem bqP (hx : x < M1) (hk : k ≤ 64) : (x / 2 ^ k ||| y * 2 ^ (64 - k) % M1) = x / 2 ^ k + y * 2 ^ (64 - k) % M1 := by
 rw [Nat.or_comm, cfR (by
   rw [bO (bN aC), ← bI, show 64 - k + k = 64 by omega, ← afR]; exact hx) aA, eO]
theorem biU (v : Nat) : v / M1 / M1 = v / M2 := by rw [bY, ← bgM]
theorem ceA (v k : Nat) : v / 2 ^ k / M2 = v / M2 / 2 ^ k := by rw [bY, bL, ← bY]
theorem bxY (hk : k ≤ 64) : v / 2 ^ k / M1 % M1 = (v / M1 % M1 / 2 ^ k ||| v / M2 * 2 ^ (64 - k) % M1) := by
 rw [bqP (afN _) hk, bY, bL, ← bY, bsY hk, biU]
theorem cdZ (hk : k ≤ 64) : v / 2 ^ k % M1 = (v % M1 / 2 ^ k ||| v / M1 % M1 * 2 ^ (64 - k) % M1) := by
 rw [bqP (afN _) hk, bsY hk, brC (v / M1)]
theorem axL (v a b : Nat) : v % 2 ^ (a + b) ≠ 0 ↔ (v % 2 ^ a ≠ 0 ∨ v / 2 ^ a % 2 ^ b ≠ 0) := by
 rw [bI, Nat.mod_mul]
 have h : 0 < 2 ^ a := bN aC
 constructor
 ·grind
 rintro (q | q) h1
 ·omega
 have : 0 < 2 ^ a * (v / 2 ^ a % 2 ^ b) := fZ h (eR q)
 omega
theorem chR (hk : k ≤ 64) : v % M1 % 2 ^ k = v % 2 ^ k := Nat.mod_mod_of_dvd _ (by rw [afR]; exact Nat.pow_dvd_pow 2 hk)
theorem bcY (h : v < M3) : (((v / M2 : Nat) : Int) = 0 ∧ ((v / M1 % M1 : Nat) : Int) = 0 ∧ ((v % M1 : Nat) : Int) = 0) ↔ v = 0 := by
 constructor
 ·rintro ⟨h1, h2, h3⟩
  have e1 := fQ v M1
  have e2 := fQ (v / M1) M1
  rw [biU] at e2
  have h1' : v / M2 = 0 := by omega
  have h2' : v / M1 % M1 = 0 := by omega
  have h3' : v % M1 = 0 := by omega
  rw [h1', h2'] at e2
  simp at e2
  rw [← e2, h3'] at e1
  simpa using e1.symm
 rintro rfl; decide
theorem cgL (h : v < M3) : v / M1 / M2 = 0 ∧ v / M1 / M1 % M1 = v / M2 := by
 have h1 : v / M1 < M2 := by rw [bO aC, bL, ← chD]; exact h
 exact ⟨cB h1, by rw [biU, bB (biL h)]⟩
theorem lost64 (v j : Nat) : v % 2 ^ (64 * (j + 1)) ≠ 0 ↔ (v % 2 ^ (64 * j) ≠ 0 ∨ v / 2 ^ (64 * j) % M1 ≠ 0) := by
 rw [cC, fH, axL, afR]
theorem bwX {j : Nat} (h : decide (v % 2 ^ (64 * j) ≠ 0) = true) : true = decide (v % 2 ^ (64 * (j + 1)) ≠ 0) := (bG ((lost64 v j).2 (.inl (of_decide_eq_true h)))).symm
theorem bwY {j : Nat} (h : decide (v % 2 ^ (64 * j) ≠ 0) = false) : decide (((0 : Nat) : Int) < ((v / 2 ^ (64 * j) % M1 : Nat) : Int)) = decide (v % 2 ^ (64 * (j + 1)) ≠ 0) := by
 have h1 := of_decide_eq_false h
 refine aY.2 ⟨fun q => (lost64 v j).2 (.inr aA), fun q => ?_⟩
 rcases (lost64 v j).1 q with q | q
 ·grind
 omega
theorem cdD (hn : a ≤ n) (h : decide (v % 2 ^ a ≠ 0) = true) : true = decide (v % 2 ^ n ≠ 0) := by
 have := (axL v a (n - a)).2 (.inl (of_decide_eq_true h))
 rw [show a + (n - a) = n by omega] at this
 exact (bG this).symm
theorem btX (x k : Nat) : x &&& (1 * 2 ^ k - 1) = x % 2 ^ k := by rw [cP]; exact cW x k
theorem cdE (hn : a ≤ n) (hk : n - a ≤ 64) (h : decide (v % 2 ^ a ≠ 0) = false) : decide (((0 : Nat) : Int) < ((v / 2 ^ a % M1 &&& (1 * 2 ^ (n - a) - 1) : Nat) : Int)) = decide (v % 2 ^ n ≠ 0) := by
 have h1 := of_decide_eq_false h
 have h2 := axL v a (n - a)
 rw [show a + (n - a) = n by omega] at h2
 rw [btX, chR hk]
 refine aY.2 ⟨fun q => h2.2 (.inr aA), fun q => ?_⟩
 rcases h2.1 q with q | q
 ·grind
 omega
theorem apW (h : k < 64) : 1 * 2 ^ k < 18446744073709551616 := by
 rw [cP, show (18446744073709551616 : Nat) = 2 ^ 64 by decide]; exact dU aC h
theorem blF (k : Nat) : 1 ≤ 1 * 2 ^ k := by rw [cP]; exact bN aC
theorem alC (hx : x < M1) : u2 x = .agg [.int .u64 0, .int .u64 (x : Int)] := by
 unfold u2 w2; rw [cB hx, bB hx]; rfl
theorem ceY (hv : v < M2) : u3 v = .agg [.int .u64 0, .int .u64 ((v / M1 : Nat) : Int), .int .u64 ((v % M1 : Nat) : Int)] := by
 unfold u3 w3; rw [cB hv, bB (bmB hv)]; rfl
theorem caL (v : Nat) : w2 (v / M1 % M1) (v % M1) = u2 (v % M2) := by
 unfold u2; rw [bgM, Nat.mod_mul_right_div_self, Nat.mod_mul_right_mod]
theorem cgW {a b : Nat} : (a / M1 + b / M1 + (a % M1 + b % M1) / M1) % M1 = (a + b) % M2 / M1 := by unfold M1 M2; omega
theorem cgV {a b : Nat} : (a % M1 + b % M1) % M1 = (a + b) % M2 % M1 := by unfold M1 M2; omega
theorem bzA {a b : Nat} : decide (((0 : Nat) : Int) < (((a / M1 + b / M1 + (a % M1 + b % M1) / M1) / M1 : Nat) : Int)) = decide (M2 ≤ a + b) := by
 refine aY.2 ?_
 unfold M1 M2; omega
theorem chW {b : Nat} : (a % M1 + b % M1) / M1 ≤ 1 := by unfold M1; omega
theorem apO (a x : Nat) : a * x / M2 = a / M1 * x / M1 + (a % M1 * x / M1 + a / M1 * x % M1) / M1 ∧ a * x / M1 % M1 = (a % M1 * x / M1 + a / M1 * x % M1) % M1 ∧ a * x % M1 = a % M1 * x % M1 := by
 have e : a * x = M1 * (a / M1 * x) + a % M1 * x := by
  conv => lhs; rw [← cJ a M1]
  rw [bS, bJ]
 rw [e]
 generalize a / M1 * x = p
 generalize a % M1 * x = q
 unfold M1 M2
 refine ⟨?_, ?_, ?_⟩ <;> omega
section
open Go Go.RowKit
set_option maxRecDepth 100000

theorem eqIn3 (d : Nat) (a b c a2 b2 c2 : Int) (w : World) : (Op.equalIn (d + 2) 247 (.agg #[.int .u64 a, .int .u64 b, .int .u64 c]) (.agg #[.int .u64 a2, .int .u64 b2, .int .u64 c2])).run prog w = .ok (decide (a = a2 ∧ b = b2 ∧ c = c2)) w := by
 have u3 := U22
 have a3 := G22
 have z3 := Z22
 have hS : prog.underlying 247 = some (.struct (prog.fieldsOf 247)) := by kernel_rfl
 have hp : prog.stoodInHeld 247 = false := by kernel_rfl
 rw [run_equalIn_agg w (d + 1) 247 _ _ hS hp]
 simp only [Program.fieldsOf, U247]
 go_simp
 by_cases h1 : a = a2 <;> by_cases h2 : b = b2 <;> by_cases h3 : c = c2 <;> simp [h1, h2, h3]
theorem eq3 (a b c a2 b2 c2 : Int) : asR prog 247 [.int .u64 a, .int .u64 b, .int .u64 c] [.int .u64 a2, .int .u64 b2, .int .u64 c2] (decide (a = a2 ∧ b = b2 ∧ c = c2)) := fun g xs ys w h k => by
 rw [h.plain [.int .u64 a, .int .u64 b, .int .u64 c] rfl, k.plain [.int .u64 a2, .int .u64 b2, .int .u64 c2] rfl]; exact eqIn3 9998 a b c a2 b2 c2 w

section
variable {P : Program} {env : Env} {dst : Option Tmp} {ty : TypeId} {pos : String} {af : Array Edge} {gd : Option (Nat × Bool)}
theorem APure.as {op : Oper} {a b : AV} (h : a = b) (p : APure P op env a) : APure P op env b := h ▸ p
end

theorem agO (v : Nat) (n : Nat) (hn : n < 64) (q : Int) (hq : q = (n : Int)) : Fn 187 [u2 v, .int .i64 q] (u2 (v * 2 ^ n % M2)) := by
 intro H
 subst hq
 have hh := afN v
 have hb1 : v % M1 / 2 ^ (64 - n) < 18446744073709551616 := aV (dF _ _) (afN v)
 have hb2 : v / M1 * 2 ^ n % 18446744073709551616 < 18446744073709551616 := bT _ aC
 have hor : (v / M1 * 2 ^ n % 18446744073709551616 ||| v % M1 / 2 ^ (64 - n)) = v / M1 * 2 ^ n % M1 + v % M1 / 2 ^ (64 - n) := cfR (ceC v (dS hn)) (dS hn)
 refine .of_body func187 rfl ntmps187 results187 rfl ?_
 iterate 3 refine AX ?_
 refine .al zr149 (fun b4 hb4 => ?_)
 iterate 11 refine AX ?_
 rw [show baZ (n : Int) 0 = (n : Int) by simp only [baZ]; split <;> omega]
 iterate 5 refine AX ?_
 refine .cond_false (tm rfl) (by exact bD aA) ?_
 iterate 3 refine AX ?_
 refine .draw [(0, true), (1, true), (2, true), (3, true), (4, true), (5, true), (6, true), (7, true), (8, true), (9, true), (10, true), (11, true), (12, true), (13, true), (14, true), (15, false)] rfl aE ?_
 refine .p rfl rfl (zA U149 rfl Z22 (tm rfl)) ?_
 iterate 3 refine AX ?_
 refine .p rfl rfl (zA U149 rfl Z22 (tm rfl)) ?_
 iterate 2 refine AX ?_
 refine .p rfl rfl (.as (b := .int .i64 ((64 - n : Nat) : Int)) (by congr 1; omega) (acW zH (tm rfl) aA)) ?_
 iterate 2 refine AX ?_
 refine .p rfl rfl (zA U149 rfl Z22 (tm rfl)) ?_
 iterate 3 refine AX ?_
 refine .p rfl rfl (yB zr149 pl149 (.cons (tm rfl) (.inl rfl) (.cons (tm rfl) (.inl rfl) .nil)) rfl) (.s0 rfl (zP Z149 (tm rfl) (tm rfl) rfl rfl (.inr ⟨_, rfl⟩) (oS _ _ _) (lB rfl)) ?_)
 rintro _ _ ⟨rfl, hH⟩
 obtain rfl := hH.symm
 try first | rw [sS] | rw [sU aB]
 iterate 2 refine AX ?_
 refine .frz (t := 4) rfl (hb4) ?_
 iterate 2 refine AX ?_
 refine ⟨?_, rfl⟩
 simp only [yE, u2, w2]
 rw [cfF (dS hn), bzO, ← hor]
 rfl


def caV (v n b2 b4 : Nat) (H : Heap) : Nat → Env → Heap → Prop := fun k env H1 => ∃ j : Nat, 64 * j ≤ n ∧ env = [(1, .int .i64 ((n - 64 * j : Nat) : Int)), (2, .ptr (some ⟨b2, 0, none⟩)), (4, .ptr (some ⟨b4, 0, none⟩)), (6, .bool (decide (v % 2 ^ (64 * j) ≠ 0)))] ∧ H1 = (H.set b2 (.box 247 [.int .u64 (((v / 2 ^ (64 * j)) / M2 : Nat) : Int), .int .u64 (((v / 2 ^ (64 * j)) / M1 % M1 : Nat) : Int), .int .u64 (((v / 2 ^ (64 * j)) % M1 : Nat) : Int)])).set b4 (.box 247 [.int .u64 0, .int .u64 0, .int .u64 0]) ∧ k = n - 64 * j

theorem bcT (v : Nat) (hv : v < M3) (n : Nat) (hn : n ≤ 1000000000) (q : Int) (hq : q = (n : Int)) (H : Heap) : ACall prog 240 [u3 v, .int .i64 q] H (fun y H' => y = .tuple [u3 (v / 2 ^ n), .bool (decide (v % 2 ^ n ≠ 0))] ∧ H' = H) := by
 subst hq
 refine ACall.of_body func240 rfl ntmps240 results240 rfl ?_
 refine .seq (.region (.s rfl (alF (tm rfl) (.inr ⟨_, rfl⟩)) ?_))
 rintro _ _ ⟨b2, hb2, rfl, hH⟩
 obtain rfl := hH.symm
 refine .al zr247 (fun b4 hb4 => ?_)
 have hn2_4 := Heap.ne_of (oS _ _ _) hb4
 refine .p rfl (zG yH) (.nil ?_)
 refine Next.go ?_
 refine .seq (.region (.mv rfl rfl (.p rfl (baA (tm rfl) zH) (.as rfl rfl (.nil ?_)))))
 refine Next.go ?_
 refine .seq ?_
 rw [show baZ (n : Int) 0 = (n : Int) by simp only [baZ]; split <;> omega]
 refine .region (.p rfl (zG yH) (.nil ?_))
 refine Next.go ?_
 refine .seq (.block ?_)
 rw [show (u3 v).cells = [.int .u64 ((v / 2 ^ (64 * 0) / M2 : Nat) : Int), .int .u64 ((v / 2 ^ (64 * 0) / M1 % M1 : Nat) : Int), .int .u64 ((v / 2 ^ (64 * 0) % M1 : Nat) : Int)] by rw [show v / 2 ^ (64 * 0) = v by simp]; rfl]
 refine AWP.loopW (caV v n b2 b4 H) (n) ⟨0, by omega, rfl, rfl, rfl⟩ (zJ rfl (zJ rfl (zJ rfl (zN rfl (by simp [Nat.mod_one]) yJ)))) (hRa _) ?_
 rintro _ _ _ ⟨j, hj, rfl, rfl, hk⟩
 have hvj : (v / 2 ^ (64 * j)) < M3 := aV (dF _ _) hv
 refine .seq ?_
 refine AWP.seqTo 15 (.bool (decide ((64 : Int) ≤ ((n - 64 * j : Nat) : Int)) && !decide ((v / 2 ^ (64 * j)) = 0))) [1, 2, 4, 6] ?_ ?_
 ·-- region 3
  refine .region (.mv rfl rfl (.p rfl (acE (tm rfl) zH) (.mv rfl rfl ?_)))
  refine zD (t := 11) rfl (fun hg11 => ?_) (fun hg11 => ?_)
  ·have hh11 := hg11; try simp only [aO] at hh11
   refine .gs rfl rfl rfl aB (abO isAgg247 Z247 (tm rfl) ((oN _ _ aB).trans (oS _ _ _)) (lB rfl)) ?_
   rintro _ _ ⟨rfl, hH⟩
   obtain rfl := hH.symm
   refine .gp rfl rfl rfl aB (yB zr247 pl247 .nil rfl) ?_
   refine .gp rfl rfl rfl aB (bqF eqGuardType247 (tm rfl) (tm rfl) (eq3 _ _ _ _ _ _)) ?_
   refine .p rfl (yM (tm rfl) aB (tm rfl)) (.nil ?_)
   exact ⟨rfl, zO rfl (by (rw [show decide ((64 : Int) ≤ ((n - 64 * j : Nat) : Int)) = true from hg11, Bool.true_and]; congr 1; exact aY.2 (bcY hvj))) sX, rfl⟩
  have hh11 := hg11; try simp only [aM, dK] at hh11
  refine .gn rfl rfl rfl aB (.gn rfl rfl rfl aB (.gn rfl rfl rfl aB (.p rfl (qD (tm rfl) aB yH) (.nil ?_))))
  exact ⟨rfl, zO rfl (by (rw [show decide ((64 : Int) ≤ ((n - 64 * j : Nat) : Int)) = false from hg11]; rfl)) sX, rfl⟩
 refine AWP.sub [(15, _), (1, _), (2, _), (4, _), (6, _)] sX ?_
 refine AWP.cond (tm rfl) (fun hc15 => ?_) (fun hc15 => ?_)
 ·try simp only [aK] at hc15
  simp only [bK, eV, aO, aM] at hc15
  refine .skip ?_
  refine Next.go ?_
  refine .block ?_
  refine AWP.seqTo 6 (.bool (decide (v % 2 ^ (64 * (j + 1)) ≠ 0))) [1, 2, 4] ?_ ?_
  ·-- region 4
   refine .region (.mv rfl rfl (.mv rfl rfl ?_))
   refine zD (t := 17) rfl (fun hg17 => ?_) (fun hg17 => ?_)
   ·have hh17 := hg17; try simp only [aO, ne_eq] at hh17
    refine .gn rfl rfl rfl aB (.gn rfl rfl rfl aB (.gn rfl rfl rfl aB (.p rfl (yM (tm rfl) aB yH) (.as rfl rfl (.nil ?_)))))
    exact ⟨rfl, zO rfl (by (have q := bwX hg17; exact q)) sX, rfl⟩
   have hh17 := hg17; try simp only [aM, ne_eq, dP] at hh17
   refine .gp rfl rfl rfl aB (zC U247 rfl Z22 (tm rfl)) (.gs rfl rfl rfl aB (yD G22 (tm rfl) ((oN _ _ aB).trans (oS _ _ _)) rfl) ?_)
   rintro _ _ ⟨rfl, hH⟩
   obtain rfl := hH.symm
   refine .gp rfl rfl rfl aB (qW (tm rfl) (zI 0)) (.p rfl (qD (tm rfl) aB (tm rfl)) (.as rfl rfl (.nil ?_)))
   exact ⟨rfl, zO rfl (by (have q := bwY hg17; exact q)) sX, rfl⟩
  refine AWP.sub [(6, _), (1, _), (2, _), (4, _)] sX ?_
  refine .seq (.region (.p rfl (zC U247 rfl Z22 (tm rfl)) (.e rfl (yD G22 (tm rfl) ((oN _ _ aB).trans (oS _ _ _)) rfl) (.p rfl (zC U247 rfl Z22 (tm rfl)) ?_))))
  refine AX ?_
  refine .p rfl (yB zr247 pl247 (.cons (zI 0) (.inl rfl) (.cons (tm rfl) (.inl rfl) (.cons (tm rfl) (.inl rfl) .nil))) rfl) ?_
  iterate 5 refine AX ?_
  refine .p rfl (.as (b := .int .i64 ((n - 64 * (j + 1) : Nat) : Int)) (by congr 1; omega) (acW (tm rfl) zH aA)) ?_
  iterate 4 refine AX ?_
  have hd64 := cgL hvj
  have hvn : v / 2 ^ (64 * (j + 1)) = (v / 2 ^ (64 * j)) / M1 := by rw [afR, bY, ← bI]; congr 1
  refine Round.mk (J := caV v n b2 b4 H) ⟨j + 1, by omega, rfl, rfl, rfl⟩ sX (by rw [hvn, hd64.1, hd64.2]; exact hRa _) aA
 try simp only [aK] at hc15
 simp only [bU, eH, aO, aM] at hc15
 iterate 9 refine AX ?_
 refine .p rfl (yB zr247 pl247 .nil rfl) ?_
 refine .p rfl (qI eqGuardType247 (tm rfl) (tm rfl) (eq3 _ _ _ _ _ _)) ?_
 iterate 2 refine AX ?_
 refine AWP.cond (tm rfl) (fun hc31 => ?_) (fun hc31 => ?_)
 ·try simp only [aO] at hc31
  iterate 8 refine AX ?_
  refine AWP.frz (t := 4) rfl (fS hb4 _) ?_
  refine AWP.dropb (hb2) ?_
  iterate 3 refine AX ?_
  refine ⟨?_, rfl⟩
  have hv0 : (v / 2 ^ (64 * j)) = 0 := (bcY hvj).1 (by simpa using hc31)
  have hlt : v < 2 ^ (64 * j) := by rcases Nat.div_eq_zero_iff.1 hv0 with h | h; exact absurd h (Nat.ne_of_gt (bN aC)); exact h
  have hpn : v < 2 ^ n := bQ hlt (aZ aC hj)
  rw [bB hlt, bB hpn, cB hpn, hv0]; rfl
 try simp only [aM] at hc31
 have hv1 : ¬ (v / 2 ^ (64 * j)) = 0 := fun h => hc31 ((bcY hvj).2 h)
 have hk64 : n - 64 * j < 64 := by omega
 clear hv1
 have hr1 : (v / 2 ^ (64 * j)) % M1 < 18446744073709551616 := afN _
 have hr2 : (v / 2 ^ (64 * j)) / M1 % M1 < 18446744073709551616 := afN _
 have hr3 : (v / 2 ^ (64 * j)) / M2 < 18446744073709551616 := biL hvj
 have hr4 : (v / 2 ^ (64 * j)) % M1 / 2 ^ (n - 64 * j) < 18446744073709551616 := aV (dF _ _) hr1
 have hr5 : (v / 2 ^ (64 * j)) / M1 % M1 / 2 ^ (n - 64 * j) < 18446744073709551616 := aV (dF _ _) hr2
 have hr6 : 1 * 2 ^ (n - 64 * j) - 1 < 18446744073709551616 := aV (Nat.sub_le _ _) (apW hk64)
 rw [Heap.set_comm hn2_4]
 refine AWP.frz (t := 2) rfl ((oN _ _ hn2_4).trans hb2) ?_
 have hb4 := (oN H _ hn2_4.symm).symm.trans hb4
 iterate 2 refine AX ?_
 refine AWP.seqTo 6 (.bool (decide (v % 2 ^ n ≠ 0))) [1, 2, 4] ?_ ?_
 ·-- region 9
  refine AWP.draw [(0, true), (1, true), (2, true), (3, true), (4, true), (5, true), (6, true), (7, true), (8, true), (9, true), (10, true)] rfl aE ?_
  iterate 2 refine AX ?_
  refine asI (t := 35) rfl (fun hg35 => ?_) (fun hg35 => ?_)
  ·have hh35 := hg35; try simp only [aO, ne_eq] at hh35
   iterate 10 refine AX ?_
   exact ⟨rfl, zO rfl (by (have q := cdD hj hg35; exact q)) sX, rfl⟩
  have hh35 := hg35; try simp only [aM, ne_eq, dP] at hh35
  refine .gp rfl rfl rfl rfl aB (zA U247 rfl Z22 (tm rfl)) ?_
  iterate 2 refine AX ?_
  refine .gp rfl rfl rfl rfl aB (qA (zI 1) (tm rfl) aA (by exact apW hk64)) (.gp rfl rfl rfl rfl aB (abJ (tm rfl) (zI 1) (blF _) (by (exact bQ (apW hk64) aC))) (.gp rfl rfl rfl rfl aB (abE (tm rfl) (tm rfl) aB aB) (.gp rfl rfl rfl rfl aB (qW (tm rfl) (zI 0)) ?_)))
  iterate 3 refine AX ?_
  exact ⟨rfl, zO rfl (by (have q := cdE hj aA hg35; exact q)) sX, rfl⟩
 refine AWP.sub [(6, _), (1, _), (2, _), (4, _)] sX ?_
 refine AX ?_
 refine AWP.draw [(0, true), (1, true), (2, true), (3, true), (4, true), (5, true), (6, true), (7, true), (8, true), (9, true), (10, true), (11, true), (12, true), (13, true), (14, true), (15, true), (16, true), (17, true), (18, true), (19, true), (20, true), (21, true), (22, true), (23, true), (24, true), (25, true), (26, false), (27, true)] rfl aE ?_
 refine .p rfl rfl (zA U247 rfl Z22 (tm rfl)) ?_
 iterate 3 refine AX ?_
 refine .p rfl rfl (zA U247 rfl Z22 (tm rfl)) ?_
 iterate 3 refine AX ?_
 refine .p rfl rfl (zA U247 rfl Z22 (tm rfl)) ?_
 iterate 2 refine AX ?_
 refine .p rfl rfl (.as (b := .int .i64 ((64 - (n - 64 * j) : Nat) : Int)) (by congr 1; omega) (acW zH (tm rfl) aA)) ?_
 iterate 2 refine AX ?_
 refine .p rfl rfl (zA U247 rfl Z22 (tm rfl)) ?_
 iterate 3 refine AX ?_
 refine .p rfl rfl (zA U247 rfl Z22 (tm rfl)) ?_
 iterate 2 refine AX ?_
 refine .p rfl rfl (.as (b := .int .i64 ((64 - (n - 64 * j) : Nat) : Int)) (by congr 1; omega) (acW zH (tm rfl) aA)) ?_
 iterate 2 refine AX ?_
 refine .p rfl rfl (yB zr247 pl247 (.cons (tm rfl) (.inl rfl) (.cons (tm rfl) (.inl rfl) (.cons (tm rfl) (.inl rfl) .nil))) rfl) ?_
 refine AX ?_
 refine .s0 rfl (zP Z247 (tm rfl) (tm rfl) rfl rfl (.inr ⟨_, rfl⟩) (oS _ _ _) (lB rfl)) ?_
 rintro _ _ ⟨rfl, hH⟩
 obtain rfl := hH.symm
 try first | rw [sS] | rw [sU aB]
 iterate 3 refine AX ?_
 refine AWP.frz (t := 4) rfl (hb4) ?_
 iterate 2 refine AX ?_
 refine ⟨?_, rfl⟩
 have hvn2 : v / 2 ^ n = (v / 2 ^ (64 * j)) / 2 ^ (n - 64 * j) := by rw [bY, ← bI, show 64 * j + (n - 64 * j) = n by omega]
 rw [hvn2]
 unfold u3
 rw [ceA (v / 2 ^ (64 * j)) (n - 64 * j), bxY (v := (v / 2 ^ (64 * j))) (k := n - 64 * j) aA, cdZ (v := (v / 2 ^ (64 * j))) (k := n - 64 * j) aA]
 rfl

end
section
open Go Go.RowKit
set_option maxRecDepth 100000

section
variable {P : Program} {n : Nat} {ops : Array Oper} {Q : Exit → Env → Heap → Prop} {l : List Oper} {env : Env} {H : Heap} {ty : TypeId} {pos : String} {af : Array Edge}
theorem AList.ext {d : Tmp} {f : FuncId} {e : Array Value → Sem Value} {os : Array Operand} {xs : List AV} {ts : Array TypeId} {r : AV} (hd : Nat.blt d n = true) (he : IsExt P f e) (ha : Evs env os.toList xs)
  (h : ∀ g vs w, RelVs g xs vs → ∃ v, (e vs.toArray).run P w = .ok v w ∧ RelV g r v) (k : AList P n ops Q l ((d, r) :: env) H) : AList P n ops Q (⟨some d, .call { callee := .value (.func f), args := os, argTypes := ts }, ty, pos, af, none⟩ :: l) env H := by
 have q := bvC (H := H) (dst := some d) (ty := ty) (pos := pos) (af := af) (gd := none) (ts := ts) he ha h
 refine .s hd q ?_
 rintro _ _ ⟨rfl, hH⟩
 obtain rfl := hH.symm
 exact k
end
theorem biF (hx : x < M1) (hy : y < M1) : x * y / M1 + 1 < M1 := by
 have h : x * y ≤ 18446744073709551615 * 18446744073709551615 := eE (Nat.le_sub_one_of_lt hx) (Nat.le_sub_one_of_lt hy)
 have h2 : x * y / M1 ≤ 18446744073709551615 * 18446744073709551615 / M1 := Nat.div_le_div_right h
 have h3 : 18446744073709551615 * 18446744073709551615 / M1 + 1 < M1 := by decide +kernel
 exact aV (Nat.add_le_add_right h2 1) h3
theorem byI (hx : x + 1 < M1) (hy : y < M1) : (x + y) / M1 ≤ 1 := by unfold M1 at *; omega
theorem anG : ∀ g vs w, RelVs g [.int .u64 (x : Int), .int .u64 (y : Int), .int .u64 ((0 : Nat) : Int)] vs → ∃ v, (add64Entry vs.toArray).run prog w = .ok v w ∧ RelV g (.tuple [.int .u64 (((x + y) % 18446744073709551616 : Nat) : Int), .int .u64 (((x + y) / 18446744073709551616 : Nat) : Int)]) v := by
 have := @bbL x y 0 aC
 rw [cI] at this; exact this

theorem amP (v : Nat) (hv : v < M2) (n : Nat) (hn : n ≤ 1000000000) (q : Int) (hq : q = (n : Int)) (H : Heap) : ACall prog 188 [u2 v, .int .i64 q] H (fun y H' => y = .tuple [u2 (v / 2 ^ n), .bool (decide (v % 2 ^ n ≠ 0))] ∧ H' = H) := by
 refine ACall.of_body func188 rfl ntmps188 results188 rfl ?_
 refine .seq (.region (.e rfl (qG (tm rfl) (.inr ⟨_, rfl⟩)) ?_))
 refine .al zr149 (fun b4 hb4 => ?_)
 refine .p rfl (zG yH) (.nil ?_)
 refine Next.go ?_
 refine .seq (.region (.p rfl (zA U149 rfl Z22 (tm rfl)) (.p rfl (zY G22 (tm rfl)) (.p rfl (zA U149 rfl Z22 (tm rfl)) ?_))))
 refine AX ?_
 refine .p rfl (yB zr247 pl247 (.cons (zI 0) (.inl rfl) (.cons (tm rfl) (.inl rfl) (.cons (tm rfl) (.inl rfl) .nil))) rfl) ?_
 refine AX ?_
 refine .cl rfl call240 (evs2 rfl rfl) ((by have := bcT v (dI hv aE) n hn q hq; rw [ceY hv] at this; exact this _)) ?_
 iterate 3 refine AX ?_
 refine .al zr247 (fun b6 hb6 => ?_)
 have hn4_6 := Heap.ne_of (oS _ _ _) hb6
 iterate 4 refine AX ?_
 refine AWP.frz (t := 6) rfl (hb6) ?_
 iterate 3 refine AX ?_
 refine .cl rfl call241 (evs1 rfl) (atK _ _ _ _) ?_
 iterate 5 refine AX ?_
 refine AWP.frz (t := 4) rfl (hb4) ?_
 iterate 2 refine AX ?_
 refine ⟨?_, rfl⟩
 simp only [yE]
 rw [caL, bB (aV (dF _ _) hv)]
 rfl

theorem amR (a b : Nat) (ha : a < M2) (hb : b < M2) (H : Heap) : ACall prog 243 [u2 a, u2 b] H (fun y H' => y = .tuple [u2 ((a + b) % M2), .bool (decide (M2 ≤ a + b))] ∧ H' = H) := by
 have ha1 := bmB ha
 have hb1 := bmB hb
 have ha2 := afN a
 have hb2 := afN b
 have hc : (a % M1 + b % M1) / 18446744073709551616 ≤ 1 := chW
 generalize hce : (a % M1 + b % M1) / 18446744073709551616 = c at hc
 refine ACall.of_body func243 rfl ntmps243 results243 rfl ?_
 refine .seq (.region (.e rfl (qG (tm rfl) (.inr ⟨_, rfl⟩)) (.e rfl (qG (tm rfl) (.inr ⟨_, rfl⟩)) ?_)))
 refine .al zr149 (fun b4 hb4 => ?_)
 refine .p rfl (zG yH) (.nil ?_)
 refine Next.go ?_
 refine .seq (.region (.p rfl (zA U149 rfl Z22 (tm rfl)) (.p rfl (zY G22 (tm rfl)) (.p rfl (zA U149 rfl Z22 (tm rfl)) (.p rfl (zY G22 (tm rfl)) ?_)))))
 refine AList.ext rfl ext291 (.cons (tm rfl) (.cons (tm rfl) (.cons (zI 0) .nil))) (anG) ?_
 refine .mv rfl rfl (.p rfl (zW (tm rfl) rfl) (.p rfl (zW (tm rfl) rfl) (.as rfl rfl (.as rfl rfl (.nil ?_)))))
 refine Next.go ?_
 refine .seq ?_
 rw [hce]
 refine .region (.p rfl (zA U149 rfl Z22 (tm rfl)) (.p rfl (zY G22 (tm rfl)) (.p rfl (zA U149 rfl Z22 (tm rfl)) ?_)))
 iterate 2 refine AX ?_
 refine AList.ext rfl ext291 (evs3 rfl rfl rfl) (bbL (x := a / M1) (y := b / M1) (c := c) hc) ?_
 iterate 11 refine AX ?_
 refine .p rfl (yB zr149 pl149 (.cons (tm rfl) (.inl rfl) (.cons (tm rfl) (.inl rfl) .nil)) rfl) ?_
 refine AX ?_
 refine .p rfl (qW (tm rfl) (zI 0)) ?_
 iterate 4 refine AX ?_
 refine AWP.frz (t := 4) rfl (hb4) ?_
 iterate 2 refine AX ?_
 refine ⟨?_, rfl⟩
 have e1 := @bzA a b
 have e2 := @cgW a b
 have e3 := @cgV a b
 rw [show (a % M1 + b % M1) / M1 = c from hce] at e1 e2
 rw [← e1]
 unfold u2 w2
 rw [← e2, ← e3]
 rfl

theorem ayQ (a x : Nat) (ha : a < M2) (hx : x < M1) (H : Heap) : ACall prog 265 [u2 a, .int .u64 (x : Int)] H (fun y H' => y = u3 (a * x) ∧ H' = H) := by
 have ha1 := bmB ha
 have ha2 := afN a
 have hm1 := biF ha1 hx
 have hm2 := biF ha2 hx
 have hm3 := afN (a / M1 * x)
 have hcl := byI hm2 hm3
 have hfit : a / M1 * x / 18446744073709551616 + (a % M1 * x / 18446744073709551616 + a / M1 * x % 18446744073709551616) / 18446744073709551616 < 18446744073709551616 := aV (Nat.add_le_add_left hcl _) hm1
 refine ACall.of_body func265 rfl ntmps265 results265 rfl ?_
 refine .seq (.region (.e rfl (qG (tm rfl) (.inr ⟨_, rfl⟩)) ?_))
 refine .al zr247 (fun b4 hb4 => ?_)
 refine .nil ?_
 refine Next.go ?_
 refine .seq ?_
 refine AWP.draw2 [(0, true), (1, true), (2, true), (3, true), (4, true), (5, true), (6, true), (7, true)] 8 9 [(9, false), (10, false), (11, false)] [(8, false), (10, false), (11, false)] rfl aE ?_
 refine .p rfl rfl (zA U149 rfl Z22 (tm rfl)) (.p rfl rfl (zY G22 (tm rfl)) (.p rfl rfl (zM (tm rfl)) ?_))
 refine APlan.f rfl rfl (fun _ => zB C193 (evs2 rfl rfl) (amQ _ _ aB aB _)) ?_
 refine .p rfl rfl (zA U149 rfl Z22 (tm rfl)) (.p rfl rfl (zY G22 (tm rfl)) (.p rfl rfl (zM (tm rfl)) ?_))
 refine APlan.f rfl rfl (fun _ => zB C193 (evs2 rfl rfl) (amQ _ _ aB aB _)) ?_
 refine .nil ?_
 refine ⟨?_, ?_⟩
 ·refine XTwo.s rfl rfl (agJ zr149) ?_
  rintro _ _ ⟨b5, hb5, rfl, hH⟩
  obtain rfl := hH.symm
  have hn4_5 := Heap.ne_of (oS _ _ _) hb5
  refine .s rfl rfl (agJ zr149) ?_
  rintro _ _ ⟨b6, hb6, rfl, hH⟩
  obtain rfl := hH.symm
  have hn4_6 := Heap.ne_of (oS _ _ _) hb6
  have hn5_6 := Heap.ne_of (oS _ _ _) hb6
  refine .s0 rfl (zP Z149 (tm rfl) (tm rfl) rfl rfl (.inr ⟨_, rfl⟩) ((oN _ _ aB).trans (oS _ _ _)) (lB rfl)) ?_
  rintro _ _ ⟨rfl, hH⟩
  obtain rfl := hH.symm
  try first | rw [sS] | rw [sU aB]
  refine .s0 rfl (zP Z149 (tm rfl) (tm rfl) rfl rfl (.inr ⟨_, rfl⟩) (oS _ _ _) (lB rfl)) ?_
  rintro _ _ ⟨rfl, hH⟩
  obtain rfl := hH.symm
  try first | rw [sS] | rw [sU aB]
  refine .nil ?_
  refine Next.go ?_
  refine AWP.frz (t := 6) rfl (fS hb6 _) ?_
  refine AWP.frz (t := 5) rfl (hb5) ?_
  refine .seq (.region (.p rfl (zA U149 rfl Z22 (tm rfl)) (.p rfl (zY G22 (tm rfl)) (.p rfl (zA U149 rfl Z22 (tm rfl)) (.p rfl (zY G22 (tm rfl)) ?_)))))
  refine AList.ext rfl ext291 (.cons (tm rfl) (.cons (tm rfl) (.cons (zI 0) .nil))) (anG) ?_
  refine .mv rfl rfl (.p rfl (zW (tm rfl) rfl) (.p rfl (zW (tm rfl) rfl) (.as rfl rfl (.as rfl rfl (.nil ?_)))))
  refine Next.go ?_
  refine .seq (.region (.p rfl (zA U149 rfl Z22 (tm rfl)) (.p rfl (zY G22 (tm rfl)) (.mv rfl rfl (.p rfl (yR (tm rfl) (tm rfl) (hfit)) (.mv rfl rfl (.p rfl (zA U149 rfl Z22 (tm rfl)) (.p rfl (zY G22 (tm rfl)) ?_))))))))
  refine .p rfl (yB zr247 pl247 (.cons (tm rfl) (.inl rfl) (.cons (tm rfl) (.inl rfl) (.cons (tm rfl) (.inl rfl) .nil))) rfl) (.e0 (zP Z247 (tm rfl) (tm rfl) rfl rfl (.inr ⟨_, rfl⟩) (oS _ _ _) (lB rfl)) ?_)
  try first | rw [sS] | rw [sU aB]
  refine .nil ?_
  refine Next.go ?_
  refine AWP.frz (t := 4) rfl (hb4) ?_
  refine .ret ?_
  refine Ret.go (.cons (.cellI _ _ _ _ rfl isAgg247 Z247 rfl) .nil) _ (hRa _) ?_
  refine ⟨?_, rfl⟩
  obtain ⟨e1, e2, e3⟩ := apO a x
  unfold u3 w3
  rw [e1, e2, e3]
  rfl
 refine XTwo.s rfl rfl (agJ zr149) ?_
 rintro _ _ ⟨b6, hb6, rfl, hH⟩
 obtain rfl := hH.symm
 have hn4_6 := Heap.ne_of (oS _ _ _) hb6
 refine .s rfl rfl (agJ zr149) ?_
 rintro _ _ ⟨b5, hb5, rfl, hH⟩
 obtain rfl := hH.symm
 have hn4_5 := Heap.ne_of (oS _ _ _) hb5
 have hn6_5 := Heap.ne_of (oS _ _ _) hb5
 refine .s0 rfl (zP Z149 (tm rfl) (tm rfl) rfl rfl (.inr ⟨_, rfl⟩) (oS _ _ _) (lB rfl)) ?_
 rintro _ _ ⟨rfl, hH⟩
 obtain rfl := hH.symm
 try first | rw [sS] | rw [sU aB]
 refine .s0 rfl (zP Z149 (tm rfl) (tm rfl) rfl rfl (.inr ⟨_, rfl⟩) ((oN _ _ aB).trans (oS _ _ _)) (lB rfl)) ?_
 rintro _ _ ⟨rfl, hH⟩
 obtain rfl := hH.symm
 try first | rw [sS] | rw [sU aB]
 refine .nil ?_
 refine Next.go ?_
 refine AWP.frz (t := 5) rfl (fS hb5 _) ?_
 refine AWP.frz (t := 6) rfl (hb6) ?_
 refine .seq (.region (.p rfl (zA U149 rfl Z22 (tm rfl)) (.p rfl (zY G22 (tm rfl)) (.p rfl (zA U149 rfl Z22 (tm rfl)) (.p rfl (zY G22 (tm rfl)) ?_)))))
 refine AList.ext rfl ext291 (.cons (tm rfl) (.cons (tm rfl) (.cons (zI 0) .nil))) (anG) ?_
 refine .mv rfl rfl (.p rfl (zW (tm rfl) rfl) (.p rfl (zW (tm rfl) rfl) (.as rfl rfl (.as rfl rfl (.nil ?_)))))
 refine Next.go ?_
 refine .seq (.region (.p rfl (zA U149 rfl Z22 (tm rfl)) (.p rfl (zY G22 (tm rfl)) (.mv rfl rfl (.p rfl (yR (tm rfl) (tm rfl) (hfit)) (.mv rfl rfl (.p rfl (zA U149 rfl Z22 (tm rfl)) ?_)))))))
 refine AX ?_
 refine .p rfl (yB zr247 pl247 (.cons (tm rfl) (.inl rfl) (.cons (tm rfl) (.inl rfl) (.cons (tm rfl) (.inl rfl) .nil))) rfl) ?_
 iterate 3 refine AX ?_
 refine AWP.frz (t := 4) rfl (hb4) ?_
 iterate 2 refine AX ?_
 refine ⟨?_, rfl⟩
 obtain ⟨e1, e2, e3⟩ := apO a x
 unfold u3 w3
 rw [e1, e2, e3]
 rfl

end
end Go.Proofs.YtmmgbnolccpjoaaGreatDoor
