import Derived.Test.YtmmgbnolccpjoaaGreatDoorN1
namespace Go.Proofs.YtmmgbnolccpjoaaGreatDoor
open Go.Proofs.Tryz
open Go Go.RowKit
variable {A Z ws xs zs : List Nat} {b i k n o r v : Nat}
section
set_option maxRecDepth 100000
set_option maxHeartbeats 1000000

def mid (zs : List Nat) (o : Nat) (ws : List Nat) : List Nat := zs.take o ++ ws ++ zs.drop (o + ws.length)
theorem afM (hn : ws.length = n) (h : o + n ≤ zs.length) : (mid zs o ws).length = zs.length := by
 unfold mid; simp; omega
theorem aoU (h : o + n ≤ zs.length) : mid zs o ((zs.drop o).take n) = zs := by
 unfold mid
 rw [aS, aW, show min n (zs.length - o) = n by omega, aQ]
 rw [← fL, cV, cV]
theorem axK (ho : o ≤ zs.length) (hi : i < ws.length) : (mid zs o ws).set (o + i) v = mid zs o (ws.set i v) := by
 unfold mid
 rw [List.length_set, aQ, aQ, List.set_append_right _ _ (by rw [aS]; omega), aS, show o + i - min o zs.length = i by omega, List.set_append_left _ _ hi]
theorem beU (ho : o ≤ zs.length) (hi : i < ws.length) : (mid zs o ws).getD (o + i) 0 = ws.getD i 0 := by
 unfold mid
 rw [aR, aR, aQ, eS (by rw [aS]; omega), aS, show o + i - min o zs.length = i by omega, fP hi]
theorem aeD (hz : Limbs zs) (hw : Limbs ws) : Limbs (mid zs o ws) := ((hz.take _).append hw).append (hz.drop _)
theorem cbE (xs : List Nat) (n : Nat) : ∃ q, val xs = val (xs.take n) + 4294967296 ^ n * q := by
 rcases cD xs.length n with h | h
 ·exact ⟨0, by rw [aX aA]; omega⟩
 refine ⟨val (xs.drop n), ?_⟩
 have := qL (xs.take n) (xs.drop n)
 rw [cV, aS, cY h] at this
 exact this
theorem agZ {j : Nat} (h : j < n - 0) : ((zs.drop o).take n).getD j 0 = zs.getD (o + j) 0 := by
 rw [aR, aR, eQ, aJ, eG]
theorem bdH {d : Nat} (hd : 0 < d) (hw : ws.length = n) (hi : i < n) (hn : o + n ≤ zs.length) (hg : ws.getD (n - 1 - i) 0 = zs.getD (o + (n - 1 - i)) 0) (h : val (ws.drop (n - i)) * d + r = val (((zs.drop o).take n).drop (n - i))) :
  val ((ws.set (n - 1 - i) ((r * 4294967296 + zs.getD (o + (n - 1 - i)) 0) / d)).drop (n - (i + 1))) * d + (r * 4294967296 + zs.getD (o + (n - 1 - i)) 0) % d = val (((zs.drop o).take n).drop (n - (i + 1))) := by
 have e := agZ (zs := zs) (o := o) (n := n) (j := n - 1 - i) aA
 rw [← e] at hg ⊢
 rw [show n - i = n - 1 - i + 1 by omega] at h
 rw [show n - (i + 1) = n - 1 - i by omega]
 exact atY hd aA aG hg h
theorem arI (h : ws.length = zs.length) : mid zs 0 ws = ws := by
 unfold mid; rw [h]; simp

def bpE (xs : List Nat) (tl : Tail) (b o n cp s : Nat) (zs : List Nat) (H : Heap) : Nat → Env → Heap → Prop := fun k env H1 => ∃ (i c : Nat) (ws : List Nat), i ≤ n ∧ ws.length = n ∧ Limbs ws ∧ c < 2 ^ s ∧ val (ws.take i) + 4294967296 ^ i * c = val (xs.take i) * 2 ^ s ∧ env = [(0, .mslice (some ⟨b, o, none⟩) n cp), (1, .slice 1 (U .u32 xs) tl), (2, .int .i64 (s : Int)), (6, .int .u64 (c : Int)), (9, .int .i64 (n : Int)), (10, .int .i64 (i : Int))] ∧ H1 = H.set b (.box 166 (U .u32 (mid zs o ws))) ∧ k = n - i

theorem akM (xs : List Nat) (tl : Tail) (hx : Limbs xs) (hl : xs.length ≤ 1000000) (b o n cp s : Nat) (zs : List Nat) (hz : Limbs zs) (hn : o + n ≤ zs.length) (hn2 : n ≤ 1000000) (hs : s < 32) (H : Heap) (hb : H.objs b = some (.box 166 (U .u32 zs))) : ACall prog 315 [.mslice (some ⟨b, o, none⟩) n cp, .slice 1 (U .u32 xs) tl, .int .i64 (s : Int)] H (fun _ H' => ∃ ws : List Nat, ws.length = n ∧ Limbs ws ∧ val ws = val xs * 2 ^ s % 4294967296 ^ n ∧ H' = H.set b (.box 166 (U .u32 (mid zs o ws)))) := by
 have h2s : 2 ^ s ≤ 2 ^ 31 := aZ aC aA
 have h2p : 0 < 2 ^ s := bN aC
 refine ACall.of_body func315 rfl ntmps315 results315 rfl ?_
 iterate 2 refine AX ?_
 refine .p rfl (zG (zI 0)) ?_
 iterate 10 refine AX ?_
 refine AWP.loopW (bpE xs tl b o n cp s zs H) (n) ⟨0, 0, (zs.drop o).take n, Nat.zero_le _, by simp; omega, (hz.drop _).take _, by omega, by simp [val], rfl, (Heap.set_self (by rw [aoU hn]; exact hb)).symm, rfl⟩ sX (hRa _) ?_
 rintro _ _ _ ⟨i, c, ws, hi, hw, hwl, hc, hv, rfl, rfl, hk⟩
 iterate 6 refine AX ?_
 refine AWP.cond (tm rfl) (fun hc11 => ?_) (fun hc11 => ?_)
 ·try simp only [aO] at hc11
  have hg := Limbs.getD hx i
  obtain ⟨hv2, hc2, hc3⟩ := bjZ (by omega : i < ws.length) aA hg hc hv
  have hml := afM (o := o) hw hn
  have hxs2 : xs.getD i 0 * 2 ^ s ≤ 4294967295 * 2 ^ s := bC _ aA
  iterate 10 refine AX ?_
  refine AWP.seqToL [(6, .int .u64 ((c + xs.getD i 0 * 2 ^ s : Nat) : Int))] [0, 1, 2, 9, 10, 7] ?_ ?_
  ·iterate 8 refine AX ?_
   refine AWP.cond (tm rfl) (fun hc16 => ?_) (fun hc16 => ?_)
   ·try simp only [aO] at hc16
    iterate 4 refine AX ?_
    refine .p rfl (zU (i) U239 Z166 (tm rfl) (tm rfl) aA aA) ?_
    iterate 3 refine AX ?_
    refine .p rfl (qA (tm rfl) (tm rfl) aA aA) (.p rfl (abD (tm rfl) (tm rfl) aA aA) (.as rfl rfl (.nil ?_)))
    exact ⟨rfl, (zN rfl (by (rw [beS hc])) sX), rfl⟩
   try simp only [aM, cH] at hc16
   refine AX ?_
   exact ⟨rfl, (zN rfl (by (rw [agB aA, dQ]; rfl)) sX), rfl⟩
  refine AWP.sub [(6, _), (0, _), (1, _), (2, _), (9, _), (10, _), (7, _)] sX ?_
  iterate 6 refine AX ?_
  refine .p rfl (abY (i) U239 Z166 (tm rfl) (tm rfl) aA aA) (.e0 (yW Z166 (tm rfl) (tm rfl) (oS _ _ _) aA) ?_)
  try first | rw [sS] | rw [sU aB]
  iterate 4 refine AX ?_
  refine .p rfl (yQ (tm rfl) (zI 32) aB) ?_
  iterate 9 refine AX ?_
  refine Round.mk (J := bpE xs tl b o n cp s zs H) ⟨i + 1, _, _, by omega, by simpa using hw, Limbs.set hwl aA, hc2, hv2, rfl, by rw [axK aA aA]; rfl, rfl⟩ sX (hRa _) aA
 try simp only [aM, cH] at hc11
 iterate 4 refine AX ?_
 refine Ret.go' .nil _ (hRa _) ?_
 have hin : i = n := by omega
 subst hin
 refine ⟨ws, hw, hwl, ?_, rfl⟩
 obtain ⟨q, hq⟩ := cbE xs i
 rw [hq, bS, bJ, dL]
 exact bgR hwl hw hv

def bpC (b o n cp d : Nat) (zs : List Nat) (H : Heap) : Nat → Env → Heap → Prop := fun k env H1 => ∃ (i r : Nat) (ws : List Nat), i ≤ n ∧ ws.length = n ∧ Limbs ws ∧ r < d ∧ (∀ j, j < n - i → ws.getD j 0 = zs.getD (o + j) 0) ∧ val (ws.drop (n - i)) * d + r = val (((zs.drop o).take n).drop (n - i)) ∧ env = [(0, .mslice (some ⟨b, o, none⟩) n cp), (1, .int .u32 (d : Int)), (5, .int .u64 (r : Int)), (10, .int .i64 (n : Int)), (11, .int .i64 (i : Int))] ∧ H1 = H.set b (.box 166 (U .u32 (mid zs o ws))) ∧ k = n - i

theorem apV (b o n cp d : Nat) (hd : 0 < d) (hd2 : d < 4294967296) (zs : List Nat) (hz : Limbs zs) (hn : o + n ≤ zs.length) (hn2 : n ≤ 1000000) (H : Heap) (hb : H.objs b = some (.box 166 (U .u32 zs))) : ACall prog 317 [.mslice (some ⟨b, o, none⟩) n cp, .int .u32 (d : Int)] H (fun y H' => y = .int .u32 ((val ((zs.drop o).take n) % d : Nat) : Int) ∧ ∃ ws : List Nat, ws.length = n ∧ Limbs ws ∧ val ws = val ((zs.drop o).take n) / d ∧ H' = H.set b (.box 166 (U .u32 (mid zs o ws)))) := by
 refine ACall.of_body func317 rfl ntmps317 results317 rfl ?_
 iterate 2 refine AX ?_
 refine .p rfl (zG (zI 0)) ?_
 iterate 4 refine AX ?_
 refine .p rfl (zG (zI 0)) ?_
 iterate 11 refine AX ?_
 refine AWP.loopW (bpC b o n cp d zs H) (n) ⟨0, 0, (zs.drop o).take n, Nat.zero_le _, by simp; omega, (hz.drop _).take _, by omega, fun j hj => agZ hj, by simp [val], rfl, (Heap.set_self (by rw [aoU hn]; exact hb)).symm, rfl⟩ sX (hRa _) ?_
 rintro _ _ _ ⟨i, r, ws, hi, hw, hwl, hr, hgs, hv, rfl, rfl, hk⟩
 iterate 6 refine AX ?_
 refine AWP.cx rfl (fun hc12 => ?_) (fun hc12 => ?_)
 ·have hg := hgs (n - 1 - i) aA
  have hx := Limbs.getD hz (o + (n - 1 - i))
  have hml := afM (o := o) hw hn
  have hsh : r * 2 ^ 32 < 18446744073709551616 := by rw [show (2 : Nat) ^ 32 = 4294967296 by decide]; omega
  have hgm := Limbs.getD (aeD (o := o) hz hwl) (o + (n - 1 - i))
  obtain ⟨hf1, hf2⟩ := atZ hr hx hd2
  have hq : (r * 4294967296 + zs.getD (o + (n - 1 - i)) 0) / d % 2 ^ IntKind.u32.bits = (r * 4294967296 + zs.getD (o + (n - 1 - i)) 0) / d := bB hf1
  have hm2 := bT (r * 4294967296 + zs.getD (o + (n - 1 - i)) 0) hd
  iterate 20 refine AX ?_
  refine AWP.seqToL [(8, .int .u64 ((r * 4294967296 + zs.getD (o + (n - 1 - i)) 0 : Nat) : Int))] [0, 1, 5, 10, 11, 7] ?_ ?_
  ·-- region 6
   iterate 2 refine AX ?_
   refine .p rfl (qA (tm rfl) (zI 32) aA (by exact hsh)) ?_
   iterate 2 refine AX ?_
   refine .p rfl (abY (n - 1 - i) U239 Z166 (tm rfl) (tm rfl) aA aA) (.e rfl (yY G166 (tm rfl) (oS _ _ _) aA) ?_)
   refine AX ?_
   refine .p rfl (abD (tm rfl) (tm rfl) (hsh) aA) ?_
   iterate 2 refine AX ?_
   exact ⟨rfl, (zN rfl (by rw [beU aA aA, hg, ← aiS (k := 32) (cZ hx aC)]) sX), rfl⟩
  refine AWP.sub [(8, _), (0, _), (1, _), (5, _), (10, _), (11, _), (7, _)] sX ?_
  refine AWP.draw [(0, true), (1, true), (2, true), (3, true), (4, true), (5, true), (6, true), (7, true), (8, true), (9, true), (10, true), (11, true), (12, false), (13, true)] rfl aE ?_
  iterate 10 refine AX ?_
  refine .p rfl rfl (abP (tm rfl) (tm rfl) aA) (.p rfl rfl (abY (n - 1 - i) U239 Z166 (tm rfl) (tm rfl) aA aA) (.s0 rfl (yW Z166 (tm rfl) (tm rfl) (oS _ _ _) aA) ?_))
  rintro _ _ ⟨rfl, hH⟩
  obtain rfl := hH.symm
  try first | rw [sS] | rw [sU aB]
  iterate 9 refine AX ?_
  rw [hq]
  refine Round.mk (J := bpC b o n cp d zs H) ⟨i + 1, _, _, by omega, by simpa using hw, Limbs.set hwl hf1, hm2, fun j hj => by rw [getD_set_ne aA]; exact hgs j aA, bdH hd hw aA hn hg hv, rfl, by rw [axK aA aA], rfl⟩ sX (hRa _) aA
 iterate 14 refine AX ?_
 have hin : i = n := by omega
 subst hin
 rw [Nat.sub_self, cT, cT] at hv
 rw [← hv]
 refine ⟨?_, ws, hw, hwl, ?_, rfl⟩
 ·simp only [yE]; congr 1; rw [bL, gC, bB hr, bB]; simp only [IntKind.bits]; omega
 rw [bL, gD hd, cB hr]; rfl

end
section
open Go Go.RowKit
set_option maxRecDepth 100000

theorem cfE {s : Nat} (hv : 0 < v) (h : v * 2 ^ s < BIG) : s < 8192 ∧ yG v + s ≤ 8192 ∧ v < BIG := by
 have h1 : 2 ^ s ≤ v * 2 ^ s := Nat.le_mul_of_pos_left _ hv
 have h5 : v ≤ v * 2 ^ s := fE _ (bN aC)
 have h6 : v < BIG := aV h5 h
 obtain ⟨k, hk, hB⟩ : ∃ k, k = 8192 ∧ BIG = 2 ^ k := ⟨32 * 256, rfl, asT _ rfl⟩
 rw [hB] at h
 have h2 : s < k := (Nat.pow_lt_pow_iff_right (a := 2) aC).1 (aV h1 h)
 have h3 : v < 2 ^ (k - s) := by
  rw [show k = (k - s) + s by omega, bI] at h
  exact eT h
 have h4 := yP.2 h3
 exact ⟨by omega, by omega, h6⟩
theorem alY {s : Nat} (h : v * 2 ^ s < BIG) : v < BIG := aV (fE _ (bN aC)) h
theorem alR (s : Nat) : 4294967296 ^ (s / 32) * 2 ^ (s % 32) = 2 ^ s := by
 rw [show (4294967296 : Nat) = 2 ^ 32 by decide, ← dW, ← bI]
 congr 1; omega
theorem buS {m : Nat} (h : o + ws.length = m) : val (mid (List.replicate m 0) (0 + o) ws) = 4294967296 ^ o * val ws := by
 unfold mid
 rw [bZ, List.take_replicate, List.drop_replicate, aQ, qL, amS, qL, amS, bW, cY aA, dG, cI, bZ]
theorem cbX {s : Nat} (hv : v < 4294967296 ^ n) (hw : val ws = v * 2 ^ (s % 32) % 4294967296 ^ (n + 1)) : 4294967296 ^ (s / 32) * val ws = v * 2 ^ s := by
 have h1 : 2 ^ (s % 32) ≤ 2 ^ 31 := aZ aC aA
 have h2 : v * 2 ^ (s % 32) < 4294967296 ^ n * 4294967296 := Nat.mul_lt_mul_of_lt_of_le hv aA aC
 rw [hw, bB (by rw [bR]; exact h2), Nat.mul_left_comm, alR]

theorem bcF (xs : List Nat) (tl : Tail) (hx : Limbs xs) (hl : xs.length ≤ 1000000) (s : Nat) (hs : val xs * 2 ^ s < BIG) (hs2 : s < 1000000000) : Fn 272 [.slice 1 (U .u32 xs) tl, .int .i64 (s : Int)] (.tuple [aaN (val xs * 2 ^ s), .int .i64 0]) := by
 intro H
 have hB := alY hs
 have h256 := yK hB
 have hr := aaO xs
 have hrl := abC hx
 refine .of_body func272 rfl ntmps272 results272 rfl ?_
 iterate 2 refine AX ?_
 refine .p rfl (zG (aiB (sz := 1) (tl := .shared))) ?_
 refine .p rfl (zG (zI 0)) ?_
 iterate 7 refine AX ?_
 refine .p rfl (ajH (tm rfl) (zI 0)) ?_
 iterate 3 refine AX ?_
 refine .cx rfl (fun hc7 => ?_) (fun hc7 => ?_)
 ·omega
 iterate 3 refine AX ?_
 refine .e rfl (qQ U327 Z239 V239 rfl (tm rfl) (.inl rfl) ⟨rfl, rfl⟩) (.cl rfl C310 (evs1 rfl) (arE _ _ _ aB aB _) ?_)
 iterate 3 refine AX ?_
 refine .cx rfl (fun hc10 => ?_) (fun hc10 => ?_)
 ·omega
 iterate 3 refine AX ?_
 refine .cl rfl C314 (evs1 rfl) (acX _ _ aB aB _) (.p rfl (yO (tm rfl) (zI 0)) ?_)
 iterate 3 refine AX ?_
 refine .cx rfl (fun hc14 => ?_) (fun hc14 => ?_)
 ·iterate 2 refine AX ?_
  refine .p rfl (zG (aiB (sz := 1) (tl := .shared))) ?_
  refine .p rfl (zG (zI 0)) ?_
  iterate 6 refine AX ?_
  refine ⟨?_, rfl⟩
  rw [aaF aA, dQ]; rfl
 have hpos : 0 < val xs := eR (fun h => by have := aaG h; omega)
 obtain ⟨hs3, hs4, _⟩ := cfE hpos hs
 refine .seqTo 18 (.bool (false)) [0, 1, 4, 5] ?_ ?_
 ·-- region 7
  iterate 2 refine AX ?_
  refine .p rfl (qW (tm rfl) (zI 8192)) ?_
  refine AX ?_
  refine zD (t := 21) rfl (fun hg21 => ?_) (fun hg21 => ?_)
  ·iterate 8 refine AX ?_
   exact ⟨rfl, zO rfl (by (simp at hg21; omega)) sX, rfl⟩
  refine AX ?_
  refine .gs rfl rfl rfl aB (zB C271 (evs1 rfl) (bcH _ _ aB aB _)) ?_
  rintro _ _ ⟨rfl, hH⟩
  obtain rfl := hH.symm
  iterate 2 refine AX ?_
  refine .gp rfl rfl rfl aB (qW (tm rfl) (zI 8192)) ?_
  iterate 3 refine AX ?_
  exact ⟨rfl, zO rfl (by (simp; omega)) sX, rfl⟩
 refine .sub [(18, _), (0, _), (1, _), (4, _), (5, _)] sX ?_
 refine .cond_false (tm rfl) aD ?_
 iterate 6 refine AX ?_
 refine .cl rfl C311 (evs1 rfl) (qZ _ _ aB aB _) ?_
 iterate 6 refine AX ?_
 refine .p rfl (afK (tm rfl) (zI 32) aA aA) ?_
 iterate 3 refine AX ?_
 refine .p rfl (acF (tm rfl) (zI 1) aA) (.s rfl (yL (s / 32 + (zE (val xs)).length + 1) U239 typeInfo166 Z166 V166 (tm rfl) (tm rfl) aA aA aC aA) ?_)
 rintro _ _ ⟨b36, rfl, hb36, hH⟩
 obtain rfl := hH.symm
 iterate 7 refine AX ?_
 refine .p rfl (afK (tm rfl) (zI 32) aA aA) (.p rfl (awR (_) U239 Z166 (tm rfl) (tm rfl) rfl aA aA aA) ?_)
 iterate 2 refine AX ?_
 refine .p rfl (akR (tm rfl) (zI 32) aA) ?_
 refine .s rfl (zB call315 (evs3 rfl rfl rfl) (akM (zE (val xs)) .shared (zF _) aA b36 (0 + s / 32) _ _ (s % 32) (List.replicate (s / 32 + (zE (val xs)).length + 1) 0) (Limbs.rep aA) aG aA (bT _ aC) _ (oS _ _ _))) ?_
 rintro _ _ ⟨ws, hw, hwl, hv, hH⟩
 obtain rfl := hH.symm
 rw [sS]
 iterate 3 refine AX ?_
 rw [show s / 32 + (zE (val xs)).length + 1 - s / 32 = (zE (val xs)).length + 1 by omega] at hw hv
 have hmL := aeD (o := 0 + s / 32) (Limbs.rep (n := s / 32 + (zE (val xs)).length + 1) (x := 0) aA) hwl
 have hml : (mid (List.replicate (s / 32 + (zE (val xs)).length + 1) 0) (0 + s / 32) ws).length ≤ 1000000 := by rw [afM hw aG]; simp; omega
 refine .frzU (t := 6) rfl hb36 (by rw [afM hw aG]; simp) (aT _) (by simp only [zK]; omega) ?_
 rw [aX (by rw [afM hw aG]; simp)]
 iterate 2 refine AX ?_
 refine .cl rfl C311 (evs1 rfl) (qZ _ _ aB aB _) ?_
 refine AX ?_
 refine .p rfl (zG (zI 0)) ?_
 iterate 4 refine AX ?_
 refine ⟨?_, rfl⟩
 rw [zL] at hv
 rw [buS aA, cbX (qO.1 (aT _)) hv]; rfl

end
theorem bfU {P : Program} {cd : Code} {Q : Exit → Env → Heap → Prop} {env : Env} {H : Heap} {b : Bool} {t : Nat} (_h : env.get? t = some (.bool b)) (ht : b = true → AWP P n cd Q env H) (hf : b = false → AWP P n cd Q env H) : AWP P n cd Q env H := by
 grind
theorem byU (x r : Nat) : x &&& (2 ^ r - 1) = x % 2 ^ r := cW x r
def awC (r : Nat) : List Nat → List Nat
 | [] => []
 | x :: xs => (x + xs.getD 0 0 * 4294967296) / 2 ^ r % 4294967296 :: awC r xs
theorem aoQ (r : Nat) : ∀ xs : List Nat, (awC r xs).length = xs.length
 | [] => rfl
 | x :: xs => by rw [awC, aU, aU, aoQ r xs]
theorem atX (r : Nat) : ∀ xs : List Nat, Limbs (awC r xs)
 | [] => Limbs.nil
 | x :: xs => Limbs.mk (bT _ aC) (atX r xs)
theorem bgY (r : Nat) (h : i < xs.length) : (awC r xs).getD i 0 = (xs.getD i 0 + xs.getD (i + 1) 0 * 4294967296) / 2 ^ r % 4294967296 := by
 induction xs generalizing i with
 | nil => simp at h
 | cons x xs ih =>
  rw [awC]
  cases i with
  | zero => rw [cG, cG, dB]
  | succ i => rw [dB, dB, dB]; exact ih (by simpa using h)
theorem bvI {x y W P D : Nat} (hr : 2 ^ r = P) (hB : 4294967296 = P * D) (hx : x < 4294967296) :
  (x + 4294967296 * (y + 4294967296 * W)) / P = (x + y * 4294967296) / P % 4294967296 + 4294967296 * ((y + 4294967296 * W) / P) := by
 have hP : 0 < P := by rw [← hr]; exact bN aC
 have hD : 0 < D := by
  rcases bF D with h | h
  ·grind
  exact h
 have hxD : x / P < D := by rw [bO hP, bL, ← hB]; exact hx
 have e1 : ∀ Z, (x + 4294967296 * Z) / P = x / P + D * Z := fun Z => by rw [hB, bJ, fT _ _ hP]
 rw [e1, bL y, e1]
 generalize hV : y + 4294967296 * W = V
 have ht : V % P = y % P := by rw [← hV, hB, bJ, dL]
 have hm := bT y hP
 have e2 : D * V = D * (y % P) + 4294967296 * (V / P) := by
  rw [← ht]
  conv => lhs; rw [← cJ V P]
  rw [cC, hB, ← bJ, bL D P]; omega
 have e3 : D * y = D * (y % P) + 4294967296 * (y / P) := by
  conv => lhs; rw [← cJ y P]
  rw [cC, hB, ← bJ, bL D P]; omega
 have hlt : x / P + D * (y % P) < 4294967296 := by
  have h1 : D * (y % P + 1) ≤ D * P := bX _ hm
  rw [cC, bL D P, ← hB] at h1
  omega
 rw [e2, e3, ← eD, ← eD, dL, bB hlt]
theorem awB {r : Nat} (hr : r ≤ 32) : ∀ {xs : List Nat}, Limbs xs → val (awC r xs) = val xs / 2 ^ r
 | [], _ => by simp [awC, val]
 | x :: xs, h => by
  obtain ⟨hx, hxs⟩ := h.cons
  rw [awC, val, val, awB hr hxs]
  have hB : 4294967296 = 2 ^ r * 2 ^ (32 - r) := by rw [← bI, show r + (32 - r) = 32 by omega]
  cases xs with
  | nil =>
   simp only [val, List.getD_nil, dQ, dG, cI, Nat.zero_div]
   rw [bB]
   exact aV (dF _ _) hx
  | cons y ys =>
   rw [cG, val]
   exact (bvI rfl hB hx).symm
theorem cbW (hl : A.length = Z.length) (hi : i < Z.length) : (A.take i ++ Z.drop i).set i (A.getD i 0) = A.take (i + 1) ++ Z.drop (i + 1) := by
 have hA : i < A.length := by omega
 rw [List.set_append_right _ _ (by rw [aS]; omega), aS, show i - min i A.length = 0 by omega, cA hi, List.set_cons_zero, ← cS hA, aQ, aR, bA hA]
 rfl
theorem bpA {j : Nat} (hl : A.length = Z.length) (hi : i ≤ Z.length) (hj : i ≤ j) : (A.take i ++ Z.drop i).getD j 0 = Z.getD j 0 := by
 grind
theorem bdE (hl : A.length = Z.length) (hi : i ≤ Z.length) : (A.take i ++ Z.drop i).length = Z.length := by
 grind
theorem bmZ {ys : List Nat} {m : Nat} (h : ys.length = m) : (List.replicate m 0).take 0 ++ ys.take m ++ (List.replicate m 0).drop (0 + min ys.length m) = ys := by
 grind
theorem afX (h : k ≤ xs.length) : val xs = val (xs.take k) + 4294967296 ^ k * val (xs.drop k) := by
 have := qL (xs.take k) (xs.drop k)
 rw [cV, aS, cY h] at this
 exact this
theorem amT (hx : Limbs xs) (h : k ≤ xs.length) : val (xs.take k) < 4294967296 ^ k := by
 have := afW (hx.take k)
 rwa [aS, cY h] at this
theorem amC (hx : Limbs xs) (h : k ≤ xs.length) : val (xs.drop k) = val xs / 4294967296 ^ k := by
 have h1 := afX h
 have h2 := amT hx h
 rw [h1, fT _ _ (bN aC), cB h2, bZ]
theorem cbV {s : Nat} (h : s / 32 ≤ (zE v).length) : val (awC (s % 32) ((zE v).drop (s / 32))) = v / 2 ^ s := by
 rw [awB aA ((zF v).drop _), amC (zF v) h, zL, bY, alR]
theorem bvH {s : Nat} (h : (zE v).length ≤ s / 32) : v < 2 ^ s := by
 have h1 := qO.1 h
 have h2 : 4294967296 ^ (s / 32) ≤ 2 ^ s := by
  rw [← alR]
  exact fE _ (bN aC)
 omega
theorem biH {s : Nat} (h : s / 32 < (zE v).length) : v % 2 ^ s = 0 ↔ yT ((zE v).take (s / 32)) = 0 ∧ (zE v).getD (s / 32) 0 % 2 ^ (s % 32) = 0 := by
 have h1 := afX (dS h)
 have h2 := amT (zF v) (dS h)
 rw [zL] at h1
 have e : v % 2 ^ s = val ((zE v).take (s / 32)) + 4294967296 ^ (s / 32) * ((zE v).getD (s / 32) 0 % 2 ^ (s % 32)) := by
  rw [← alR, Nat.mod_mul]
  have hd : (zE v).drop (s / 32) = (zE v).getD (s / 32) 0 :: (zE v).drop (s / 32 + 1) := by
   rw [cA h, aR, bA h]; rfl
  have h3 : v / 4294967296 ^ (s / 32) = (zE v).getD (s / 32) 0 + 4294967296 * val ((zE v).drop (s / 32 + 1)) := by
   have := amC (zF v) (dS h)
   rw [hd, zL, val] at this
   exact this.symm
  have h4 : v % 4294967296 ^ (s / 32) = val ((zE v).take (s / 32)) := by
   conv => lhs; rw [h1]
   rw [dL, bB h2]
  rw [h3, h4]
  congr 2
  rw [show (4294967296 : Nat) = 2 ^ (s % 32) * 2 ^ (32 - s % 32) by rw [← bI, show s % 32 + (32 - s % 32) = 32 by omega], bJ, dL]
 rw [e]
 have hp : 0 < 4294967296 ^ (s / 32) := bN aC
 constructor
 ·intro h
  refine ⟨aaG aA, ?_⟩
  have h0 : 4294967296 ^ (s / 32) * ((zE v).getD (s / 32) 0 % 2 ^ (s % 32)) = 0 := by omega
  rcases Nat.mul_eq_zero.1 h0 with h5 | h5
  ·omega
  exact h5
 rintro ⟨h5, h6⟩
 rw [aaF h5, h6]; rfl
section
open Go Go.RowKit
set_option maxRecDepth 100000

theorem cdF {s : Nat} (h : s / 32 < (zE v).length) (hg : decide (((0 : Nat) : Int) < (yT ((zE v).take (s / 32)) : Int)) = false) : decide (¬ (((((zE v).drop (s / 32)).getD 0 0 &&& (1 * 2 ^ (s % 32) - 1) : Nat) : Int) = ((0 : Nat) : Int))) = decide (v % 2 ^ s ≠ 0) := by
 have e : ((zE v).drop (s / 32)).getD 0 0 = (zE v).getD (s / 32) 0 := by
  rw [aR, aR, eG]; rfl
 have hg2 : yT ((zE v).take (s / 32)) = 0 := by simpa using hg
 have hl := biH h
 rw [aY, e, cP, byU]
 constructor
 ·intro h1 h2; exact h1 (by rw [(hl.1 h2).2])
 intro h1 h2; exact h1 (hl.2 ⟨hg2, by omega⟩)
theorem cdH : decide (((0 : Nat) : Int) < ((zE v).length : Int)) = decide (v ≠ 0) := by
 rw [aY]
 rcases bF v with h | h
 ·subst h; rw [aaR]; simp
 rw [qJ h]; simp; omega

def cfD (v s : Nat) (b : Nat) (H : Heap) : Nat → Env → Heap → Prop := fun k env H1 => ∃ i : Nat, i ≤ ((zE v).length - s / 32) ∧ env = [(8, .bool (decide (v % 2 ^ s ≠ 0))), (9, .mslice (some ⟨b, 0, none⟩) ((zE v).length - s / 32) ((zE v).length - s / 32)), (10, .int .i64 ((s % 32 : Nat) : Int)), (66, .int .i64 ((((zE v).length - s / 32) : Nat) : Int)), (67, .int .i64 (i : Int))] ∧ H1 = H.set b (.box 166 (U .u32 ((awC (s % 32) ((zE v).drop (s / 32))).take i ++ ((zE v).drop (s / 32)).drop i))) ∧ k = ((zE v).length - s / 32) - i

theorem buF (xs : List Nat) (tl : Tail) (hx : Limbs xs) (hl : xs.length ≤ 1000000) (s : Nat) (hs : val xs < BIG) (hs2 : s < 1000000000) (H : Heap) : ACall prog 276 [.slice 1 (U .u32 xs) tl, .int .i64 (s : Int)] H (fun y H' => y = .tuple [aaN (val xs / 2 ^ s), .bool (decide (val xs % 2 ^ s ≠ 0)), .int .i64 0] ∧ H' = H) := by
 have h256 := yK hs
 have hr := aaO xs
 have hrl := abC hx
 refine ACall.of_body func276 rfl ntmps276 results276 rfl ?_
 iterate 2 refine AX ?_
 refine .p rfl (zG (aiB (sz := 1) (tl := .shared))) ?_
 refine AX ?_
 refine .p rfl (zG (zI 0)) ?_
 iterate 7 refine AX ?_
 refine .p rfl (ajH (tm rfl) (zI 0)) ?_
 iterate 3 refine AX ?_
 refine AWP.cx rfl (fun hc13 => ?_) (fun hc13 => ?_)
 ·omega
 iterate 3 refine AX ?_
 refine .e rfl (qQ U327 Z239 V239 rfl (tm rfl) (.inl rfl) ⟨rfl, rfl⟩) (.cl rfl C310 (evs1 rfl) (arE _ _ _ aB aB _) ?_)
 iterate 3 refine AX ?_
 refine AWP.cx rfl (fun hc16 => ?_) (fun hc16 => ?_)
 ·omega
 iterate 6 refine AX ?_
 refine .cl rfl C311 (evs1 rfl) (qZ _ _ aB aB _) ?_
 iterate 3 refine AX ?_
 refine AWP.seqToL [(7, .int .i64 ((min (s / 32) (zE (val xs)).length : Nat) : Int))] [0, 1, 4, 5, 6] ?_ ?_
 ·-- region 6
  iterate 2 refine AX ?_
  refine .p rfl (afK (tm rfl) (zI 32) aA aA) ?_
  iterate 5 refine AX ?_
  exact ⟨rfl, (zN rfl (by congr 1; simp only [bnU]; first | omega | (split <;> omega)) sX), rfl⟩
 refine AWP.sub [(7, _), (0, _), (1, _), (4, _), (5, _), (6, _)] sX ?_
 refine AX ?_
 generalize hK : min (s / 32) (zE (val xs)).length = K
 generalize val xs = v at *
 have htk := (zF v).take K
 have htl : ((zE v).take K).length ≤ 1000000 := by simp; omega
 have hp2 : 1 ≤ 2 ^ (s % 32) := bN aC
 have hp3 : 2 ^ (s % 32) ≤ 2147483648 := bE (aZ aC (by omega : s % 32 ≤ 31)) aC
 iterate 3 refine AX ?_
 refine .p rfl (adJ (_) U239 Z166 (tm rfl) (tm rfl) rfl aA) (.cl rfl C314 (evs1 rfl) (acX _ _ aB aB _) (.p rfl (qW (tm rfl) (zI 0)) ?_))
 iterate 9 refine AX ?_
 refine .s rfl (yL ((zE v).length - K) U239 typeInfo166 Z166 V166 (tm rfl) (tm rfl) aA aA aC aA) ?_
 rintro _ _ ⟨b36, rfl, hb36, hH⟩
 obtain rfl := hH.symm
 iterate 8 refine AX ?_
 refine .p rfl (alN (_) U239 Z166 (tm rfl) (tm rfl) rfl aA) (.e rfl (amV U239 Z166 (tm rfl) (tm rfl) (oS _ _ _) (by (simp; done))) ?_)
 try first | rw [sS] | rw [sU aB]
 iterate 3 refine AX ?_
 rw [bmZ aF]
 iterate 2 refine AX ?_
 refine .p rfl (akR (tm rfl) (zI 32) aA) ?_
 iterate 4 refine AX ?_
 refine AWP.seqTo 52 (.bool (decide ((zE v).length ≤ s / 32))) [4, 5, 6, 8, 9, 10] ?_ ?_
 ·-- region 11
  iterate 3 refine AX ?_
  refine .p rfl (yO (tm rfl) (zI 0)) ?_
  refine AX ?_
  refine zD (t := 47) rfl (fun hg47 => ?_) (fun hg47 => ?_)
  ·iterate 6 refine AX ?_
   exact ⟨rfl, zO rfl (by (simp at hg47; simp; omega)) sX, rfl⟩
  iterate 2 refine AX ?_
  refine .gp rfl rfl rfl aB (afK (tm rfl) (zI 32) aA aA) ?_
  iterate 3 refine AX ?_
  exact ⟨rfl, zO rfl (by (simp at hg47; simp; omega)) sX, rfl⟩
 refine AWP.sub [(52, _), (4, _), (5, _), (6, _), (8, _), (9, _), (10, _)] sX ?_
 refine AWP.cx rfl (fun hc52 => ?_) (fun hc52 => ?_)
 ·refine AX ?_
  refine AWP.frzU (t := 9) rfl hb36 (by simp <;> omega) (aT _) (by simp only [zK]; omega) ?_
  iterate 2 refine AX ?_
  refine .p rfl (zG (aiB (sz := 1) (tl := .shared))) ?_
  refine AX ?_
  refine .p rfl (zG (zI 0)) ?_
  iterate 5 refine AX ?_
  refine ⟨?_, rfl⟩
  have hle : (zE v).length ≤ s / 32 := by omega
  have hvs := bvH hle
  rw [aX aA, ahQ, cB hvs, bB hvs, cdH]; rfl
 have hK2 : K = s / 32 := by omega
 subst hK2
 have hlt : s / 32 < (zE v).length := by omega
 have hli := biH hlt
 have hx00 := Limbs.getD ((zF v).drop (s / 32)) 0
 have hAl : (awC (s % 32) ((zE v).drop (s / 32))).length = ((zE v).drop (s / 32)).length := aoQ _ _
 have hZl : ((zE v).drop (s / 32)).length = ((zE v).length - s / 32) := aW
 iterate 2 refine AX ?_
 refine AWP.seqTo 8 (.bool (decide (v % 2 ^ s ≠ 0))) [4, 5, 6, 9, 10] ?_ ?_
 ·-- region 13
  refine bfU (t := 8) rfl (fun hg8 => ?_) (fun hg8 => ?_)
  ·refine AWP.draw [(0, true), (1, true), (2, true), (3, true), (4, true), (5, true), (6, true), (7, true), (8, true), (9, true), (10, true), (11, true)] rfl aE ?_
   iterate 13 refine AX ?_
   exact ⟨rfl, zO rfl (by (simp at hg8; simp; omega)) sX, rfl⟩
  refine AWP.draw [(0, true), (1, true), (2, true), (3, true), (5, true), (6, true), (7, true), (4, false), (8, true), (9, true), (10, true), (11, true)] rfl aE ?_
  iterate 3 refine AX ?_
  refine .gp rfl rfl rfl rfl aB (yI (0) U239 Z166 (tm rfl) (zI 0) aA aA) ?_
  refine AX ?_
  refine .gp rfl rfl rfl rfl aB (aqT (zI 1) (tm rfl) aA aA) (.gp rfl rfl rfl rfl aB (beD (tm rfl) (zI 1) aA aA) (.gs rfl rfl rfl rfl aB (yY G166 (tm rfl) (oS _ _ _) aA) ?_))
  rintro _ _ ⟨rfl, hH⟩
  obtain rfl := hH.symm
  refine .gp rfl rfl rfl rfl aB (auM (tm rfl) (tm rfl) aB aA) (.gp rfl rfl rfl rfl aB (abT (tm rfl) (zI 0)) ?_)
  iterate 3 refine AX ?_
  exact ⟨rfl, zO rfl (cdF hlt hg8) sX, rfl⟩
 refine AWP.sub [(8, _), (4, _), (5, _), (6, _), (9, _), (10, _)] sX ?_
 iterate 5 refine AX ?_
 refine .p rfl (zM (zI 0)) ?_
 iterate 3 refine AX ?_
 refine AWP.loopW (cfD v s b36 H) (((zE v).length - s / 32)) ⟨0, Nat.zero_le _, rfl, rfl, rfl⟩ sX (hRa _) ?_
 rintro _ _ _ ⟨i, hi, rfl, rfl, hk⟩
 iterate 6 refine AX ?_
 refine AWP.cx rfl (fun hc68 => ?_) (fun hc68 => ?_)
 ·have hi2 : i < ((zE v).length - s / 32) := by omega
  have hrl2 := bdE hAl (by omega : i ≤ ((zE v).drop (s / 32)).length)
  have hg0 := bpA hAl (by omega : i ≤ ((zE v).drop (s / 32)).length) (aT i)
  have hg1 := bpA hAl (by omega : i ≤ ((zE v).drop (s / 32)).length) (by omega : i ≤ i + 1)
  have hx0 := Limbs.getD ((zF v).drop (s / 32)) i
  have hx1 := Limbs.getD ((zF v).drop (s / 32)) (i + 1)
  iterate 14 refine AX ?_
  refine .p rfl (yI (i) U239 Z166 (tm rfl) (tm rfl) aA aA) (.e rfl (yY G166 (tm rfl) (oS _ _ _) aA) ?_)
  iterate 4 refine AX ?_
  refine AWP.seqToL [(12, .int .u64 ((((zE v).drop (s / 32)).getD i 0 + ((zE v).drop (s / 32)).getD (i + 1) 0 * 4294967296 : Nat) : Int))] [8, 9, 10, 66, 67, 11] ?_ ?_
  ·iterate 3 refine AX ?_
   refine .p rfl (acF (tm rfl) (zI 1) aA) ?_
   iterate 5 refine AX ?_
   refine AWP.cx rfl (fun hc79 => ?_) (fun hc79 => ?_)
   ·iterate 4 refine AX ?_
    refine .p rfl (acF (tm rfl) (zI 1) aA) (.p rfl (yI (i + 1) U239 Z166 (tm rfl) (tm rfl) aA aA) (.e rfl (yY G166 (tm rfl) (oS _ _ _) aA) ?_))
    refine AX ?_
    refine .p rfl (qA (tm rfl) (zI 32) aA (by rw [show (2 : Nat) ^ 32 = 4294967296 by decide]; omega)) (.p rfl (abD (tm rfl) (tm rfl) aA aA) ?_)
    iterate 2 refine AX ?_
    exact ⟨rfl, (zN rfl (by (rw [hg0, hg1, beS (k := 32) (cZ hx0 aC)] <;> rfl)) sX), rfl⟩
   refine AX ?_
   exact ⟨rfl, (zN rfl (by (rw [hg0, agB (i := i + 1) aA, dQ] <;> rfl)) sX), rfl⟩
  refine AWP.sub [(12, _), (8, _), (9, _), (10, _), (66, _), (67, _), (11, _)] sX ?_
  iterate 5 refine AX ?_
  refine .p rfl (yQ (tm rfl) (tm rfl) aA) ?_
  refine AX ?_
  refine .p rfl (yI (i) U239 Z166 (tm rfl) (tm rfl) aA aA) (.e0 (yW Z166 (tm rfl) (tm rfl) (oS _ _ _) aA) ?_)
  try first | rw [sS] | rw [sU aB]
  iterate 4 refine AX ?_
  refine .p rfl (acF (tm rfl) (zI 1) aA) ?_
  iterate 3 refine AX ?_
  refine Round.mk (J := cfD v s b36 H) ⟨i + 1, by omega, rfl, by rw [← cbW hAl aA, bgY _ aA]; rfl, rfl⟩ sX (hRa _) aA
 iterate 6 refine AX ?_
 have hi3 : i = ((zE v).length - s / 32) := by omega
 refine AWP.frzU (t := 9) rfl hb36 (by rw [bdE hAl aA]; omega) (aT _) (by simp only [zK]; omega) ?_
 rw [aX (l := _ ++ _) (by rw [bdE hAl aA]; omega), aX (l := awC (s % 32) ((zE v).drop (s / 32))) aA, dX (l := ((zE v).drop (s / 32))) aA, bM]
 have hAL := atX (s % 32) ((zE v).drop (s / 32))
 iterate 2 refine AX ?_
 refine .cl rfl C311 (evs1 rfl) (qZ _ _ aB aA _) ?_
 iterate 3 refine AX ?_
 refine .p rfl (zG (zI 0)) ?_
 iterate 4 refine AX ?_
 refine ⟨?_, rfl⟩
 rw [cbV aA]; rfl

end
section
open Go Go.RowKit
set_option maxRecDepth 100000

theorem alZ (h : n < BIG) : (zE n).length ≤ 1000000 := bE (yK h) aC
theorem addB (a b : Nat) (h : a + b < BIG) : Fn 309 [aaN a, aaN b] (.tuple [aaN (a + b), .int .i64 0]) := by
 intro H
 have := buL (zE a) .shared (zF a) (alZ aA) (zE b) .shared (zF b) (alZ aA) H
 rwa [zL, zL, cdU, azK h] at this
theorem mulB (a b : Nat) (ha : a < BIG) (hb : b < BIG) (h : a * b < BIG) : Fn 269 [aaN a, aaN b] (.tuple [aaN (a * b), .int .i64 0]) := by
 intro H
 have := buH (zE a) .shared (zF a) (alZ ha) (zE b) .shared (zF b) (alZ hb) H
 rwa [zL, zL, chJ, azK ⟨ha, hb, h⟩] at this
theorem shlB (a s : Nat) (h : a * 2 ^ s < BIG) (hs : s < 1000000000) : Fn 272 [aaN a, .int .i64 (s : Int)] (.tuple [aaN (a * 2 ^ s), .int .i64 0]) := by
 intro H
 have := bcF (zE a) .shared (zF a) (alZ (alY h)) s (by rwa [zL]) hs H
 rwa [zL] at this
theorem shrB (a s : Nat) (h : a < BIG) (hs : s < 1000000000) : Fn 276 [aaN a, .int .i64 (s : Int)] (.tuple [aaN (a / 2 ^ s), .bool (decide (a % 2 ^ s ≠ 0)), .int .i64 0]) := by
 intro H
 have := buF (zE a) .shared (zF a) (alZ h) s (by rwa [zL]) hs H
 rwa [zL] at this
theorem lenB (a : Nat) (h : a < BIG) : Fn 271 [aaN a] (.int .i64 (yG a : Int)) := by
 intro H
 have := bcH (zE a) .shared (zF a) (alZ h) H
 rwa [zL] at this
theorem cmpB (a b : Nat) (ha : a < BIG) (hb : b < BIG) : Fn 316 [aaN a, aaN b] (.int .i64 (ayC a b)) := by
 intro H
 have := buJ (zE a) .shared (zF a) (alZ ha) (zE b) .shared (zF b) (alZ hb) H
 rwa [zL, zL] at this
def cfP (b n : Nat) (H : Heap) : Nat → Env → Heap → Prop := fun k env H1 => ∃ i : Nat, i ≤ n ∧ env = [(0, .int .i64 (b : Int)), (6, aaN (b ^ i)), (7, .int .i64 0), (30, .int .i64 (n : Int)), (31, .int .i64 (i : Int))] ∧ H = H1 ∧ k = n - i

theorem asO (b n : Nat) (hb : 2 ≤ b) (hb2 : b ≤ 1000000) (hn2 : n < 1000000000) (h : b ^ n < BIG) (H : Heap) : ACall prog 268 [.int .i64 (b : Int), .int .i64 (n : Int)] H (fun y H' => y = .tuple [aaN (b ^ n), .int .i64 0] ∧ H' = H) := by
 refine ACall.of_body func268 rfl ntmps268 results268 rfl ?_
 refine .seq (.region ?_)
 refine .p rfl (zG (aiB (sz := 1) (tl := .shared))) ?_
 refine .p rfl (zG zH) (.nil ?_)
 refine Next.go ?_
 refine .seq ?_
 refine AWP.seqTo 17 (.bool (false)) [0, 1, 4, 5] ?_ ?_
 ·-- region 1
  refine .region (.mv rfl rfl (.p rfl (ajH (tm rfl) zH) (.mv rfl rfl ?_)))
  refine zD (t := 10) rfl (fun hg10 => ?_) (fun hg10 => ?_)
  ·refine .gn rfl rfl rfl aB (.gn rfl rfl rfl aB (.p rfl (yM (tm rfl) aB yH) (.mv rfl rfl (.gn rfl rfl rfl aD (.gn rfl rfl rfl aD (.p rfl (yM (tm rfl) aD yH) ?_))))))
   refine AX ?_
   exact ⟨rfl, zO rfl (by (simp at hg10; omega)) sX, rfl⟩
  iterate 4 refine AX ?_
  refine zD (t := 14) rfl (fun hg14 => ?_) (fun hg14 => ?_)
  ·iterate 4 refine AX ?_
   exact ⟨rfl, zO rfl (by (simp at hg14; omega)) sX, rfl⟩
  iterate 4 refine AX ?_
  exact ⟨rfl, zO rfl aD sX, rfl⟩
 refine AWP.sub [(17, _), (0, _), (1, _), (4, _), (5, _)] sX ?_
 refine AWP.cond_false (tm rfl) aD ?_
 iterate 4 refine AX ?_
 refine .e rfl (qQ U239 Z166 V166 rfl (zI 1) (.inl rfl) ⟨rfl, rfl⟩) ?_
 iterate 5 refine AX ?_
 refine AWP.seqTo 19 (.bool (false)) [0, 1, 4, 5, 6] ?_ ?_
 ·-- region 4
  iterate 4 refine AX ?_
  refine zD (t := 22) rfl (fun hg22 => ?_) (fun hg22 => ?_)
  ·iterate 5 refine AX ?_
   exact ⟨rfl, zO rfl (by (simp at hg22; omega)) sX, rfl⟩
  iterate 5 refine AX ?_
  exact ⟨rfl, zO rfl aD sX, rfl⟩
 refine AWP.sub [(19, _), (0, _), (1, _), (4, _), (5, _), (6, _)] sX ?_
 refine AWP.cond_false (tm rfl) aD ?_
 iterate 7 refine AX ?_
 refine AWP.cond (tm rfl) (fun hc26 => ?_) (fun hc26 => ?_)
 ·try simp only [aO] at hc26
  omega
 try simp only [aM, dK] at hc26
 iterate 4 refine AX ?_
 refine AWP.weakv (aaN (b ^ 0)) (t := 6) rfl (.slice _ _ _) ?_
 iterate 12 refine AX ?_
 refine AWP.loopW (cfP b n H) (n) ⟨0, Nat.zero_le _, rfl, rfl, rfl⟩ sX (hRa _) ?_
 rintro _ _ _ ⟨i, hi, rfl, rfl, hk⟩
 iterate 6 refine AX ?_
 refine AWP.cond (tm rfl) (fun hc32 => ?_) (fun hc32 => ?_)
 ·try simp only [aO] at hc32
  have hle : b ^ (i + 1) ≤ b ^ n := aZ aA aA
  have hp : b ^ i * b < BIG := aV hle h
  have hp0 : b ^ i ≤ b ^ n := aZ aA aA
  have hbB : b < BIG := aV hb2 (by unfold BIG; decide +kernel)
  have hiB : b ^ i < BIG := by omega
  iterate 9 refine AX ?_
  refine .cl rfl C230 (evs1 rfl) (apG _ aA _) (.cl rfl C269 (evs2 rfl rfl) (mulB _ _ aB aB aB _) ?_)
  iterate 13 refine AX ?_
  refine AWP.cond_false (tm rfl) aD ?_
  iterate 8 refine AX ?_
  refine Round.mk (J := cfP b n H) ⟨i + 1, by omega, rfl, rfl, rfl⟩ sX (hRa _) aA
 try simp only [aM, cH] at hc32
 iterate 13 refine AX ?_
 refine Ret.go (.cons (.tmp _ _ rfl) (.cons (.tmp _ _ rfl) .nil)) _ (hRa _) ?_
 refine ⟨?_, rfl⟩
 rw [show i = n by omega]; rfl

end
section
open Go Go.RowKit
set_option maxRecDepth 100000

theorem baR (hn : ws.length = n) (ho : o ≤ zs.length) : ((mid zs o ws).drop o).take n = ws := by
 unfold mid
 have e : (zs.take o).length = o := by rw [aS]; omega
 rw [aQ, List.drop_append_of_le_length aA, dX aA, cF, eY aA, aX aA]
theorem bmY (h : r ≤ xs.length) : (List.replicate r 0).take 0 ++ xs.take r ++ (List.replicate r 0).drop (0 + min xs.length r) = xs.take r := by
 rw [dX aG]; simp
theorem cgQ {a : Nat} (h : ayC a b < 0) : a < b := by
 unfold ayC at h
 split at h
 ·assumption
 split at h <;> simp at h
theorem cgR {a : Nat} (h : ¬ ayC a b < 0) : b ≤ a := by
 unfold ayC at h
 split at h
 ·simp at h
 omega
theorem cdI (h : (zE b).length = 1) : zE b = [b] ∧ 0 < b ∧ b < 4294967296 := by
 have h0 : 0 < b := by
  rcases bF b with h1 | h1
  ·rw [h1, aaR] at h; simp at h
  exact h1
 have h1 := qO.1 (Nat.le_of_eq h)
 refine ⟨?_, h0, by omega⟩
 rw [qJ h0, show b / 4294967296 = 0 by omega, bB aA]; rfl

theorem bjG (xs : List Nat) (tl : Tail) (hx : Limbs xs) (hl : xs.length ≤ 1000000) (H : Heap) : ACall prog 278 [.slice 1 (U .u32 xs) tl] H (fun y H' => ∃ b : Nat, H.objs b = none ∧ y = .mslice (some ⟨b, 0, none⟩) (zE (val xs)).length (zE (val xs)).length ∧ H' = H.set b (.box 166 (U .u32 (zE (val xs))))) := by
 have hr := aaO xs
 have hrl := abC hx
 refine .of_body func278 rfl ntmps278 results278 rfl ?_
 iterate 2 refine AX ?_
 refine .p rfl (zG (aiB (sz := 1) (tl := .full))) ?_
 iterate 5 refine AX ?_
 refine .cl rfl C314 (evs1 rfl) (acX _ _ aB aB _) (.s rfl (yL (_) U239 typeInfo166 Z166 V166 (tm rfl) (tm rfl) rfl rfl aC aA) ?_)
 rintro _ _ ⟨b6, rfl, hb6, hH⟩
 obtain rfl := hH.symm
 iterate 7 refine AX ?_
 refine .e rfl (amV U239 Z166 (tm rfl) (tm rfl) (oS _ _ _) (by (simp; done))) ?_
 try first | rw [sS] | rw [sU aB]
 iterate 10 refine AX ?_
 rw [bmY hr, adS hx, hrl]
 exact ⟨b6, hb6, rfl, rfl⟩

theorem cutB (a : Nat) (h : (zE a).length ≤ 1000000) : Fn 311 [aaN a] (aaN a) := by
 intro H
 have := qZ (zE a) .shared (zF a) h H
 rwa [zL] at this

end
section
open Go Go.RowKit
set_option maxRecDepth 100000

def bhE (b n c : Nat) (zs : List Nat) (H : Heap) : Nat → Env → Heap → Prop := fun k env H1 => ∃ i : Nat, i ≤ n ∧ yT (zs.take i) = yT (zs.take n) ∧ env = [(0, .mslice (some ⟨b, 0, none⟩) n c), (3, .int .i64 (i : Int))] ∧ H = H1 ∧ k = i

theorem azF (b n c : Nat) (zs : List Nat) (hz : Limbs zs) (hn : n ≤ zs.length) (hn2 : n ≤ 1000000) (hc : n ≤ c) (H : Heap) (hb : H.objs b = some (.box 166 (U .u32 zs))) : ACall prog 314 [.mslice (some ⟨b, 0, none⟩) n c] H (fun y H' => y = .int .i64 (yT (zs.take n) : Int) ∧ H' = H) := by
 refine ACall.of_body func314 rfl ntmps314 results314 rfl ?_
 iterate 14 refine AX ?_
 refine AWP.loopW (bhE b n c zs H) (n) ⟨n, aT _, rfl, rfl, rfl, rfl⟩ sX (hRa _) ?_
 rintro _ _ _ ⟨i, hi, hr, rfl, rfl, hk⟩
 refine AX ?_
 refine AWP.seqTo 15 (.bool (decide (0 < (i : Int)) && decide (((zs.getD (i - 1) 0 : Nat) : Int) = 0))) [0, 3] ?_ ?_
 ·-- region 2
  iterate 4 refine AX ?_
  refine zD (t := 8) rfl (fun hg8 => ?_) (fun hg8 => ?_)
  ·have hh8 := hg8; try simp only [aO] at hh8
   iterate 3 refine AX ?_
   refine .gp rfl rfl rfl aB (yI (i - 1) U239 Z166 (tm rfl) (tm rfl) aA aA) (.gs rfl rfl rfl aB (yY G166 (tm rfl) aB aA) ?_)
   rintro _ _ ⟨rfl, hH⟩
   obtain rfl := hH.symm
   refine .gp rfl rfl rfl aB (yO (tm rfl) (zI 0)) ?_
   iterate 2 refine AX ?_
   exact ⟨rfl, zO rfl aH sX, rfl⟩
  have hh8 := hg8; try simp only [aM, cH] at hh8
  iterate 8 refine AX ?_
  exact ⟨rfl, zO rfl aH sX, rfl⟩
 refine AWP.sub [(15, _), (0, _), (3, _)] sX ?_
 refine AWP.cx rfl (fun hc15 => ?_) (fun hc15 => ?_)
 ·simp only [bK, aO] at hc15
  iterate 10 refine AX ?_
  have hs := acD (xs := zs) (k := i - 1) aA
  rw [show i - 1 + 1 = i by omega, aJ] at hs
  refine Round.mk (J := bhE b n c zs H) ⟨i - 1, by omega, by rw [← hs, hr], rfl, rfl, rfl⟩ (zJ rfl (zN rfl (by rw [show ((i : Int) - 1) = ((i - 1 : Nat) : Int) by omega]) yJ)) (hRa _) aA
 simp only [bU, aM] at hc15
 iterate 13 refine AX ?_
 refine ⟨?_, rfl⟩
 have hq : i = yT (zs.take n) := by
  rcases bF i with h0 | h0
  ·subst h0; rw [← hr]; rfl
  have hs := acD (xs := zs) (k := i - 1) aA
  rw [show i - 1 + 1 = i by omega, aI, hr] at hs
  exact hs.symm
 rw [← hq]; rfl

theorem bmV (b n c : Nat) (zs : List Nat) (hz : Limbs zs) (hn : n ≤ zs.length) (hn2 : n ≤ 1000000) (hc : n ≤ c) (H : Heap) (hb : H.objs b = some (.box 166 (U .u32 zs))) : ACall prog 311 [.mslice (some ⟨b, 0, none⟩) n c] H (fun y H' => y = .mslice (some ⟨b, 0, none⟩) (yT (zs.take n)) c ∧ H' = H) := by
 have hr := aaO (zs.take n)
 have hrt : (zs.take n).length = n := by simp; omega
 refine .of_body func311 rfl ntmps311 results311 rfl ?_
 iterate 2 refine AX ?_
 refine .p rfl (zG (aiB (sz := 1) (tl := .full))) ?_
 iterate 6 refine AX ?_
 refine .cl rfl C314 (evs1 rfl) (azF _ _ _ zs hz hn hn2 hc _ hb) (.p rfl (awS (_) U239 Z166 (tm rfl) (tm rfl) rfl aA) ?_)
 iterate 5 refine AX ?_
 exact ⟨rfl, rfl⟩

end
section
open Go

def dgt (n : Nat) : UInt8 := UInt8.ofNat (48 + n)
def bnV : Nat → Nat → List UInt8 → List UInt8
 | 0, _, acc => acc
 | f + 1, n, acc => if n < 10 then dgt n :: acc else bnV f (n / 10) (dgt (n % 10) :: acc)
def dec (n : Nat) : List UInt8 := bnV (n + 1) n []
theorem amF : ∀ (f n : Nat) (acc : List UInt8), bnV f n acc = bnV f n [] ++ acc
 | 0, _, _ => rfl
 | f + 1, n, acc => by
  unfold bnV
  split
  ·rfl
  rw [amF f (n / 10) (dgt (n % 10) :: acc), amF f (n / 10) [dgt (n % 10)], aQ]; rfl
theorem bbS : ∀ (f g n : Nat), n < f → n < g → bnV f n [] = bnV g n []
 | 0, _, n, h, _ => absurd h (Nat.not_lt_zero n)
 | _ + 1, 0, n, _, h => absurd h (Nat.not_lt_zero n)
 | f + 1, g + 1, n, h1, h2 => by
  unfold bnV
  split
  ·rfl
  rw [amF f, amF g, bbS f g (n / 10) aA aA]
theorem amE (h : n < 10) : dec n = [dgt n] := by
 unfold dec bnV; rw [aN h]
theorem aoJ (h : 10 ≤ n) : dec n = dec (n / 10) ++ [dgt (n % 10)] := by
 unfold dec
 rw [show bnV (n + 1) n [] = bnV n (n / 10) [dgt (n % 10)] by rw [bnV, aI], amF, bbS n (n / 10 + 1) (n / 10) aA aA]
theorem ceI (n : Nat) : Lib.decDigits n = dec n := by
 induction n using Nat.strongRecOn with
 | ind n ih =>
  unfold Lib.decDigits
  split
  ·rename_i h; rw [amE h]; rfl
  rename_i h; rw [ih _ aA, aoJ (n := n) aA]; rfl
theorem bxJ (n : Nat) : Lib.itoa ((n : Nat) : Int) = dec n := by
 unfold Lib.itoa
 rw [aI, cX, ceI]
theorem ceH (n : Nat) : 0 < (dec n).length := by
 rcases cD n 10 with h | h
 ·rw [amE h]; simp
 rw [aoJ h]; simp
theorem agM (hk : 0 < k) : (dec n).length ≤ k ↔ n < 10 ^ k := by
 induction k generalizing n with
 | zero => omega
 | succ k ih =>
  rcases cD n 10 with h | h
  ·rw [amE h]
   have : 10 ^ 1 ≤ 10 ^ (k + 1) := aZ aC aA
   simp only [aU, bH]
   omega
  rw [aoJ h, aP, aU, bH]
  rcases bF k with h0 | h0
  ·subst h0
   have := ceH (n / 10)
   rw [show (10 : Nat) ^ (0 + 1) = 10 by decide]
   omega
  rw [Nat.add_le_add_iff_right, ih h0, bR, bO aC]
def pad : Nat → Nat → List UInt8
 | 0, _ => []
 | k + 1, r => pad k (r / 10) ++ [dgt (r % 10)]
theorem btL : ∀ (k : Nat), 10 ^ k ≤ n → dec n = dec (n / 10 ^ k) ++ pad k (n % 10 ^ k) := by
 intro k
 induction k generalizing n with
 | zero => intro _; rw [dN, fY, pad, bM]
 | succ k ih =>
  intro h
  have hp : 0 < 10 ^ k := bN aC
  have h1 : 10 ^ k ≤ n / 10 := by rw [dJ aC, ← bR]; exact h
  rw [aoJ aA, ih h1, bY, aQ, pad, bL 10, ← bR]
  congr 2
  ·congr 1
   rw [bR, bL (10 ^ k) 10, Nat.mod_mul_right_div_self]
  rw [bR, bL (10 ^ k) 10, Nat.mod_mul_right_mod]
theorem bhS : ∀ k : Nat, pad k 0 = List.replicate k 48
 | 0 => rfl
 | k + 1 => by rw [pad, Nat.zero_div, bhS k, List.replicate_succ']; rfl
theorem ccK (hk : 0 < k) (h : r < 10 ^ k) : pad k r = List.replicate (k - (dec r).length) 48 ++ dec r := by
 induction k generalizing r with
 | zero => omega
 | succ k ih =>
  rcases cD r 10 with h1 | h1
  ·rw [amE h1, pad, show r / 10 = 0 by omega, bhS, bB h1]
   simp
  have hk0 : 0 < k := by
   rcases bF k with h0 | h0
   ·subst h0; simp at h; omega
   exact h0
  rw [aoJ h1, pad, ih hk0 (by rw [bO aC, ← bR]; exact h), aP, aQ]
  congr 2
  simp only [aU, bH]
  omega
theorem byE (h : 0 < v / 1000000000) : dec v = dec (v / 1000000000) ++ (List.replicate (9 - (dec (v % 1000000000)).length) 48 ++ dec (v % 1000000000)) := by
 rw [← ccK aC (bT _ aC : v % 1000000000 < 10 ^ 9)]
 exact btL 9 aA
theorem asC (h : n < BIG) : (dec n).length ≤ 2500 :=
 (agM aC).2 (bQ h (by unfold BIG; decide +kernel))
end
end Go.Proofs.YtmmgbnolccpjoaaGreatDoor
