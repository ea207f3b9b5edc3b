import Derived.Test.YtmmgbnolccpjoaaGreatDoorN1
namespace Go.Proofs.YtmmgbnolccpjoaaGreatDoor
open Go Go.RowKit
variable {A Z ws xs zs : List Nat} {b i k n o r v : Nat}
section
set_option maxRecDepth 100000
set_option maxHeartbeats 1000000

def mid (zs : List Nat) (o : Nat) (ws : List Nat) : List Nat := zs.take o ++ ws ++ zs.drop (o + ws.length)
theorem aeU (hn : ws.length = n) (h : o + n ≤ zs.length) : (mid zs o ws).length = zs.length := by
 unfold mid; simp; omega
theorem amF (h : o + n ≤ zs.length) : mid zs o ((zs.drop o).take n) = zs := by
 unfold mid
 rw [aQ, bS, show min n (zs.length - o) = n by omega, bV]
 rw [← fU, cY, cY]
theorem atJ (ho : o ≤ zs.length) (hi : i < ws.length) : (mid zs o ws).set (o + i) v = mid zs o (ws.set i v) := by
 unfold mid
 rw [List.length_set, bV, bV, List.set_append_right _ _ (by rw [aQ]; omega), aQ, show o + i - min o zs.length = i by omega, List.set_append_left _ _ hi]
theorem azS (ho : o ≤ zs.length) (hi : i < ws.length) : (mid zs o ws).getD (o + i) 0 = ws.getD i 0 := by
 unfold mid
 rw [aP, aP, bV, eN (by rw [aQ]; omega), aQ, show o + i - min o zs.length = i by omega, fE hi]
theorem adP (hz : Limbs zs) (hw : Limbs ws) : Limbs (mid zs o ws) := ((hz.take _).append hw).append (hz.drop _)
theorem val_cut (xs : List Nat) (n : Nat) : ∃ q, val xs = val (xs.take n) + 4294967296 ^ n * q := by
 rcases bZ xs.length n with h | h
 ·exact ⟨0, by rw [aU (by omega)]; omega⟩
 refine ⟨val (xs.drop n), ?_⟩
 have := qX (xs.take n) (xs.drop n)
 rw [cY, aQ, dE h] at this
 exact this
theorem afZ {j : Nat} (h : j < n - 0) : ((zs.drop o).take n).getD j 0 = zs.getD (o + j) 0 := by
 rw [aP, aP, eH, aO (by omega), eA]
theorem ayG {d : Nat} (hd : 0 < d) (hw : ws.length = n) (hi : i < n) (hn : o + n ≤ zs.length) (hg : ws.getD (n - 1 - i) 0 = zs.getD (o + (n - 1 - i)) 0) (h : val (ws.drop (n - i)) * d + r = val (((zs.drop o).take n).drop (n - i))) :
  val ((ws.set (n - 1 - i) ((r * 4294967296 + zs.getD (o + (n - 1 - i)) 0) / d)).drop (n - (i + 1))) * d + (r * 4294967296 + zs.getD (o + (n - 1 - i)) 0) % d = val (((zs.drop o).take n).drop (n - (i + 1))) := by
 have e := afZ (zs := zs) (o := o) (n := n) (j := n - 1 - i) (by omega)
 rw [← e] at hg ⊢
 rw [show n - i = n - 1 - i + 1 by omega] at h
 rw [show n - (i + 1) = n - 1 - i by omega]
 exact aqP hd (by omega) (by simp; omega) hg h
theorem aoJ (h : ws.length = zs.length) : mid zs 0 ws = ws := by
 unfold mid; rw [h]; simp

def bjB (xs : List Nat) (tl : Tail) (b o n cp s : Nat) (zs : List Nat) (H : Heap) : Nat → Env → Heap → Prop := fun k env H1 => ∃ (i c : Nat) (ws : List Nat), i ≤ n ∧ ws.length = n ∧ Limbs ws ∧ c < 2 ^ s ∧ val (ws.take i) + 4294967296 ^ i * c = val (xs.take i) * 2 ^ s ∧ env = [(0, .mslice (some ⟨b, o, none⟩) n cp), (1, .slice 1 (U .u32 xs) tl), (2, .int .i64 (s : Int)), (6, .int .u64 (c : Int)), (9, .int .i64 (n : Int)), (10, .int .i64 (i : Int))] ∧ H1 = H.set b (.box 166 (U .u32 (mid zs o ws))) ∧ k = n - i

theorem aiU (xs : List Nat) (tl : Tail) (hx : Limbs xs) (hl : xs.length ≤ 1000000) (b o n cp s : Nat) (zs : List Nat) (hz : Limbs zs) (hn : o + n ≤ zs.length) (hn2 : n ≤ 1000000) (hs : s < 32) (H : Heap) (hb : H.objs b = some (.box 166 (U .u32 zs))) : ACall Tryz.prog 315 [.mslice (some ⟨b, o, none⟩) n cp, .slice 1 (U .u32 xs) tl, .int .i64 (s : Int)] H (fun _ H' => ∃ ws : List Nat, ws.length = n ∧ Limbs ws ∧ val ws = val xs * 2 ^ s % 4294967296 ^ n ∧ H' = H.set b (.box 166 (U .u32 (mid zs o ws)))) := by
 have h2s : 2 ^ s ≤ 2 ^ 31 := aT (by decide) (by omega)
 have h2p : 0 < 2 ^ s := bI (by decide)
 refine ACall.of_body Tryz.func315 rfl Tryz.ntmps315 Tryz.results315 rfl ?_
 iterate 2 refine AX ?_
 refine .p rfl (zA (zI 0)) ?_
 iterate 10 refine AX ?_
 refine AWP.loopW (bjB xs tl b o n cp s zs H) (n) ⟨0, 0, (zs.drop o).take n, Nat.zero_le _, by simp; omega, (hz.drop _).take _, by omega, by simp [val], rfl, (Heap.set_self (by rw [amF hn]; exact hb)).symm, rfl⟩ sX (hRa _) ?_
 rintro _ _ _ ⟨i, c, ws, hi, hw, hwl, hc, hv, rfl, rfl, hk⟩
 iterate 6 refine AX ?_
 refine AWP.cond (tm rfl) (fun hc11 => ?_) (fun hc11 => ?_)
 ·try simp only [aM] at hc11
  have hg := Limbs.getD hx i
  obtain ⟨hv2, hc2, hc3⟩ := beI (by omega : i < ws.length) (by omega) hg hc hv
  have hml := aeU (o := o) hw hn
  have hxs2 : xs.getD i 0 * 2 ^ s ≤ 4294967295 * 2 ^ s := aV _ (by omega)
  iterate 10 refine AX ?_
  refine AWP.seqToL [(6, .int .u64 ((c + xs.getD i 0 * 2 ^ s : Nat) : Int))] [0, 1, 2, 9, 10, 7] ?_ ?_
  ·iterate 8 refine AX ?_
   refine AWP.cond (tm rfl) (fun hc16 => ?_) (fun hc16 => ?_)
   ·try simp only [aM] at hc16
    iterate 4 refine AX ?_
    refine .p rfl (yA (i) U239 Z166 (tm rfl) (tm rfl) (by omega) (by omega)) ?_
    iterate 3 refine AX ?_
    refine .p rfl (qL (tm rfl) (tm rfl) (by omega) (by omega)) (.p rfl (abC (tm rfl) (tm rfl) (by omega) (by omega)) (.as rfl rfl (.nil ?_)))
    exact ⟨rfl, (zX rfl (by (rw [azO hc])) sX), rfl⟩
   try simp only [aL, bN] at hc16
   refine AX ?_
   exact ⟨rfl, (zX rfl (by (rw [afJ (by omega), dF]; rfl)) sX), rfl⟩
  refine AWP.sub [(6, _), (0, _), (1, _), (2, _), (9, _), (10, _), (7, _)] sX ?_
  iterate 6 refine AX ?_
  refine .p rfl (abW (i) U239 Z166 (tm rfl) (tm rfl) (by omega) (by omega)) (.e0 (qH Z166 (tm rfl) (tm rfl) (oS _ _ _) (by omega)) ?_)
  try first | rw [sS] | rw [sU (by assumption)]
  iterate 4 refine AX ?_
  refine .p rfl (yF (tm rfl) (zI 32) (by assumption)) ?_
  iterate 9 refine AX ?_
  refine Round.mk (J := bjB xs tl b o n cp s zs H) ⟨i + 1, _, _, by omega, by simpa using hw, Limbs.set hwl (by omega), hc2, hv2, rfl, by rw [atJ (by omega) (by omega)]; rfl, rfl⟩ sX (hRa _) (by omega)
 try simp only [aL, bN] at hc11
 iterate 4 refine AX ?_
 refine Ret.go' .nil _ (hRa _) ?_
 have hin : i = n := by omega
 subst hin
 refine ⟨ws, hw, hwl, ?_, rfl⟩
 obtain ⟨q, hq⟩ := val_cut xs i
 rw [hq, bP, bC, dB]
 exact bbL hwl hw hv

def biZ (b o n cp d : Nat) (zs : List Nat) (H : Heap) : Nat → Env → Heap → Prop := fun k env H1 => ∃ (i r : Nat) (ws : List Nat), i ≤ n ∧ ws.length = n ∧ Limbs ws ∧ r < d ∧ (∀ j, j < n - i → ws.getD j 0 = zs.getD (o + j) 0) ∧ val (ws.drop (n - i)) * d + r = val (((zs.drop o).take n).drop (n - i)) ∧ env = [(0, .mslice (some ⟨b, o, none⟩) n cp), (1, .int .u32 (d : Int)), (5, .int .u64 (r : Int)), (10, .int .i64 (n : Int)), (11, .int .i64 (i : Int))] ∧ H1 = H.set b (.box 166 (U .u32 (mid zs o ws))) ∧ k = n - i

theorem anC (b o n cp d : Nat) (hd : 0 < d) (hd2 : d < 4294967296) (zs : List Nat) (hz : Limbs zs) (hn : o + n ≤ zs.length) (hn2 : n ≤ 1000000) (H : Heap) (hb : H.objs b = some (.box 166 (U .u32 zs))) : ACall Tryz.prog 317 [.mslice (some ⟨b, o, none⟩) n cp, .int .u32 (d : Int)] H (fun y H' => y = .int .u32 ((val ((zs.drop o).take n) % d : Nat) : Int) ∧ ∃ ws : List Nat, ws.length = n ∧ Limbs ws ∧ val ws = val ((zs.drop o).take n) / d ∧ H' = H.set b (.box 166 (U .u32 (mid zs o ws)))) := by
 refine ACall.of_body Tryz.func317 rfl Tryz.ntmps317 Tryz.results317 rfl ?_
 iterate 2 refine AX ?_
 refine .p rfl (zA (zI 0)) ?_
 iterate 4 refine AX ?_
 refine .p rfl (zA (zI 0)) ?_
 iterate 11 refine AX ?_
 refine AWP.loopW (biZ b o n cp d zs H) (n) ⟨0, 0, (zs.drop o).take n, Nat.zero_le _, by simp; omega, (hz.drop _).take _, by omega, fun j hj => afZ hj, by simp [val], rfl, (Heap.set_self (by rw [amF hn]; exact hb)).symm, rfl⟩ sX (hRa _) ?_
 rintro _ _ _ ⟨i, r, ws, hi, hw, hwl, hr, hgs, hv, rfl, rfl, hk⟩
 iterate 6 refine AX ?_
 refine AWP.cx rfl (fun hc12 => ?_) (fun hc12 => ?_)
 ·have hg := hgs (n - 1 - i) (by omega)
  have hx := Limbs.getD hz (o + (n - 1 - i))
  have hml := aeU (o := o) hw hn
  have hsh : r * 2 ^ 32 < 18446744073709551616 := by rw [show (2 : Nat) ^ 32 = 4294967296 by decide]; omega
  have hgm := Limbs.getD (adP (o := o) hz hwl) (o + (n - 1 - i))
  obtain ⟨hf1, hf2⟩ := aqQ hr hx hd2
  have hq : (r * 4294967296 + zs.getD (o + (n - 1 - i)) 0) / d % 2 ^ IntKind.u32.bits = (r * 4294967296 + zs.getD (o + (n - 1 - i)) 0) / d := aW hf1
  have hm2 := bQ (r * 4294967296 + zs.getD (o + (n - 1 - i)) 0) hd
  iterate 20 refine AX ?_
  refine AWP.seqToL [(8, .int .u64 ((r * 4294967296 + zs.getD (o + (n - 1 - i)) 0 : Nat) : Int))] [0, 1, 5, 10, 11, 7] ?_ ?_
  ·-- region 6
   iterate 2 refine AX ?_
   refine .p rfl (qL (tm rfl) (zI 32) (by omega) (by exact hsh)) ?_
   iterate 2 refine AX ?_
   refine .p rfl (abW (n - 1 - i) U239 Z166 (tm rfl) (tm rfl) (by omega) (by omega)) (.e rfl (qJ G166 (tm rfl) (oS _ _ _) (by omega)) ?_)
   refine AX ?_
   refine .p rfl (abC (tm rfl) (tm rfl) (hsh) (by omega)) ?_
   iterate 2 refine AX ?_
   exact ⟨rfl, (zX rfl (by rw [azS (by omega) (by omega), hg, ← ahN (k := 32) (cR hx (by decide))]) sX), rfl⟩
  refine AWP.sub [(8, _), (0, _), (1, _), (5, _), (10, _), (11, _), (7, _)] sX ?_
  refine AWP.draw [(0, true), (1, true), (2, true), (3, true), (4, true), (5, true), (6, true), (7, true), (8, true), (9, true), (10, true), (11, true), (12, false), (13, true)] rfl (by decide +kernel) ?_
  iterate 10 refine AX ?_
  refine .p rfl rfl (qY (tm rfl) (tm rfl) (by omega)) (.p rfl rfl (abW (n - 1 - i) U239 Z166 (tm rfl) (tm rfl) (by omega) (by omega)) (.s0 rfl (qH Z166 (tm rfl) (tm rfl) (oS _ _ _) (by omega)) ?_))
  rintro _ _ ⟨rfl, hH⟩
  obtain rfl := hH.symm
  try first | rw [sS] | rw [sU (by assumption)]
  iterate 9 refine AX ?_
  rw [hq]
  refine Round.mk (J := biZ b o n cp d zs H) ⟨i + 1, _, _, by omega, by simpa using hw, Limbs.set hwl hf1, hm2, fun j hj => by rw [getD_set_ne (by omega)]; exact hgs j (by omega), ayG hd hw (by omega) hn hg hv, rfl, by rw [atJ (by omega) (by omega)], rfl⟩ sX (hRa _) (by omega)
 iterate 14 refine AX ?_
 have hin : i = n := by omega
 subst hin
 rw [Nat.sub_self, dK, dK] at hv
 rw [← hv]
 refine ⟨?_, ws, hw, hwl, ?_, rfl⟩
 ·simp only [yI]; congr 1; rw [bD, fQ, aW hr, aW]; simp only [IntKind.bits]; omega
 rw [bD, fR hd, bX hr]; rfl

end
section
open Go Go.RowKit
set_option maxRecDepth 100000

theorem shl_ok {s : Nat} (hv : 0 < v) (h : v * 2 ^ s < BIG) : s < 8192 ∧ yJ v + s ≤ 8192 ∧ v < BIG := by
 have h1 : 2 ^ s ≤ v * 2 ^ s := Nat.le_mul_of_pos_left _ hv
 have h5 : v ≤ v * 2 ^ s := eX _ (bI (by decide))
 have h6 : v < BIG := aR h5 h
 obtain ⟨k, hk, hB⟩ : ∃ k, k = 8192 ∧ BIG = 2 ^ k := ⟨32 * 256, rfl, apO _ rfl⟩
 rw [hB] at h
 have h2 : s < k := (Nat.pow_lt_pow_iff_right (a := 2) (by decide)).1 (aR h1 h)
 have h3 : v < 2 ^ (k - s) := by
  rw [show k = (k - s) + s by omega, bB] at h
  exact eO h
 have h4 := qB.2 h3
 exact ⟨by omega, by omega, h6⟩
theorem ajU {s : Nat} (h : v * 2 ^ s < BIG) : v < BIG := aR (eX _ (bI (by decide))) h
theorem ajO (s : Nat) : 4294967296 ^ (s / 32) * 2 ^ (s % 32) = 2 ^ s := by
 rw [show (4294967296 : Nat) = 2 ^ 32 by decide, ← dO, ← bB]
 congr 1; omega
theorem val_mid0 {m : Nat} (h : o + ws.length = m) : val (mid (List.replicate m 0) (0 + o) ws) = 4294967296 ^ o * val ws := by
 unfold mid
 rw [bW, List.take_replicate, List.drop_replicate, bV, qX, akK, qX, akK, bR, dE (by omega), cW, cC, bW]
theorem shl_val {s : Nat} (hv : v < 4294967296 ^ n) (hw : val ws = v * 2 ^ (s % 32) % 4294967296 ^ (n + 1)) : 4294967296 ^ (s / 32) * val ws = v * 2 ^ s := by
 have h1 : 2 ^ (s % 32) ≤ 2 ^ 31 := aT (by decide) (by omega)
 have h2 : v * 2 ^ (s % 32) < 4294967296 ^ n * 4294967296 := Nat.mul_lt_mul_of_lt_of_le hv (by omega) (by decide)
 rw [hw, aW (by rw [bO]; exact h2), Nat.mul_left_comm, ajO]

theorem axH (xs : List Nat) (tl : Tail) (hx : Limbs xs) (hl : xs.length ≤ 1000000) (s : Nat) (hs : val xs * 2 ^ s < BIG) (hs2 : s < 1000000000) (H : Heap) : ACall Tryz.prog 272 [.slice 1 (U .u32 xs) tl, .int .i64 (s : Int)] H (fun y H' => y = .tuple [aaT (val xs * 2 ^ s), .int .i64 0] ∧ H' = H) := by
 have hB := ajU hs
 have h256 := yU hB
 have hr := aaW xs
 have hrl := abF hx
 refine ACall.of_body Tryz.func272 rfl Tryz.ntmps272 Tryz.results272 rfl ?_
 iterate 2 refine AX ?_
 refine .p rfl (zA (qK (sz := 1) (tl := .shared))) ?_
 refine .p rfl (zA (zI 0)) ?_
 iterate 7 refine AX ?_
 refine .p rfl (yN (tm rfl) (zI 0)) ?_
 iterate 3 refine AX ?_
 refine AWP.cx rfl (fun hc7 => ?_) (fun hc7 => ?_)
 ·omega
 iterate 3 refine AX ?_
 refine .e rfl (aaF U327 Z239 V239 rfl (tm rfl) (.inl rfl) ⟨rfl, rfl⟩) (.cl rfl C310 (evs1 rfl) (aoE _ _ _ (by assumption) (by assumption) _) ?_)
 iterate 3 refine AX ?_
 refine AWP.cx rfl (fun hc10 => ?_) (fun hc10 => ?_)
 ·omega
 iterate 3 refine AX ?_
 refine .cl rfl C314 (evs1 rfl) (acM _ _ (by assumption) (by assumption) _) (.p rfl (zR (tm rfl) (zI 0)) ?_)
 iterate 3 refine AX ?_
 refine AWP.cx rfl (fun hc14 => ?_) (fun hc14 => ?_)
 ·iterate 2 refine AX ?_
  refine .p rfl (zA (qK (sz := 1) (tl := .shared))) ?_
  refine .p rfl (zA (zI 0)) ?_
  iterate 6 refine AX ?_
  refine ⟨?_, rfl⟩
  rw [aaL (by omega), dF]; rfl
 have hpos : 0 < val xs := eI (fun h => by have := aaM h; omega)
 obtain ⟨hs3, hs4, _⟩ := shl_ok hpos hs
 refine AWP.seqTo 18 (.bool (false)) [0, 1, 4, 5] ?_ ?_
 ·-- region 7
  iterate 2 refine AX ?_
  refine .p rfl (yC (tm rfl) (zI 8192)) ?_
  refine AX ?_
  refine zL (t := 21) rfl (fun hg21 => ?_) (fun hg21 => ?_)
  ·iterate 8 refine AX ?_
   exact ⟨rfl, zY rfl (by (simp at hg21; omega)) sX, rfl⟩
  refine AX ?_
  refine .gs rfl rfl rfl (by assumption) (zF C271 (evs1 rfl) (axJ _ _ (by assumption) (by assumption) _)) ?_
  rintro _ _ ⟨rfl, hH⟩
  obtain rfl := hH.symm
  iterate 2 refine AX ?_
  refine .gp rfl rfl rfl (by assumption) (yC (tm rfl) (zI 8192)) ?_
  iterate 3 refine AX ?_
  exact ⟨rfl, zY rfl (by (simp; omega)) sX, rfl⟩
 refine AWP.sub [(18, _), (0, _), (1, _), (4, _), (5, _)] sX ?_
 refine AWP.cond_false (tm rfl) (by rfl) ?_
 iterate 6 refine AX ?_
 refine .cl rfl C311 (evs1 rfl) (aaI _ _ (by assumption) (by assumption) _) ?_
 iterate 6 refine AX ?_
 refine .p rfl (abV (tm rfl) (zI 32) (by omega) (by omega)) ?_
 iterate 3 refine AX ?_
 refine .p rfl (yT (tm rfl) (zI 1) (by omega)) (.s rfl (yV (s / 32 + (zK (val xs)).length + 1) U239 Tryz.typeInfo166 Z166 V166 (tm rfl) (tm rfl) (by omega) (by omega) (by decide) (by omega)) ?_)
 rintro _ _ ⟨b36, rfl, hb36, hH⟩
 obtain rfl := hH.symm
 iterate 7 refine AX ?_
 refine .p rfl (abV (tm rfl) (zI 32) (by omega) (by omega)) (.p rfl (asT (_) U239 Z166 (tm rfl) (tm rfl) rfl (by omega) (by omega) (by omega)) ?_)
 iterate 2 refine AX ?_
 refine .p rfl (aeQ (tm rfl) (zI 32) (by omega)) ?_
 refine .s rfl (zF Tryz.call315 (evs3 rfl rfl rfl) (aiU (zK (val xs)) .shared (zP _) (by omega) b36 (0 + s / 32) _ _ (s % 32) (List.replicate (s / 32 + (zK (val xs)).length + 1) 0) (Limbs.rep (by omega)) (by simp; omega) (by omega) (bQ _ (by decide)) _ (oS _ _ _))) ?_
 rintro _ _ ⟨ws, hw, hwl, hv, hH⟩
 obtain rfl := hH.symm
 rw [sS]
 iterate 3 refine AX ?_
 rw [show s / 32 + (zK (val xs)).length + 1 - s / 32 = (zK (val xs)).length + 1 by omega] at hw hv
 have hmL := adP (o := 0 + s / 32) (Limbs.rep (n := s / 32 + (zK (val xs)).length + 1) (x := 0) (by omega)) hwl
 have hml : (mid (List.replicate (s / 32 + (zK (val xs)).length + 1) 0) (0 + s / 32) ws).length ≤ 1000000 := by rw [aeU hw (by simp; omega)]; simp; omega
 refine AWP.frzU (t := 6) rfl hb36 (by rw [aeU hw (by simp; omega)]; simp) (aX _) (by simp only [zW]; omega) ?_
 rw [aU (by rw [aeU hw (by simp; omega)]; simp)]
 iterate 2 refine AX ?_
 refine .cl rfl C311 (evs1 rfl) (aaI _ _ (by assumption) (by assumption) _) ?_
 refine AX ?_
 refine .p rfl (zA (zI 0)) ?_
 iterate 4 refine AX ?_
 refine ⟨?_, rfl⟩
 rw [zT] at hv
 rw [val_mid0 (by omega), shl_val (qZ.1 (aX _)) hv]; rfl

end
theorem baP {P : Program} {cd : Code} {Q : Exit → Env → Heap → Prop} {env : Env} {H : Heap} {b : Bool} {t : Nat} (_h : env.get? t = some (.bool b)) (ht : b = true → AWP P n cd Q env H) (hf : b = false → AWP P n cd Q env H) : AWP P n cd Q env H := by
 grind
theorem and_mask (x r : Nat) : x &&& (2 ^ r - 1) = x % 2 ^ r := cO x r
def asM (r : Nat) : List Nat → List Nat
 | [] => []
 | x :: xs => (x + xs.getD 0 0 * 4294967296) / 2 ^ r % 4294967296 :: asM r xs
theorem amA (r : Nat) : ∀ xs : List Nat, (asM r xs).length = xs.length
 | [] => rfl
 | x :: xs => by rw [asM, bE, bE, amA r xs]
theorem aqO (r : Nat) : ∀ xs : List Nat, Limbs (asM r xs)
 | [] => Limbs.nil
 | x :: xs => Limbs.mk (bQ _ (by decide)) (aqO r xs)
theorem bbT (r : Nat) (h : i < xs.length) : (asM r xs).getD i 0 = (xs.getD i 0 + xs.getD (i + 1) 0 * 4294967296) / 2 ^ r % 4294967296 := by
 induction xs generalizing i with
 | nil => simp at h
 | cons x xs ih =>
  rw [asM]
  cases i with
  | zero => rw [dQ, dQ, dS]
  | succ i => rw [dS, dS, dS]; exact ih (by simpa using h)
theorem shr_limb {x y W P D : Nat} (hr : 2 ^ r = P) (hB : 4294967296 = P * D) (hx : x < 4294967296) :
  (x + 4294967296 * (y + 4294967296 * W)) / P = (x + y * 4294967296) / P % 4294967296 + 4294967296 * ((y + 4294967296 * W) / P) := by
 have hP : 0 < P := by rw [← hr]; exact bI (by decide)
 have hD : 0 < D := by
  rcases aY D with h | h
  ·grind
  exact h
 have hxD : x / P < D := by rw [bJ hP, bD, ← hB]; exact hx
 have e1 : ∀ Z, (x + 4294967296 * Z) / P = x / P + D * Z := fun Z => by rw [hB, bC, fG _ _ hP]
 rw [e1, bD y, e1]
 generalize hV : y + 4294967296 * W = V
 have ht : V % P = y % P := by rw [← hV, hB, bC, dB]
 have hm := bQ y hP
 have e2 : D * V = D * (y % P) + 4294967296 * (V / P) := by
  rw [← ht]
  conv => lhs; rw [← cD V P]
  rw [bY, hB, ← bC, bD D P]; omega
 have e3 : D * y = D * (y % P) + 4294967296 * (y / P) := by
  conv => lhs; rw [← cD y P]
  rw [bY, hB, ← bC, bD D P]; omega
 have hlt : x / P + D * (y % P) < 4294967296 := by
  have h1 : D * (y % P + 1) ≤ D * P := bT _ hm
  rw [bY, bD D P, ← hB] at h1
  omega
 rw [e2, e3, ← dY, ← dY, dB, aW hlt]
theorem asL {r : Nat} (hr : r ≤ 32) : ∀ {xs : List Nat}, Limbs xs → val (asM r xs) = val xs / 2 ^ r
 | [], _ => by simp [asM, val]
 | x :: xs, h => by
  obtain ⟨hx, hxs⟩ := h.cons
  rw [asM, val, val, asL hr hxs]
  have hB : 4294967296 = 2 ^ r * 2 ^ (32 - r) := by rw [← bB, show r + (32 - r) = 32 by omega]
  cases xs with
  | nil =>
   simp only [val, List.getD_nil, dF, cW, cC, Nat.zero_div]
   rw [aW]
   exact aR (cU _ _) hx
  | cons y ys =>
   rw [dQ, val]
   exact (shr_limb rfl hB hx).symm
theorem shr_row (hl : A.length = Z.length) (hi : i < Z.length) : (A.take i ++ Z.drop i).set i (A.getD i 0) = A.take (i + 1) ++ Z.drop (i + 1) := by
 have hA : i < A.length := by omega
 rw [List.set_append_right _ _ (by rw [aQ]; omega), aQ, show i - min i A.length = 0 by omega, cN hi, List.set_cons_zero, ← dJ hA, bV, aP, bF hA]
 rfl
theorem biY {j : Nat} (hl : A.length = Z.length) (hi : i ≤ Z.length) (hj : i ≤ j) : (A.take i ++ Z.drop i).getD j 0 = Z.getD j 0 := by
 grind
theorem ayD (hl : A.length = Z.length) (hi : i ≤ Z.length) : (A.take i ++ Z.drop i).length = Z.length := by
 grind
theorem bhD {ys : List Nat} {m : Nat} (h : ys.length = m) : (List.replicate m 0).take 0 ++ ys.take m ++ (List.replicate m 0).drop (0 + min ys.length m) = ys := by
 grind
theorem afF (h : k ≤ xs.length) : val xs = val (xs.take k) + 4294967296 ^ k * val (xs.drop k) := by
 have := qX (xs.take k) (xs.drop k)
 rw [cY, aQ, dE h] at this
 exact this
theorem akM (hx : Limbs xs) (h : k ≤ xs.length) : val (xs.take k) < 4294967296 ^ k := by
 have := afE (hx.take k)
 rwa [aQ, dE h] at this
theorem ajZ (hx : Limbs xs) (h : k ≤ xs.length) : val (xs.drop k) = val xs / 4294967296 ^ k := by
 have h1 := afF h
 have h2 := akM hx h
 rw [h1, fG _ _ (bI (by decide)), bX h2, bW]
theorem shr_val {s : Nat} (h : s / 32 ≤ (zK v).length) : val (asM (s % 32) ((zK v).drop (s / 32))) = v / 2 ^ s := by
 rw [asL (by omega) ((zP v).drop _), ajZ (zP v) h, zT, bU, ajO]
theorem shr_none {s : Nat} (h : (zK v).length ≤ s / 32) : v < 2 ^ s := by
 have h1 := qZ.1 h
 have h2 : 4294967296 ^ (s / 32) ≤ 2 ^ s := by
  rw [← ajO]
  exact eX _ (bI (by decide))
 omega
theorem bcQ {s : Nat} (h : s / 32 < (zK v).length) : v % 2 ^ s = 0 ↔ qD ((zK v).take (s / 32)) = 0 ∧ (zK v).getD (s / 32) 0 % 2 ^ (s % 32) = 0 := by
 have h1 := afF (dG h)
 have h2 := akM (zP v) (dG h)
 rw [zT] at h1
 have e : v % 2 ^ s = val ((zK v).take (s / 32)) + 4294967296 ^ (s / 32) * ((zK v).getD (s / 32) 0 % 2 ^ (s % 32)) := by
  rw [← ajO, Nat.mod_mul]
  have hd : (zK v).drop (s / 32) = (zK v).getD (s / 32) 0 :: (zK v).drop (s / 32 + 1) := by
   rw [cN h, aP, bF h]; rfl
  have h3 : v / 4294967296 ^ (s / 32) = (zK v).getD (s / 32) 0 + 4294967296 * val ((zK v).drop (s / 32 + 1)) := by
   have := ajZ (zP v) (dG h)
   rw [hd, zT, val] at this
   exact this.symm
  have h4 : v % 4294967296 ^ (s / 32) = val ((zK v).take (s / 32)) := by
   conv => lhs; rw [h1]
   rw [dB, aW h2]
  rw [h3, h4]
  congr 2
  rw [show (4294967296 : Nat) = 2 ^ (s % 32) * 2 ^ (32 - s % 32) by rw [← bB, show s % 32 + (32 - s % 32) = 32 by omega], bC, dB]
 rw [e]
 have hp : 0 < 4294967296 ^ (s / 32) := bI (by decide)
 constructor
 ·intro h
  refine ⟨aaM (by omega), ?_⟩
  have h0 : 4294967296 ^ (s / 32) * ((zK v).getD (s / 32) 0 % 2 ^ (s % 32)) = 0 := by omega
  rcases Nat.mul_eq_zero.1 h0 with h5 | h5
  ·omega
  exact h5
 rintro ⟨h5, h6⟩
 rw [aaL h5, h6]; rfl
section
open Go Go.RowKit
set_option maxRecDepth 100000

theorem lost_by {s : Nat} (h : s / 32 < (zK v).length) (hg : decide (((0 : Nat) : Int) < (qD ((zK v).take (s / 32)) : Int)) = false) : decide (¬ (((((zK v).drop (s / 32)).getD 0 0 &&& (1 * 2 ^ (s % 32) - 1) : Nat) : Int) = ((0 : Nat) : Int))) = decide (v % 2 ^ s ≠ 0) := by
 have e : ((zK v).drop (s / 32)).getD 0 0 = (zK v).getD (s / 32) 0 := by
  rw [aP, aP, eA]; rfl
 have hg2 : qD ((zK v).take (s / 32)) = 0 := by simpa using hg
 have hl := bcQ h
 rw [bA, e, cL, and_mask]
 constructor
 ·intro h1 h2; exact h1 (by rw [(hl.1 h2).2])
 intro h1 h2; exact h1 (hl.2 ⟨hg2, by omega⟩)
theorem len_pos : decide (((0 : Nat) : Int) < ((zK v).length : Int)) = decide (v ≠ 0) := by
 rw [bA]
 rcases aY v with h | h
 ·subst h; rw [aaZ]; simp
 rw [qV h]; simp; omega

def shr_J (v s : Nat) (b : Nat) (H : Heap) : Nat → Env → Heap → Prop := fun k env H1 => ∃ i : Nat, i ≤ ((zK v).length - s / 32) ∧ env = [(8, .bool (decide (v % 2 ^ s ≠ 0))), (9, .mslice (some ⟨b, 0, none⟩) ((zK v).length - s / 32) ((zK v).length - s / 32)), (10, .int .i64 ((s % 32 : Nat) : Int)), (66, .int .i64 ((((zK v).length - s / 32) : Nat) : Int)), (67, .int .i64 (i : Int))] ∧ H1 = H.set b (.box 166 (U .u32 ((asM (s % 32) ((zK v).drop (s / 32))).take i ++ ((zK v).drop (s / 32)).drop i))) ∧ k = ((zK v).length - s / 32) - i

theorem bnH (xs : List Nat) (tl : Tail) (hx : Limbs xs) (hl : xs.length ≤ 1000000) (s : Nat) (hs : val xs < BIG) (hs2 : s < 1000000000) (H : Heap) : ACall Tryz.prog 276 [.slice 1 (U .u32 xs) tl, .int .i64 (s : Int)] H (fun y H' => y = .tuple [aaT (val xs / 2 ^ s), .bool (decide (val xs % 2 ^ s ≠ 0)), .int .i64 0] ∧ H' = H) := by
 have h256 := yU hs
 have hr := aaW xs
 have hrl := abF hx
 refine ACall.of_body Tryz.func276 rfl Tryz.ntmps276 Tryz.results276 rfl ?_
 iterate 2 refine AX ?_
 refine .p rfl (zA (qK (sz := 1) (tl := .shared))) ?_
 refine AX ?_
 refine .p rfl (zA (zI 0)) ?_
 iterate 7 refine AX ?_
 refine .p rfl (yN (tm rfl) (zI 0)) ?_
 iterate 3 refine AX ?_
 refine AWP.cx rfl (fun hc13 => ?_) (fun hc13 => ?_)
 ·omega
 iterate 3 refine AX ?_
 refine .e rfl (aaF U327 Z239 V239 rfl (tm rfl) (.inl rfl) ⟨rfl, rfl⟩) (.cl rfl C310 (evs1 rfl) (aoE _ _ _ (by assumption) (by assumption) _) ?_)
 iterate 3 refine AX ?_
 refine AWP.cx rfl (fun hc16 => ?_) (fun hc16 => ?_)
 ·omega
 iterate 6 refine AX ?_
 refine .cl rfl C311 (evs1 rfl) (aaI _ _ (by assumption) (by assumption) _) ?_
 iterate 3 refine AX ?_
 refine AWP.seqToL [(7, .int .i64 ((min (s / 32) (zK (val xs)).length : Nat) : Int))] [0, 1, 4, 5, 6] ?_ ?_
 ·-- region 6
  iterate 2 refine AX ?_
  refine .p rfl (abV (tm rfl) (zI 32) (by omega) (by omega)) ?_
  iterate 5 refine AX ?_
  exact ⟨rfl, (zX rfl (by congr 1; simp only [bhU]; first | omega | (split <;> omega)) sX), rfl⟩
 refine AWP.sub [(7, _), (0, _), (1, _), (4, _), (5, _), (6, _)] sX ?_
 refine AX ?_
 generalize hK : min (s / 32) (zK (val xs)).length = K
 generalize val xs = v at *
 have htk := (zP v).take K
 have htl : ((zK v).take K).length ≤ 1000000 := by simp; omega
 have hp2 : 1 ≤ 2 ^ (s % 32) := bI (by decide)
 have hp3 : 2 ^ (s % 32) ≤ 2147483648 := aZ (aT (by decide) (by omega : s % 32 ≤ 31)) (by decide)
 iterate 3 refine AX ?_
 refine .p rfl (acT (_) U239 Z166 (tm rfl) (tm rfl) rfl (by omega)) (.cl rfl C314 (evs1 rfl) (acM _ _ (by assumption) (by assumption) _) (.p rfl (yC (tm rfl) (zI 0)) ?_))
 iterate 9 refine AX ?_
 refine .s rfl (yV ((zK v).length - K) U239 Tryz.typeInfo166 Z166 V166 (tm rfl) (tm rfl) (by omega) (by omega) (by decide) (by omega)) ?_
 rintro _ _ ⟨b36, rfl, hb36, hH⟩
 obtain rfl := hH.symm
 iterate 8 refine AX ?_
 refine .p rfl (ajN (_) U239 Z166 (tm rfl) (tm rfl) rfl (by omega)) (.e rfl (akN U239 Z166 (tm rfl) (tm rfl) (oS _ _ _) (by (simp; done))) ?_)
 try first | rw [sS] | rw [sU (by assumption)]
 iterate 3 refine AX ?_
 rw [bhD (by simp)]
 iterate 2 refine AX ?_
 refine .p rfl (aeQ (tm rfl) (zI 32) (by omega)) ?_
 iterate 4 refine AX ?_
 refine AWP.seqTo 52 (.bool (decide ((zK v).length ≤ s / 32))) [4, 5, 6, 8, 9, 10] ?_ ?_
 ·-- region 11
  iterate 3 refine AX ?_
  refine .p rfl (zR (tm rfl) (zI 0)) ?_
  refine AX ?_
  refine zL (t := 47) rfl (fun hg47 => ?_) (fun hg47 => ?_)
  ·iterate 6 refine AX ?_
   exact ⟨rfl, zY rfl (by (simp at hg47; simp; omega)) sX, rfl⟩
  iterate 2 refine AX ?_
  refine .gp rfl rfl rfl (by assumption) (abV (tm rfl) (zI 32) (by omega) (by omega)) ?_
  iterate 3 refine AX ?_
  exact ⟨rfl, zY rfl (by (simp at hg47; simp; omega)) sX, rfl⟩
 refine AWP.sub [(52, _), (4, _), (5, _), (6, _), (8, _), (9, _), (10, _)] sX ?_
 refine AWP.cx rfl (fun hc52 => ?_) (fun hc52 => ?_)
 ·refine AX ?_
  refine AWP.frzU (t := 9) rfl hb36 (by simp <;> omega) (aX _) (by simp only [zW]; omega) ?_
  iterate 2 refine AX ?_
  refine .p rfl (zA (qK (sz := 1) (tl := .shared))) ?_
  refine AX ?_
  refine .p rfl (zA (zI 0)) ?_
  iterate 5 refine AX ?_
  refine ⟨?_, rfl⟩
  have hle : (zK v).length ≤ s / 32 := by omega
  have hvs := shr_none hle
  rw [aU (by omega), agQ, bX hvs, aW hvs, len_pos]; rfl
 have hK2 : K = s / 32 := by omega
 subst hK2
 have hlt : s / 32 < (zK v).length := by omega
 have hli := bcQ hlt
 have hx00 := Limbs.getD ((zP v).drop (s / 32)) 0
 have hAl : (asM (s % 32) ((zK v).drop (s / 32))).length = ((zK v).drop (s / 32)).length := amA _ _
 have hZl : ((zK v).drop (s / 32)).length = ((zK v).length - s / 32) := bS
 iterate 2 refine AX ?_
 refine AWP.seqTo 8 (.bool (decide (v % 2 ^ s ≠ 0))) [4, 5, 6, 9, 10] ?_ ?_
 ·-- region 13
  refine baP (t := 8) rfl (fun hg8 => ?_) (fun hg8 => ?_)
  ·refine AWP.draw [(0, true), (1, true), (2, true), (3, true), (4, true), (5, true), (6, true), (7, true), (8, true), (9, true), (10, true), (11, true)] rfl (by decide +kernel) ?_
   iterate 13 refine AX ?_
   exact ⟨rfl, zY rfl (by (simp at hg8; simp; omega)) sX, rfl⟩
  refine AWP.draw [(0, true), (1, true), (2, true), (3, true), (5, true), (6, true), (7, true), (4, false), (8, true), (9, true), (10, true), (11, true)] rfl (by decide +kernel) ?_
  iterate 3 refine AX ?_
  refine .gp rfl rfl rfl rfl (by assumption) (yO (0) U239 Z166 (tm rfl) (zI 0) (by omega) (by omega)) ?_
  refine AX ?_
  refine .gp rfl rfl rfl rfl (by assumption) (anW (zI 1) (tm rfl) (by omega) (by omega)) (.gp rfl rfl rfl rfl (by assumption) (azB (tm rfl) (zI 1) (by omega) (by omega)) (.gs rfl rfl rfl rfl (by assumption) (qJ G166 (tm rfl) (oS _ _ _) (by omega)) ?_))
  rintro _ _ ⟨rfl, hH⟩
  obtain rfl := hH.symm
  refine .gp rfl rfl rfl rfl (by assumption) (arC (tm rfl) (tm rfl) (by assumption) (by omega)) (.gp rfl rfl rfl rfl (by assumption) (qA (tm rfl) (zI 0)) ?_)
  iterate 3 refine AX ?_
  exact ⟨rfl, zY rfl (lost_by hlt hg8) sX, rfl⟩
 refine AWP.sub [(8, _), (4, _), (5, _), (6, _), (9, _), (10, _)] sX ?_
 iterate 5 refine AX ?_
 refine .p rfl (zJ (zI 0)) ?_
 iterate 3 refine AX ?_
 refine AWP.loopW (shr_J v s b36 H) (((zK v).length - s / 32)) ⟨0, Nat.zero_le _, rfl, rfl, rfl⟩ sX (hRa _) ?_
 rintro _ _ _ ⟨i, hi, rfl, rfl, hk⟩
 iterate 6 refine AX ?_
 refine AWP.cx rfl (fun hc68 => ?_) (fun hc68 => ?_)
 ·have hi2 : i < ((zK v).length - s / 32) := by omega
  have hrl2 := ayD hAl (by omega : i ≤ ((zK v).drop (s / 32)).length)
  have hg0 := biY hAl (by omega : i ≤ ((zK v).drop (s / 32)).length) (aX i)
  have hg1 := biY hAl (by omega : i ≤ ((zK v).drop (s / 32)).length) (by omega : i ≤ i + 1)
  have hx0 := Limbs.getD ((zP v).drop (s / 32)) i
  have hx1 := Limbs.getD ((zP v).drop (s / 32)) (i + 1)
  iterate 14 refine AX ?_
  refine .p rfl (yO (i) U239 Z166 (tm rfl) (tm rfl) (by omega) (by omega)) (.e rfl (qJ G166 (tm rfl) (oS _ _ _) (by omega)) ?_)
  iterate 4 refine AX ?_
  refine AWP.seqToL [(12, .int .u64 ((((zK v).drop (s / 32)).getD i 0 + ((zK v).drop (s / 32)).getD (i + 1) 0 * 4294967296 : Nat) : Int))] [8, 9, 10, 66, 67, 11] ?_ ?_
  ·iterate 3 refine AX ?_
   refine .p rfl (yT (tm rfl) (zI 1) (by omega)) ?_
   iterate 5 refine AX ?_
   refine AWP.cx rfl (fun hc79 => ?_) (fun hc79 => ?_)
   ·iterate 4 refine AX ?_
    refine .p rfl (yT (tm rfl) (zI 1) (by omega)) (.p rfl (yO (i + 1) U239 Z166 (tm rfl) (tm rfl) (by omega) (by omega)) (.e rfl (qJ G166 (tm rfl) (oS _ _ _) (by omega)) ?_))
    refine AX ?_
    refine .p rfl (qL (tm rfl) (zI 32) (by omega) (by rw [show (2 : Nat) ^ 32 = 4294967296 by decide]; omega)) (.p rfl (abC (tm rfl) (tm rfl) (by omega) (by omega)) ?_)
    iterate 2 refine AX ?_
    exact ⟨rfl, (zX rfl (by (rw [hg0, hg1, azO (k := 32) (cR hx0 (by decide))] <;> rfl)) sX), rfl⟩
   refine AX ?_
   exact ⟨rfl, (zX rfl (by (rw [hg0, afJ (i := i + 1) (by omega), dF] <;> rfl)) sX), rfl⟩
  refine AWP.sub [(12, _), (8, _), (9, _), (10, _), (66, _), (67, _), (11, _)] sX ?_
  iterate 5 refine AX ?_
  refine .p rfl (yF (tm rfl) (tm rfl) (by omega)) ?_
  refine AX ?_
  refine .p rfl (yO (i) U239 Z166 (tm rfl) (tm rfl) (by omega) (by omega)) (.e0 (qH Z166 (tm rfl) (tm rfl) (oS _ _ _) (by omega)) ?_)
  try first | rw [sS] | rw [sU (by assumption)]
  iterate 4 refine AX ?_
  refine .p rfl (yT (tm rfl) (zI 1) (by omega)) ?_
  iterate 3 refine AX ?_
  refine Round.mk (J := shr_J v s b36 H) ⟨i + 1, by omega, rfl, by rw [← shr_row hAl (by omega), bbT _ (by omega)]; rfl, rfl⟩ sX (hRa _) (by omega)
 iterate 6 refine AX ?_
 have hi3 : i = ((zK v).length - s / 32) := by omega
 refine AWP.frzU (t := 9) rfl hb36 (by rw [ayD hAl (by omega)]; omega) (aX _) (by simp only [zW]; omega) ?_
 rw [aU (l := _ ++ _) (by rw [ayD hAl (by omega)]; omega), aU (l := asM (s % 32) ((zK v).drop (s / 32))) (by omega), eP (l := ((zK v).drop (s / 32))) (by omega), cS]
 have hAL := aqO (s % 32) ((zK v).drop (s / 32))
 iterate 2 refine AX ?_
 refine .cl rfl C311 (evs1 rfl) (aaI _ _ (by assumption) (by omega) _) ?_
 iterate 3 refine AX ?_
 refine .p rfl (zA (zI 0)) ?_
 iterate 4 refine AX ?_
 refine ⟨?_, rfl⟩
 rw [shr_val (by omega)]; rfl

end
section
open Go Go.RowKit
set_option maxRecDepth 100000

theorem ajV (h : n < BIG) : (zK n).length ≤ 1000000 := aZ (yU h) (by decide)
theorem addB (a b : Nat) (h : a + b < BIG) (H : Heap) : ACall Tryz.prog 309 [aaT a, aaT b] H (fun y H' => y = .tuple [aaT (a + b), .int .i64 0] ∧ H' = H) := by
 have := bnR (zK a) .shared (zP a) (ajV (by omega)) (zK b) .shared (zP b) (ajV (by omega)) H
 rwa [zT, zT, fitN, avG h] at this
theorem mulB (a b : Nat) (ha : a < BIG) (hb : b < BIG) (h : a * b < BIG) (H : Heap) : ACall Tryz.prog 269 [aaT a, aaT b] H (fun y H' => y = .tuple [aaT (a * b), .int .i64 0] ∧ H' = H) := by
 have := bnJ (zK a) .shared (zP a) (ajV ha) (zK b) .shared (zP b) (ajV hb) H
 rwa [zT, zT, mulN, avG ⟨ha, hb, h⟩] at this
theorem shlB (a s : Nat) (h : a * 2 ^ s < BIG) (hs : s < 1000000000) (H : Heap) : ACall Tryz.prog 272 [aaT a, .int .i64 (s : Int)] H (fun y H' => y = .tuple [aaT (a * 2 ^ s), .int .i64 0] ∧ H' = H) := by
 have := axH (zK a) .shared (zP a) (ajV (ajU h)) s (by rwa [zT]) hs H
 rwa [zT] at this
theorem shrB (a s : Nat) (h : a < BIG) (hs : s < 1000000000) (H : Heap) : ACall Tryz.prog 276 [aaT a, .int .i64 (s : Int)] H (fun y H' => y = .tuple [aaT (a / 2 ^ s), .bool (decide (a % 2 ^ s ≠ 0)), .int .i64 0] ∧ H' = H) := by
 have := bnH (zK a) .shared (zP a) (ajV h) s (by rwa [zT]) hs H
 rwa [zT] at this
theorem lenB (a : Nat) (h : a < BIG) (H : Heap) : ACall Tryz.prog 271 [aaT a] H (fun y H' => y = .int .i64 (yJ a : Int) ∧ H' = H) := by
 have := axJ (zK a) .shared (zP a) (ajV h) H
 rwa [zT] at this
theorem cmpB (a b : Nat) (ha : a < BIG) (hb : b < BIG) (H : Heap) : ACall Tryz.prog 316 [aaT a, aaT b] H (fun y H' => y = .int .i64 (atZ a b) ∧ H' = H) := by
 have := bnL (zK a) .shared (zP a) (ajV ha) (zK b) .shared (zP b) (ajV hb) H
 rwa [zT, zT] at this
def pow_J (b n : Nat) (H : Heap) : Nat → Env → Heap → Prop := fun k env H1 => ∃ i : Nat, i ≤ n ∧ env = [(0, .int .i64 (b : Int)), (6, aaT (b ^ i)), (7, .int .i64 0), (30, .int .i64 (n : Int)), (31, .int .i64 (i : Int))] ∧ H = H1 ∧ k = n - i

theorem apK (b n : Nat) (hb : 2 ≤ b) (hb2 : b ≤ 1000000) (hn2 : n < 1000000000) (h : b ^ n < BIG) (H : Heap) : ACall Tryz.prog 268 [.int .i64 (b : Int), .int .i64 (n : Int)] H (fun y H' => y = .tuple [aaT (b ^ n), .int .i64 0] ∧ H' = H) := by
 refine ACall.of_body Tryz.func268 rfl Tryz.ntmps268 Tryz.results268 rfl ?_
 refine .seq (.region ?_)
 refine .p rfl (zA (qK (sz := 1) (tl := .shared))) ?_
 refine .p rfl (zA zE) (.nil ?_)
 refine Next.go ?_
 refine .seq ?_
 refine AWP.seqTo 17 (.bool (false)) [0, 1, 4, 5] ?_ ?_
 ·-- region 1
  refine .region (.mv rfl rfl (.p rfl (yN (tm rfl) zE) (.mv rfl rfl ?_)))
  refine zL (t := 10) rfl (fun hg10 => ?_) (fun hg10 => ?_)
  ·refine .gn rfl rfl rfl (by assumption) (.gn rfl rfl rfl (by assumption) (.p rfl (zO (tm rfl) (by assumption) zM) (.mv rfl rfl (.gn rfl rfl rfl (by rfl) (.gn rfl rfl rfl (by rfl) (.p rfl (zO (tm rfl) (by rfl) zM) ?_))))))
   refine AX ?_
   exact ⟨rfl, zY rfl (by (simp at hg10; omega)) sX, rfl⟩
  iterate 4 refine AX ?_
  refine zL (t := 14) rfl (fun hg14 => ?_) (fun hg14 => ?_)
  ·iterate 4 refine AX ?_
   exact ⟨rfl, zY rfl (by (simp at hg14; omega)) sX, rfl⟩
  iterate 4 refine AX ?_
  exact ⟨rfl, zY rfl (by rfl) sX, rfl⟩
 refine AWP.sub [(17, _), (0, _), (1, _), (4, _), (5, _)] sX ?_
 refine AWP.cond_false (tm rfl) (by rfl) ?_
 iterate 4 refine AX ?_
 refine .e rfl (aaF U239 Z166 V166 rfl (zI 1) (.inl rfl) ⟨rfl, rfl⟩) ?_
 iterate 5 refine AX ?_
 refine AWP.seqTo 19 (.bool (false)) [0, 1, 4, 5, 6] ?_ ?_
 ·-- region 4
  iterate 4 refine AX ?_
  refine zL (t := 22) rfl (fun hg22 => ?_) (fun hg22 => ?_)
  ·iterate 5 refine AX ?_
   exact ⟨rfl, zY rfl (by (simp at hg22; omega)) sX, rfl⟩
  iterate 5 refine AX ?_
  exact ⟨rfl, zY rfl (by rfl) sX, rfl⟩
 refine AWP.sub [(19, _), (0, _), (1, _), (4, _), (5, _), (6, _)] sX ?_
 refine AWP.cond_false (tm rfl) (by rfl) ?_
 iterate 7 refine AX ?_
 refine AWP.cond (tm rfl) (fun hc26 => ?_) (fun hc26 => ?_)
 ·try simp only [aM] at hc26
  omega
 try simp only [aL, cA] at hc26
 iterate 4 refine AX ?_
 refine AWP.weakv (aaT (b ^ 0)) (t := 6) rfl (.slice _ _ _) ?_
 iterate 12 refine AX ?_
 refine AWP.loopW (pow_J b n H) (n) ⟨0, Nat.zero_le _, rfl, rfl, rfl⟩ sX (hRa _) ?_
 rintro _ _ _ ⟨i, hi, rfl, rfl, hk⟩
 iterate 6 refine AX ?_
 refine AWP.cond (tm rfl) (fun hc32 => ?_) (fun hc32 => ?_)
 ·try simp only [aM] at hc32
  have hle : b ^ (i + 1) ≤ b ^ n := aT (by omega) (by omega)
  have hp : b ^ i * b < BIG := aR hle h
  have hp0 : b ^ i ≤ b ^ n := aT (by omega) (by omega)
  have hbB : b < BIG := aR hb2 (by unfold BIG; decide +kernel)
  have hiB : b ^ i < BIG := by omega
  iterate 9 refine AX ?_
  refine .cl rfl C230 (evs1 rfl) (amO _ (by omega) _) (.cl rfl C269 (evs2 rfl rfl) (mulB _ _ (by assumption) (by assumption) (by assumption) _) ?_)
  iterate 13 refine AX ?_
  refine AWP.cond_false (tm rfl) (by rfl) ?_
  iterate 8 refine AX ?_
  refine Round.mk (J := pow_J b n H) ⟨i + 1, by omega, rfl, rfl, rfl⟩ sX (hRa _) (by omega)
 try simp only [aL, bN] at hc32
 iterate 13 refine AX ?_
 refine Ret.go (.cons (.tmp _ _ rfl) (.cons (.tmp _ _ rfl) .nil)) _ (hRa _) ?_
 refine ⟨?_, rfl⟩
 rw [show i = n by omega]; rfl

end
section
open Go Go.RowKit
set_option maxRecDepth 100000

theorem awE (hn : ws.length = n) (ho : o ≤ zs.length) : ((mid zs o ws).drop o).take n = ws := by
 unfold mid
 have e : (zs.take o).length = o := by rw [aQ]; omega
 rw [bV, List.drop_append_of_le_length (by omega), eP (by omega), cT, eS (by omega), aU (by omega)]
theorem bhC (h : r ≤ xs.length) : (List.replicate r 0).take 0 ++ xs.take r ++ (List.replicate r 0).drop (0 + min xs.length r) = xs.take r := by
 rw [eP (by simp; omega)]; simp
theorem cmp_lt {a : Nat} (h : atZ a b < 0) : a < b := by
 unfold atZ at h
 split at h
 ·assumption
 split at h <;> simp at h
theorem cmp_ge {a : Nat} (h : ¬ atZ a b < 0) : b ≤ a := by
 unfold atZ at h
 split at h
 ·simp at h
 omega
theorem len_one (h : (zK b).length = 1) : zK b = [b] ∧ 0 < b ∧ b < 4294967296 := by
 have h0 : 0 < b := by
  rcases aY b with h1 | h1
  ·rw [h1, aaZ] at h; simp at h
  exact h1
 have h1 := qZ.1 (Nat.le_of_eq h)
 refine ⟨?_, h0, by omega⟩
 rw [qV h0, show b / 4294967296 = 0 by omega, aW (by omega)]; rfl

theorem bdL (xs : List Nat) (tl : Tail) (hx : Limbs xs) (hl : xs.length ≤ 1000000) (H : Heap) : ACall Tryz.prog 278 [.slice 1 (U .u32 xs) tl] H (fun y H' => ∃ b : Nat, H.objs b = none ∧ y = .mslice (some ⟨b, 0, none⟩) (zK (val xs)).length (zK (val xs)).length ∧ H' = H.set b (.box 166 (U .u32 (zK (val xs))))) := by
 have hr := aaW xs
 have hrl := abF hx
 refine ACall.of_body Tryz.func278 rfl Tryz.ntmps278 Tryz.results278 rfl ?_
 iterate 2 refine AX ?_
 refine .p rfl (zA (qK (sz := 1) (tl := .full))) ?_
 iterate 5 refine AX ?_
 refine .cl rfl C314 (evs1 rfl) (acM _ _ (by assumption) (by assumption) _) (.s rfl (yV (_) U239 Tryz.typeInfo166 Z166 V166 (tm rfl) (tm rfl) rfl rfl (by decide) (by omega)) ?_)
 rintro _ _ ⟨b6, rfl, hb6, hH⟩
 obtain rfl := hH.symm
 iterate 7 refine AX ?_
 refine .e rfl (akN U239 Z166 (tm rfl) (tm rfl) (oS _ _ _) (by (simp; done))) ?_
 try first | rw [sS] | rw [sU (by assumption)]
 iterate 10 refine AX ?_
 rw [bhC hr, adC hx, hrl]
 exact ⟨b6, hb6, rfl, rfl⟩

theorem cutB (a : Nat) (h : (zK a).length ≤ 1000000) (H : Heap) : ACall Tryz.prog 311 [aaT a] H (fun y H' => y = aaT a ∧ H' = H) := by
 have := aaI (zK a) .shared (zP a) h H
 rwa [zT] at this

end
section
open Go Go.RowKit
set_option maxRecDepth 100000

def bbW (b n c : Nat) (zs : List Nat) (H : Heap) : Nat → Env → Heap → Prop := fun k env H1 => ∃ i : Nat, i ≤ n ∧ qD (zs.take i) = qD (zs.take n) ∧ env = [(0, .mslice (some ⟨b, 0, none⟩) n c), (3, .int .i64 (i : Int))] ∧ H = H1 ∧ k = i

theorem avC (b n c : Nat) (zs : List Nat) (hz : Limbs zs) (hn : n ≤ zs.length) (hn2 : n ≤ 1000000) (hc : n ≤ c) (H : Heap) (hb : H.objs b = some (.box 166 (U .u32 zs))) : ACall Tryz.prog 314 [.mslice (some ⟨b, 0, none⟩) n c] H (fun y H' => y = .int .i64 (qD (zs.take n) : Int) ∧ H' = H) := by
 refine ACall.of_body Tryz.func314 rfl Tryz.ntmps314 Tryz.results314 rfl ?_
 iterate 14 refine AX ?_
 refine AWP.loopW (bbW b n c zs H) (n) ⟨n, aX _, rfl, rfl, rfl, rfl⟩ sX (hRa _) ?_
 rintro _ _ _ ⟨i, hi, hr, rfl, rfl, hk⟩
 refine AX ?_
 refine AWP.seqTo 15 (.bool (decide (0 < (i : Int)) && decide (((zs.getD (i - 1) 0 : Nat) : Int) = 0))) [0, 3] ?_ ?_
 ·-- region 2
  iterate 4 refine AX ?_
  refine zL (t := 8) rfl (fun hg8 => ?_) (fun hg8 => ?_)
  ·have hh8 := hg8; try simp only [aM] at hh8
   iterate 3 refine AX ?_
   refine .gp rfl rfl rfl (by assumption) (yO (i - 1) U239 Z166 (tm rfl) (tm rfl) (by omega) (by omega)) (.gs rfl rfl rfl (by assumption) (qJ G166 (tm rfl) (by assumption) (by omega)) ?_)
   rintro _ _ ⟨rfl, hH⟩
   obtain rfl := hH.symm
   refine .gp rfl rfl rfl (by assumption) (zR (tm rfl) (zI 0)) ?_
   iterate 2 refine AX ?_
   exact ⟨rfl, zY rfl (by simp_all) sX, rfl⟩
  have hh8 := hg8; try simp only [aL, bN] at hh8
  iterate 8 refine AX ?_
  exact ⟨rfl, zY rfl (by simp_all) sX, rfl⟩
 refine AWP.sub [(15, _), (0, _), (3, _)] sX ?_
 refine AWP.cx rfl (fun hc15 => ?_) (fun hc15 => ?_)
 ·simp only [bK, aM] at hc15
  iterate 10 refine AX ?_
  have hs := acA (xs := zs) (k := i - 1) (by omega)
  rw [show i - 1 + 1 = i by omega, aO (by omega)] at hs
  refine Round.mk (J := bbW b n c zs H) ⟨i - 1, by omega, by rw [← hs, hr], rfl, rfl, rfl⟩ (zC rfl (zX rfl (by rw [show ((i : Int) - 1) = ((i - 1 : Nat) : Int) by omega]) zU)) (hRa _) (by omega)
 simp only [cB, aL] at hc15
 iterate 13 refine AX ?_
 refine ⟨?_, rfl⟩
 have hq : i = qD (zs.take n) := by
  rcases aY i with h0 | h0
  ·subst h0; rw [← hr]; rfl
  have hs := acA (xs := zs) (k := i - 1) (by omega)
  rw [show i - 1 + 1 = i by omega, aN (by omega), hr] at hs
  exact hs.symm
 rw [← hq]; rfl

theorem bgZ (b n c : Nat) (zs : List Nat) (hz : Limbs zs) (hn : n ≤ zs.length) (hn2 : n ≤ 1000000) (hc : n ≤ c) (H : Heap) (hb : H.objs b = some (.box 166 (U .u32 zs))) : ACall Tryz.prog 311 [.mslice (some ⟨b, 0, none⟩) n c] H (fun y H' => y = .mslice (some ⟨b, 0, none⟩) (qD (zs.take n)) c ∧ H' = H) := by
 have hr := aaW (zs.take n)
 have hrt : (zs.take n).length = n := by simp; omega
 refine ACall.of_body Tryz.func311 rfl Tryz.ntmps311 Tryz.results311 rfl ?_
 iterate 2 refine AX ?_
 refine .p rfl (zA (qK (sz := 1) (tl := .full))) ?_
 iterate 6 refine AX ?_
 refine .cl rfl C314 (evs1 rfl) (avC _ _ _ zs hz hn hn2 hc _ hb) (.p rfl (asU (_) U239 Z166 (tm rfl) (tm rfl) rfl (by omega)) ?_)
 iterate 5 refine AX ?_
 exact ⟨rfl, rfl⟩

end
section
open Go

def dgt (n : Nat) : UInt8 := UInt8.ofNat (48 + n)
def bhV : Nat → Nat → List UInt8 → List UInt8
 | 0, _, acc => acc
 | f + 1, n, acc => if n < 10 then dgt n :: acc else bhV f (n / 10) (dgt (n % 10) :: acc)
def dec (n : Nat) : List UInt8 := bhV (n + 1) n []
theorem akB : ∀ (f n : Nat) (acc : List UInt8), bhV f n acc = bhV f n [] ++ acc
 | 0, _, _ => rfl
 | f + 1, n, acc => by
  unfold bhV
  split
  ·rfl
  rw [akB f (n / 10) (dgt (n % 10) :: acc), akB f (n / 10) [dgt (n % 10)], bV]; rfl
theorem axB : ∀ (f g n : Nat), n < f → n < g → bhV f n [] = bhV g n []
 | 0, _, n, h, _ => absurd h (Nat.not_lt_zero n)
 | _ + 1, 0, n, _, h => absurd h (Nat.not_lt_zero n)
 | f + 1, g + 1, n, h1, h2 => by
  unfold bhV
  split
  ·rfl
  rw [akB f, akB g, axB f g (n / 10) (by omega) (by omega)]
theorem alT (h : n < 10) : dec n = [dgt n] := by
 unfold dec bhV; rw [aO h]
theorem alU (h : 10 ≤ n) : dec n = dec (n / 10) ++ [dgt (n % 10)] := by
 unfold dec
 rw [show bhV (n + 1) n [] = bhV n (n / 10) [dgt (n % 10)] by rw [bhV, aN (by omega)], akB, axB n (n / 10 + 1) (n / 10) (by omega) (by omega)]
theorem dec_lib (n : Nat) : Lib.decDigits n = dec n := by
 induction n using Nat.strongRecOn with
 | ind n ih =>
  unfold Lib.decDigits
  split
  ·rename_i h; rw [alT h]; rfl
  rename_i h; rw [ih _ (by omega), alU (n := n) (by omega)]; rfl
theorem itoa_nat (n : Nat) : Lib.itoa ((n : Nat) : Int) = dec n := by
 unfold Lib.itoa
 rw [aN (by omega), eE, dec_lib]
theorem dec_pos (n : Nat) : 0 < (dec n).length := by
 rcases bZ n 10 with h | h
 ·rw [alT h]; simp
 rw [alU h]; simp
theorem ahR (hk : 0 < k) : (dec n).length ≤ k ↔ n < 10 ^ k := by
 induction k generalizing n with
 | zero => omega
 | succ k ih =>
  rcases bZ n 10 with h | h
  ·rw [alT h]
   have : 10 ^ 1 ≤ 10 ^ (k + 1) := aT (by decide) (by omega)
   simp only [bE, bL]
   omega
  rw [alU h, aS, bE, bL]
  rcases aY k with h0 | h0
  ·subst h0
   have := dec_pos (n / 10)
   rw [show (10 : Nat) ^ (0 + 1) = 10 by decide]
   omega
  rw [Nat.add_le_add_iff_right, ih h0, bO, bJ (by decide)]
def pad : Nat → Nat → List UInt8
 | 0, _ => []
 | k + 1, r => pad k (r / 10) ++ [dgt (r % 10)]
theorem bmT : ∀ (k : Nat), 10 ^ k ≤ n → dec n = dec (n / 10 ^ k) ++ pad k (n % 10 ^ k) := by
 intro k
 induction k generalizing n with
 | zero => intro _; rw [dC, fN, pad, cS]
 | succ k ih =>
  intro h
  have hp : 0 < 10 ^ k := bI (by decide)
  have h1 : 10 ^ k ≤ n / 10 := by rw [cZ (by decide), ← bO]; exact h
  rw [alU (by omega), ih h1, bU, bV, pad, bD 10, ← bO]
  congr 2
  ·congr 1
   rw [bO, bD (10 ^ k) 10, Nat.mod_mul_right_div_self]
  rw [bO, bD (10 ^ k) 10, Nat.mod_mul_right_mod]
theorem bcE : ∀ k : Nat, pad k 0 = List.replicate k 48
 | 0 => rfl
 | k + 1 => by rw [pad, Nat.zero_div, bcE k, List.replicate_succ']; rfl
theorem pad_dec (hk : 0 < k) (h : r < 10 ^ k) : pad k r = List.replicate (k - (dec r).length) 48 ++ dec r := by
 induction k generalizing r with
 | zero => omega
 | succ k ih =>
  rcases bZ r 10 with h1 | h1
  ·rw [alT h1, pad, show r / 10 = 0 by omega, bcE, aW h1]
   simp
  have hk0 : 0 < k := by
   rcases aY k with h0 | h0
   ·subst h0; simp at h; omega
   exact h0
  rw [alU h1, pad, ih hk0 (by rw [bJ (by decide), ← bO]; exact h), aS, bV]
  congr 2
  simp only [bE, bL]
  omega
theorem dec_nine (h : 0 < v / 1000000000) : dec v = dec (v / 1000000000) ++ (List.replicate (9 - (dec (v % 1000000000)).length) 48 ++ dec (v % 1000000000)) := by
 rw [← pad_dec (by decide) (bQ _ (by decide) : v % 1000000000 < 10 ^ 9)]
 exact bmT 9 (by omega)
theorem apB (h : n < BIG) : (dec n).length ≤ 2500 :=
 (ahR (by decide)).2 (bM h (by unfold BIG; decide +kernel))
end
end Go.Proofs.YtmmgbnolccpjoaaGreatDoor
