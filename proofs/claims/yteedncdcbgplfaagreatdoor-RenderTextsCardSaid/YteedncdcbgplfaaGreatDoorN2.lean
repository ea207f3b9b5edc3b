import Derived.Test.YteedncdcbgplfaaGreatDoorZa
import Derived.Test.YteedncdcbgplfaaGreatDoorYd
set_option maxHeartbeats 1000000
namespace Go.Proofs.YteedncdcbgplfaaGreatDoor
open Go Go.RowKit
variable {A Z ws xs zs : List Nat} {i k n o r v : Nat}
section
set_option maxRecDepth 100000

def mid (zs : List Nat) (o : Nat) (ws : List Nat) : List Nat := zs.take o ++ ws ++ zs.drop (o + ws.length)
theorem agN (hn : ws.length = n) (h : o + n ≤ zs.length) : (mid zs o ws).length = zs.length := by
 unfold mid; simp; omega
theorem awM (h : o + n ≤ zs.length) : mid zs o ((zs.drop o).take n) = zs := by
 unfold mid
 rw [List.length_take, List.length_drop, show min n (zs.length - o) = n by omega, List.append_assoc]
 rw [← List.drop_drop, List.take_append_drop, List.take_append_drop]
theorem bdJ (ho : o ≤ zs.length) (hi : i < ws.length) : (mid zs o ws).set (o + i) v = mid zs o (ws.set i v) := by
 unfold mid
 rw [List.length_set, List.append_assoc, List.append_assoc, List.set_append_right _ _ (by rw [List.length_take]; omega), List.length_take, show o + i - min o zs.length = i by omega, List.set_append_left _ _ hi]
theorem blS (ho : o ≤ zs.length) (hi : i < ws.length) : (mid zs o ws).getD (o + i) 0 = ws.getD i 0 := by
 unfold mid
 rw [List.getD_eq_getElem?_getD, List.getD_eq_getElem?_getD, List.append_assoc, List.getElem?_append_right (by rw [List.length_take]; omega), List.length_take, show o + i - min o zs.length = i by omega, List.getElem?_append_left hi]
theorem ahN (hz : Limbs zs) (hw : Limbs ws) : Limbs (mid zs o ws) := ((hz.take _).append hw).append (hz.drop _)
theorem bkF (xs : List Nat) (n : Nat) : ∃ q, val xs = val (xs.take n) + 4294967296 ^ n * q := by
 rcases Nat.lt_or_ge xs.length n with h | h
 ·exact ⟨0, by rw [List.take_of_length_le (by omega)]; omega⟩
 refine ⟨val (xs.drop n), ?_⟩
 have := aaZ (xs.take n) (xs.drop n)
 rw [List.take_append_drop, List.length_take, Nat.min_eq_left h] at this
 exact this
theorem anX {j : Nat} (h : j < n - 0) : ((zs.drop o).take n).getD j 0 = zs.getD (o + j) 0 := by
 rw [List.getD_eq_getElem?_getD, List.getD_eq_getElem?_getD, List.getElem?_take, if_pos (by omega), List.getElem?_drop]
theorem atA {d : Nat} (hd : 0 < d) (hw : ws.length = n) (hi : i < n) (hn : o + n ≤ zs.length) (hg : ws.getD (n - 1 - i) 0 = zs.getD (o + (n - 1 - i)) 0) (h : val (ws.drop (n - i)) * d + r = val (((zs.drop o).take n).drop (n - i))) :
  val ((ws.set (n - 1 - i) ((r * 4294967296 + zs.getD (o + (n - 1 - i)) 0) / d)).drop (n - (i + 1))) * d + (r * 4294967296 + zs.getD (o + (n - 1 - i)) 0) % d = val (((zs.drop o).take n).drop (n - (i + 1))) := by
 have e := anX (zs := zs) (o := o) (n := n) (j := n - 1 - i) (by omega)
 rw [← e] at hg ⊢
 rw [show n - i = n - 1 - i + 1 by omega] at h
 rw [show n - (i + 1) = n - 1 - i by omega]
 exact axQ hd (by omega) (by simp; omega) hg h
def bbK (xs : List Nat) (tl : Tail) (b o n cp s : Nat) (zs : List Nat) (H : Heap) : Nat → Env → Heap → Prop := fun k env H1 => ∃ (i c : Nat) (ws : List Nat), i ≤ n ∧ ws.length = n ∧ Limbs ws ∧ c < 2 ^ s ∧ val (ws.take i) + 4294967296 ^ i * c = val (xs.take i) * 2 ^ s ∧ env = [(0, .mslice (some ⟨b, o, none⟩) n cp), (1, .slice 1 (U .u32 xs) tl), (2, .int .i64 (s : Int)), (6, .int .u64 (c : Int)), (9, .int .i64 (n : Int)), (10, .int .i64 (i : Int))] ∧ H1 = H.set b (.box 210 (U .u32 (mid zs o ws))) ∧ k = n - i

theorem atD (xs : List Nat) (tl : Tail) (hx : Limbs xs) (hl : xs.length ≤ 1000000) (b o n cp s : Nat) (zs : List Nat) (hz : Limbs zs) (hn : o + n ≤ zs.length) (hn2 : n ≤ 1000000) (hs : s < 32) (H : Heap) (hb : H.objs b = some (.box 210 (U .u32 zs))) : ACall Tryz.prog 242 [.mslice (some ⟨b, o, none⟩) n cp, .slice 1 (U .u32 xs) tl, .int .i64 (s : Int)] H (fun _ H' => ∃ ws : List Nat, ws.length = n ∧ Limbs ws ∧ val ws = val xs * 2 ^ s % 4294967296 ^ n ∧ H' = H.set b (.box 210 (U .u32 (mid zs o ws)))) := by
 have h2s : 2 ^ s ≤ 2 ^ 31 := Nat.pow_le_pow_right (by decide) (by omega)
 have h2p : 0 < 2 ^ s := Nat.pow_pos (by decide)
 refine ACall.of_body Tryz.func242 rfl Tryz.ntmps242 Tryz.results242 rfl ?_
 iterate 9 refine AM ?_
 iterate 4 refine AX ?_
 refine AWP.loopW (bbK xs tl b o n cp s zs H) (n) ⟨0, 0, (zs.drop o).take n, Nat.zero_le _, by simp; omega, (hz.drop _).take _, by omega, by simp [val], rfl, (Heap.set_self (by rw [awM hn]; exact hb)).symm, rfl⟩ sX (hRa _) ?_
 rintro _ _ _ ⟨i, c, ws, hi, hw, hwl, hc, hv, rfl, rfl, hk⟩
 iterate 6 refine AX ?_
 refine AWP.cx rfl (fun hc11 => ?_) (fun hc11 => ?_)
 ·have hg := Limbs.getD hx i
  obtain ⟨hv2, hc2, hc3⟩ := axS (by omega : i < ws.length) (by omega) hg hc hv
  have hml := agN (o := o) hw hn
  have hxs2 : xs.getD i 0 * 2 ^ s ≤ 4294967295 * 2 ^ s := Nat.mul_le_mul_right _ (by omega)
  iterate 10 refine AX ?_
  refine AWP.seqToL [(6, .int .u64 ((c + xs.getD i 0 * 2 ^ s : Nat) : Int))] [0, 1, 2, 9, 10, 7] ?_ ?_
  ·iterate 8 refine AX ?_
   refine AWP.cx rfl (fun hc16 => ?_) (fun hc16 => ?_)
   ·iterate 4 refine AX ?_
    refine .p rfl (yW (i) U159 Z210 (tm rfl) (tm rfl) (by omega) (by omega)) ?_
    iterate 3 refine AX ?_
    refine .p rfl (aeE (tm rfl) (tm rfl) (by omega) (by omega)) (.p rfl (afH (tm rfl) (tm rfl) (by omega) (by omega)) ?_)
    iterate 2 refine AX ?_
    exact ⟨rfl, (yD rfl (by (rw [bcT hc])) sX), rfl⟩
   refine AX ?_
   exact ⟨rfl, (yD rfl (by (rw [ahV (by omega), Nat.zero_mul]; rfl)) sX), rfl⟩
  refine AWP.sub [(6, _), (0, _), (1, _), (2, _), (9, _), (10, _), (7, _)] sX ?_
  iterate 6 refine AX ?_
  refine .p rfl (afI (i) U159 Z210 (tm rfl) (tm rfl) (by omega) (by omega)) (.e0 (aaE Z210 (tm rfl) (tm rfl) (oS _ _ _) (by omega)) ?_)
  try first | rw [sS] | rw [sU (by assumption)]
  iterate 10 refine AM ?_
  iterate 4 refine AX ?_
  refine Round.mk (J := bbK xs tl b o n cp s zs H) ⟨i + 1, _, _, by omega, by simpa using hw, Limbs.set hwl (by omega), hc2, hv2, rfl, by rw [bdJ (by omega) (by omega)]; rfl, rfl⟩ sX (hRa _) (by omega)
 iterate 4 refine AX ?_
 refine Ret.go' .nil _ (hRa _) ?_
 have hin : i = n := by omega
 subst hin
 refine ⟨ws, hw, hwl, ?_, rfl⟩
 obtain ⟨q, hq⟩ := bkF xs i
 rw [hq, Nat.add_mul, Nat.mul_assoc, Nat.add_mul_mod_self_left]
 exact bfY hwl hw hv

def bbJ (b o n cp d : Nat) (zs : List Nat) (H : Heap) : Nat → Env → Heap → Prop := fun k env H1 => ∃ (i r : Nat) (ws : List Nat), i ≤ n ∧ ws.length = n ∧ Limbs ws ∧ r < d ∧ (∀ j, j < n - i → ws.getD j 0 = zs.getD (o + j) 0) ∧ val (ws.drop (n - i)) * d + r = val (((zs.drop o).take n).drop (n - i)) ∧ env = [(0, .mslice (some ⟨b, o, none⟩) n cp), (1, .int .u32 (d : Int)), (5, .int .u64 (r : Int)), (10, .int .i64 (n : Int)), (11, .int .i64 (i : Int))] ∧ H1 = H.set b (.box 210 (U .u32 (mid zs o ws))) ∧ k = n - i

theorem atC (b o n cp d : Nat) (hd : 0 < d) (hd2 : d < 4294967296) (zs : List Nat) (hz : Limbs zs) (hn : o + n ≤ zs.length) (hn2 : n ≤ 1000000) (H : Heap) (hb : H.objs b = some (.box 210 (U .u32 zs))) : ACall Tryz.prog 201 [.mslice (some ⟨b, o, none⟩) n cp, .int .u32 (d : Int)] H (fun y H' => y = .int .u32 ((val ((zs.drop o).take n) % d : Nat) : Int) ∧ ∃ ws : List Nat, ws.length = n ∧ Limbs ws ∧ val ws = val ((zs.drop o).take n) / d ∧ H' = H.set b (.box 210 (U .u32 (mid zs o ws)))) := by
 refine ACall.of_body Tryz.func201 rfl Tryz.ntmps201 Tryz.results201 rfl ?_
 iterate 15 refine AM ?_
 iterate 4 refine AX ?_
 refine AWP.loopW (bbJ b o n cp d zs H) (n) ⟨0, 0, (zs.drop o).take n, Nat.zero_le _, by simp; omega, (hz.drop _).take _, by omega, fun j hj => anX hj, by simp [val], rfl, (Heap.set_self (by rw [awM hn]; exact hb)).symm, rfl⟩ sX (hRa _) ?_
 rintro _ _ _ ⟨i, r, ws, hi, hw, hwl, hr, hgs, hv, rfl, rfl, hk⟩
 iterate 6 refine AX ?_
 refine AWP.cx rfl (fun hc12 => ?_) (fun hc12 => ?_)
 ·have hg := hgs (n - 1 - i) (by omega)
  have hx := Limbs.getD hz (o + (n - 1 - i))
  have hml := agN (o := o) hw hn
  have hsh : r * 2 ^ 32 < 18446744073709551616 := by rw [show (2 : Nat) ^ 32 = 4294967296 by decide]; omega
  have hgm := Limbs.getD (ahN (o := o) hz hwl) (o + (n - 1 - i))
  obtain ⟨hf1, hf2⟩ := axR hr hx hd2
  have hq : (r * 4294967296 + zs.getD (o + (n - 1 - i)) 0) / d % 2 ^ IntKind.u32.bits = (r * 4294967296 + zs.getD (o + (n - 1 - i)) 0) / d := Nat.mod_eq_of_lt hf1
  have hm2 := Nat.mod_lt (r * 4294967296 + zs.getD (o + (n - 1 - i)) 0) hd
  iterate 20 refine AX ?_
  refine AWP.seqToL [(8, .int .u64 ((r * 4294967296 + zs.getD (o + (n - 1 - i)) 0 : Nat) : Int))] [0, 1, 5, 10, 11, 7] ?_ ?_
  ·-- region 6
   iterate 2 refine AX ?_
   refine .p rfl (aeE (tm rfl) (yQ 32) (by omega) (by exact hsh)) ?_
   iterate 2 refine AX ?_
   refine .p rfl (afI (n - 1 - i) U159 Z210 (tm rfl) (tm rfl) (by omega) (by omega)) (.e rfl (acE G210 (tm rfl) (oS _ _ _) (by omega)) ?_)
   refine AX ?_
   refine .p rfl (afH (tm rfl) (tm rfl) (hsh) (by omega)) ?_
   iterate 2 refine AX ?_
   exact ⟨rfl, (yD rfl (by rw [blS (by omega) (by omega), hg, ← bcU (k := 32) (Nat.lt_of_lt_of_eq hx (by decide))]) sX), rfl⟩
  refine AWP.sub [(8, _), (0, _), (1, _), (5, _), (10, _), (11, _), (7, _)] sX ?_
  refine AWP.draw [(0, true), (1, true), (2, true), (3, true), (4, true), (5, true), (6, true), (7, true), (8, true), (9, true), (10, true), (11, true), (12, false), (13, true)] rfl (by decide +kernel) ?_
  iterate 5 refine AX ?_
  refine .p rfl rfl (ayD (tm rfl) (tm rfl) (by omega) (by omega)) ?_
  iterate 4 refine AX ?_
  refine .p rfl rfl (abN (tm rfl) (tm rfl) (by omega)) (.p rfl rfl (afI (n - 1 - i) U159 Z210 (tm rfl) (tm rfl) (by omega) (by omega)) (.s0 rfl (aaE Z210 (tm rfl) (tm rfl) (oS _ _ _) (by omega)) ?_))
  rintro _ _ ⟨rfl, hH⟩
  obtain rfl := hH.symm
  try first | rw [sS] | rw [sU (by assumption)]
  iterate 9 refine AX ?_
  rw [hq]
  refine Round.mk (J := bbJ b o n cp d zs H) ⟨i + 1, _, _, by omega, by simpa using hw, Limbs.set hwl hf1, hm2, fun j hj => by rw [getD_set_ne (by omega)]; exact hgs j (by omega), atA hd hw (by omega) hn hg hv, rfl, by rw [bdJ (by omega) (by omega)], rfl⟩ sX (hRa _) (by omega)
 iterate 14 refine AX ?_
 have hin : i = n := by omega
 subst hin
 rw [Nat.sub_self, List.drop_zero, List.drop_zero] at hv
 rw [← hv]
 refine ⟨?_, ws, hw, hwl, ?_, rfl⟩
 ·simp only [yN]; congr 1; rw [Nat.mul_comm, Nat.mul_add_mod, Nat.mod_eq_of_lt hr, Nat.mod_eq_of_lt]; simp only [IntKind.bits]; omega
 rw [Nat.mul_comm, Nat.mul_add_div hd, Nat.div_eq_of_lt hr]; rfl

end
section
open Go Go.RowKit
set_option maxRecDepth 100000

theorem bnE {s : Nat} (hv : 0 < v) (h : v * 2 ^ s < BIG) : s < 8192 ∧ amC v + s ≤ 8192 ∧ v < BIG := by
 have h1 : 2 ^ s ≤ v * 2 ^ s := Nat.le_mul_of_pos_left _ hv
 have h5 : v ≤ v * 2 ^ s := Nat.le_mul_of_pos_right _ (Nat.pow_pos (by decide))
 have h6 : v < BIG := Nat.lt_of_le_of_lt h5 h
 obtain ⟨k, hk, hB⟩ : ∃ k, k = 8192 ∧ BIG = 2 ^ k := ⟨32 * 256, rfl, bfI _ rfl⟩
 rw [hB] at h
 have h2 : s < k := (Nat.pow_lt_pow_iff_right (a := 2) (by decide)).1 (Nat.lt_of_le_of_lt h1 h)
 have h3 : v < 2 ^ (k - s) := by
  rw [show k = (k - s) + s by omega, Nat.pow_add] at h
  exact Nat.lt_of_mul_lt_mul_right h
 have h4 := agR.2 h3
 exact ⟨by omega, by omega, h6⟩
theorem ahP {s : Nat} (h : v * 2 ^ s < BIG) : v < BIG := Nat.lt_of_le_of_lt (Nat.le_mul_of_pos_right _ (Nat.pow_pos (by decide))) h
theorem ahJ (s : Nat) : 4294967296 ^ (s / 32) * 2 ^ (s % 32) = 2 ^ s := by
 rw [show (4294967296 : Nat) = 2 ^ 32 by decide, ← Nat.pow_mul, ← Nat.pow_add]
 congr 1; omega
theorem bfS {m : Nat} (h : o + ws.length = m) : val (mid (List.replicate m 0) (0 + o) ws) = 4294967296 ^ o * val ws := by
 unfold mid
 rw [Nat.zero_add, List.take_replicate, List.drop_replicate, List.append_assoc, aaZ, aoI, aaZ, aoI, List.length_replicate, Nat.min_eq_left (by omega), Nat.mul_zero, Nat.add_zero, Nat.zero_add]
theorem bkS {s : Nat} (hv : v < 4294967296 ^ n) (hw : val ws = v * 2 ^ (s % 32) % 4294967296 ^ (n + 1)) : 4294967296 ^ (s / 32) * val ws = v * 2 ^ s := by
 have h1 : 2 ^ (s % 32) ≤ 2 ^ 31 := Nat.pow_le_pow_right (by decide) (by omega)
 have h2 : v * 2 ^ (s % 32) < 4294967296 ^ n * 4294967296 := Nat.mul_lt_mul_of_lt_of_le hv (by omega) (by decide)
 rw [hw, Nat.mod_eq_of_lt (by rw [Nat.pow_succ]; exact h2), Nat.mul_left_comm, ahJ]

theorem asI (xs : List Nat) (tl : Tail) (hx : Limbs xs) (hl : xs.length ≤ 1000000) (s : Nat) (hs : val xs * 2 ^ s < BIG) (hs2 : s < 1000000000) (H : Heap) : ACall Tryz.prog 168 [.slice 1 (U .u32 xs) tl, .int .i64 (s : Int)] H (fun y H' => y = .tuple [aaS (val xs * 2 ^ s), .int .i64 0] ∧ H' = H) := by
 have hB := ahP hs
 have h256 := abI hB
 have hr := aaO xs
 have hrl := abG hx
 refine ACall.of_body Tryz.func168 rfl Tryz.ntmps168 Tryz.results168 rfl ?_
 iterate 15 refine AM ?_
 refine AWP.cx rfl (fun hc7 => ?_) (fun hc7 => ?_)
 ·omega
 iterate 3 refine AX ?_
 refine .e rfl (yU U314 Z159 V159 rfl (tm rfl) (.inl rfl) ⟨rfl, rfl⟩) (.cl rfl C193 (evs1 rfl) (alK _ _ _ (by assumption) (by assumption) _) ?_)
 iterate 3 refine AX ?_
 refine AWP.cx rfl (fun hc10 => ?_) (fun hc10 => ?_)
 ·omega
 iterate 3 refine AX ?_
 refine .cl rfl C240 (evs1 rfl) (abL _ _ (by assumption) (by assumption) _) ?_
 iterate 4 refine AM ?_
 refine AWP.cx rfl (fun hc14 => ?_) (fun hc14 => ?_)
 ·iterate 10 refine AM ?_
  refine ⟨?_, rfl⟩
  rw [qI (by omega), Nat.zero_mul]; rfl
 have hpos : 0 < val xs := Nat.pos_of_ne_zero (fun h => by have := qJ h; omega)
 obtain ⟨hs3, hs4, _⟩ := bnE hpos hs
 refine AWP.seqTo 18 (.bool (false)) [0, 1, 4, 5] ?_ ?_
 ·-- region 7
  iterate 4 refine AM ?_
  refine zB (t := 21) rfl (fun hg21 => ?_) (fun hg21 => ?_)
  ·iterate 8 refine AX ?_
   exact ⟨rfl, zP rfl (by (simp at hg21; omega)) sX, rfl⟩
  refine AX ?_
  refine .gs rfl rfl rfl (by assumption) (zE Tryz.call241 (evs1 rfl) (bfF _ _ (by assumption) (by assumption) _)) ?_
  rintro _ _ ⟨rfl, hH⟩
  obtain rfl := hH.symm
  iterate 6 refine AM ?_
  exact ⟨rfl, zP rfl (by (simp; omega)) sX, rfl⟩
 refine AWP.sub [(18, _), (0, _), (1, _), (4, _), (5, _)] sX ?_
 refine AWP.cond_false (tm rfl) (by rfl) ?_
 iterate 6 refine AX ?_
 refine .cl rfl C194 (evs1 rfl) (qT _ _ (by assumption) (by assumption) _) ?_
 iterate 11 refine AM ?_
 refine .s rfl (qK (s / 32 + (zK (val xs)).length + 1) U159 Tryz.typeInfo210 Z210 V210 (tm rfl) (tm rfl) (by omega) (by omega) (by decide) (by omega)) ?_
 rintro _ _ ⟨b36, rfl, hb36, hH⟩
 obtain rfl := hH.symm
 iterate 8 refine AM ?_
 refine .p rfl (aoV (_) U159 Z210 (tm rfl) (tm rfl) rfl (by omega) (by omega) (by omega)) ?_
 iterate 2 refine AX ?_
 refine .p rfl (alA (tm rfl) (yQ 32) (by omega)) ?_
 refine .s rfl (zE Tryz.call242 (evs3 rfl rfl rfl) (atD (zK (val xs)) .shared (zS _) (by omega) b36 (0 + s / 32) _ _ (s % 32) (List.replicate (s / 32 + (zK (val xs)).length + 1) 0) (Limbs.rep (by omega)) (by simp; omega) (by omega) (Nat.mod_lt _ (by decide)) _ (oS _ _ _))) ?_
 rintro _ _ ⟨ws, hw, hwl, hv, hH⟩
 obtain rfl := hH.symm
 rw [sS]
 iterate 3 refine AX ?_
 rw [show s / 32 + (zK (val xs)).length + 1 - s / 32 = (zK (val xs)).length + 1 by omega] at hw hv
 have hmL := ahN (o := 0 + s / 32) (Limbs.rep (n := s / 32 + (zK (val xs)).length + 1) (x := 0) (by omega)) hwl
 have hml : (mid (List.replicate (s / 32 + (zK (val xs)).length + 1) 0) (0 + s / 32) ws).length ≤ 1000000 := by rw [agN hw (by simp; omega)]; simp; omega
 refine AWP.frzU (t := 6) rfl hb36 (by rw [agN hw (by simp; omega)]; simp) (Nat.le_refl _) (by simp only [zT]; omega) ?_
 rw [List.take_of_length_le (by rw [agN hw (by simp; omega)]; simp)]
 iterate 2 refine AX ?_
 refine .cl rfl C194 (evs1 rfl) (qT _ _ (by assumption) (by assumption) _) ?_
 iterate 6 refine AM ?_
 refine ⟨?_, rfl⟩
 rw [yG] at hv
 rw [bfS (by omega), bkS (qS.1 (Nat.le_refl _)) hv]; rfl

end
theorem auX {P : Program} {n : Fr} {cd : Code} {Q : Exit → Env → Heap → Prop} {env : Env} {H : Heap} {b : Bool} {t : Nat} (_h : env.get? t = some (.bool b)) (ht : b = true → AWP P n cd Q env H) (hf : b = false → AWP P n cd Q env H) : AWP P n cd Q env H := by
 grind
theorem biF (x r : Nat) : x &&& (2 ^ r - 1) = x % 2 ^ r := Nat.and_two_pow_sub_one_eq_mod x r
def axO (r : Nat) : List Nat → List Nat
 | [] => []
 | x :: xs => (x + xs.getD 0 0 * 4294967296) / 2 ^ r % 4294967296 :: axO r xs
theorem avP (r : Nat) : ∀ xs : List Nat, (axO r xs).length = xs.length
 | [] => rfl
 | x :: xs => by rw [axO, List.length_cons, List.length_cons, avP r xs]
theorem anA (r : Nat) : ∀ xs : List Nat, Limbs (axO r xs)
 | [] => Limbs.nil
 | x :: xs => Limbs.mk (Nat.mod_lt _ (by decide)) (anA r xs)
theorem bgF (r : Nat) (h : i < xs.length) : (axO r xs).getD i 0 = (xs.getD i 0 + xs.getD (i + 1) 0 * 4294967296) / 2 ^ r % 4294967296 := by
 induction xs generalizing i with
 | nil => simp at h
 | cons x xs ih =>
  rw [axO]
  cases i with
  | zero => rw [List.getD_cons_zero, List.getD_cons_zero, List.getD_cons_succ]
  | succ i => rw [List.getD_cons_succ, List.getD_cons_succ, List.getD_cons_succ]; exact ih (by simpa using h)
theorem bgE {x y W P D : Nat} (hr : 2 ^ r = P) (hB : 4294967296 = P * D) (hx : x < 4294967296) :
  (x + 4294967296 * (y + 4294967296 * W)) / P = (x + y * 4294967296) / P % 4294967296 + 4294967296 * ((y + 4294967296 * W) / P) := by
 have hP : 0 < P := by rw [← hr]; exact Nat.pow_pos (by decide)
 have hD : 0 < D := by
  rcases Nat.eq_zero_or_pos D with h | h
  ·grind
  exact h
 have hxD : x / P < D := by rw [Nat.div_lt_iff_lt_mul hP, Nat.mul_comm, ← hB]; exact hx
 have e1 : ∀ Z, (x + 4294967296 * Z) / P = x / P + D * Z := fun Z => by rw [hB, Nat.mul_assoc, Nat.add_mul_div_left _ _ hP]
 rw [e1, Nat.mul_comm y, e1]
 generalize hV : y + 4294967296 * W = V
 have ht : V % P = y % P := by rw [← hV, hB, Nat.mul_assoc, Nat.add_mul_mod_self_left]
 have hm := Nat.mod_lt y hP
 have e2 : D * V = D * (y % P) + 4294967296 * (V / P) := by
  rw [← ht]
  conv => lhs; rw [← Nat.div_add_mod V P]
  rw [Nat.mul_add, hB, ← Nat.mul_assoc, Nat.mul_comm D P]; omega
 have e3 : D * y = D * (y % P) + 4294967296 * (y / P) := by
  conv => lhs; rw [← Nat.div_add_mod y P]
  rw [Nat.mul_add, hB, ← Nat.mul_assoc, Nat.mul_comm D P]; omega
 have hlt : x / P + D * (y % P) < 4294967296 := by
  have h1 : D * (y % P + 1) ≤ D * P := Nat.mul_le_mul_left _ hm
  rw [Nat.mul_add, Nat.mul_comm D P, ← hB] at h1
  omega
 rw [e2, e3, ← Nat.add_assoc, ← Nat.add_assoc, Nat.add_mul_mod_self_left, Nat.mod_eq_of_lt hlt]
theorem avO {r : Nat} (hr : r ≤ 32) : ∀ {xs : List Nat}, Limbs xs → val (axO r xs) = val xs / 2 ^ r
 | [], _ => by simp [axO, val]
 | x :: xs, h => by
  obtain ⟨hx, hxs⟩ := h.cons
  rw [axO, val, val, avO hr hxs]
  have hB : 4294967296 = 2 ^ r * 2 ^ (32 - r) := by rw [← Nat.pow_add, show r + (32 - r) = 32 by omega]
  cases xs with
  | nil =>
   simp only [val, List.getD_nil, Nat.zero_mul, Nat.mul_zero, Nat.add_zero, Nat.zero_div]
   rw [Nat.mod_eq_of_lt]
   exact Nat.lt_of_le_of_lt (Nat.div_le_self _ _) hx
  | cons y ys =>
   rw [List.getD_cons_zero, val]
   exact (bgE rfl hB hx).symm
theorem bkR (hl : A.length = Z.length) (hi : i < Z.length) : (A.take i ++ Z.drop i).set i (A.getD i 0) = A.take (i + 1) ++ Z.drop (i + 1) := by
 have hA : i < A.length := by omega
 rw [List.set_append_right _ _ (by rw [List.length_take]; omega), List.length_take, show i - min i A.length = 0 by omega, List.drop_eq_getElem_cons hi, List.set_cons_zero, ← List.take_append_getElem hA, List.append_assoc, List.getD_eq_getElem?_getD, List.getElem?_eq_getElem hA]
 rfl
theorem bbG {j : Nat} (hl : A.length = Z.length) (hi : i ≤ Z.length) (hj : i ≤ j) : (A.take i ++ Z.drop i).getD j 0 = Z.getD j 0 := by
 grind
theorem asY (hl : A.length = Z.length) (hi : i ≤ Z.length) : (A.take i ++ Z.drop i).length = Z.length := by
 grind
theorem azK {ys : List Nat} {m : Nat} (h : ys.length = m) : (List.replicate m 0).take 0 ++ ys.take m ++ (List.replicate m 0).drop (0 + min ys.length m) = ys := by
 grind
theorem avL (h : k ≤ xs.length) : val xs = val (xs.take k) + 4294967296 ^ k * val (xs.drop k) := by
 have := aaZ (xs.take k) (xs.drop k)
 rw [List.take_append_drop, List.length_take, Nat.min_eq_left h] at this
 exact this
theorem baW (hx : Limbs xs) (h : k ≤ xs.length) : val (xs.take k) < 4294967296 ^ k := by
 have := amV (hx.take k)
 rwa [List.length_take, Nat.min_eq_left h] at this
theorem awV (hx : Limbs xs) (h : k ≤ xs.length) : val (xs.drop k) = val xs / 4294967296 ^ k := by
 have h1 := avL h
 have h2 := baW hx h
 rw [h1, Nat.add_mul_div_left _ _ (Nat.pow_pos (by decide)), Nat.div_eq_of_lt h2, Nat.zero_add]
theorem bkQ {s : Nat} (h : s / 32 ≤ (zK v).length) : val (axO (s % 32) ((zK v).drop (s / 32))) = v / 2 ^ s := by
 rw [avO (by omega) ((zS v).drop _), awV (zS v) h, yG, Nat.div_div_eq_div_mul, ahJ]
theorem bgD {s : Nat} (h : (zK v).length ≤ s / 32) : v < 2 ^ s := by
 have h1 := qS.1 h
 have h2 : 4294967296 ^ (s / 32) ≤ 2 ^ s := by
  rw [← ahJ]
  exact Nat.le_mul_of_pos_right _ (Nat.pow_pos (by decide))
 omega
theorem awN {s : Nat} (h : s / 32 < (zK v).length) : v % 2 ^ s = 0 ↔ yS ((zK v).take (s / 32)) = 0 ∧ (zK v).getD (s / 32) 0 % 2 ^ (s % 32) = 0 := by
 have h1 := avL (Nat.le_of_lt h)
 have h2 := baW (zS v) (Nat.le_of_lt h)
 rw [yG] at h1
 have e : v % 2 ^ s = val ((zK v).take (s / 32)) + 4294967296 ^ (s / 32) * ((zK v).getD (s / 32) 0 % 2 ^ (s % 32)) := by
  rw [← ahJ, Nat.mod_mul]
  have hd : (zK v).drop (s / 32) = (zK v).getD (s / 32) 0 :: (zK v).drop (s / 32 + 1) := by
   rw [List.drop_eq_getElem_cons h, List.getD_eq_getElem?_getD, List.getElem?_eq_getElem h]; rfl
  have h3 : v / 4294967296 ^ (s / 32) = (zK v).getD (s / 32) 0 + 4294967296 * val ((zK v).drop (s / 32 + 1)) := by
   have := awV (zS v) (Nat.le_of_lt h)
   rw [hd, yG, val] at this
   exact this.symm
  have h4 : v % 4294967296 ^ (s / 32) = val ((zK v).take (s / 32)) := by
   conv => lhs; rw [h1]
   rw [Nat.add_mul_mod_self_left, Nat.mod_eq_of_lt h2]
  rw [h3, h4]
  congr 2
  rw [show (4294967296 : Nat) = 2 ^ (s % 32) * 2 ^ (32 - s % 32) by rw [← Nat.pow_add, show s % 32 + (32 - s % 32) = 32 by omega], Nat.mul_assoc, Nat.add_mul_mod_self_left]
 rw [e]
 have hp : 0 < 4294967296 ^ (s / 32) := Nat.pow_pos (by decide)
 constructor
 ·intro h
  refine ⟨qJ (by omega), ?_⟩
  have h0 : 4294967296 ^ (s / 32) * ((zK v).getD (s / 32) 0 % 2 ^ (s % 32)) = 0 := by omega
  rcases Nat.mul_eq_zero.1 h0 with h5 | h5
  ·omega
  exact h5
 rintro ⟨h5, h6⟩
 rw [qI h5, h6]; rfl
section
open Go Go.RowKit
set_option maxRecDepth 100000

theorem blV {s : Nat} (h : s / 32 < (zK v).length) (hg : decide (((0 : Nat) : Int) < (yS ((zK v).take (s / 32)) : Int)) = false) : decide (¬ (((((zK v).drop (s / 32)).getD 0 0 &&& (1 * 2 ^ (s % 32) - 1) : Nat) : Int) = ((0 : Nat) : Int))) = decide (v % 2 ^ s ≠ 0) := by
 have e : ((zK v).drop (s / 32)).getD 0 0 = (zK v).getD (s / 32) 0 := by
  rw [List.getD_eq_getElem?_getD, List.getD_eq_getElem?_getD, List.getElem?_drop]; rfl
 have hg2 : yS ((zK v).take (s / 32)) = 0 := by simpa using hg
 have hl := awN h
 rw [decide_eq_decide, e, Nat.one_mul, biF]
 constructor
 ·intro h1 h2; exact h1 (by rw [(hl.1 h2).2])
 intro h1 h2; exact h1 (hl.2 ⟨hg2, by omega⟩)
theorem blX : decide (((0 : Nat) : Int) < ((zK v).length : Int)) = decide (v ≠ 0) := by
 rw [decide_eq_decide]
 rcases Nat.eq_zero_or_pos v with h | h
 ·subst h; rw [abR]; simp
 rw [aaI h]; simp; omega

def bnD (v s : Nat) (b : Nat) (H : Heap) : Nat → Env → Heap → Prop := fun k env H1 => ∃ i : Nat, i ≤ ((zK v).length - s / 32) ∧ env = [(8, .bool (decide (v % 2 ^ s ≠ 0))), (9, .mslice (some ⟨b, 0, none⟩) ((zK v).length - s / 32) ((zK v).length - s / 32)), (10, .int .i64 ((s % 32 : Nat) : Int)), (66, .int .i64 ((((zK v).length - s / 32) : Nat) : Int)), (67, .int .i64 (i : Int))] ∧ H1 = H.set b (.box 210 (U .u32 ((axO (s % 32) ((zK v).drop (s / 32))).take i ++ ((zK v).drop (s / 32)).drop i))) ∧ k = ((zK v).length - s / 32) - i

theorem bfB (xs : List Nat) (tl : Tail) (hx : Limbs xs) (hl : xs.length ≤ 1000000) (s : Nat) (hs : val xs < BIG) (hs2 : s < 1000000000) (H : Heap) : ACall Tryz.prog 169 [.slice 1 (U .u32 xs) tl, .int .i64 (s : Int)] H (fun y H' => y = .tuple [aaS (val xs / 2 ^ s), .bool (decide (val xs % 2 ^ s ≠ 0)), .int .i64 0] ∧ H' = H) := by
 have h256 := abI hs
 have hr := aaO xs
 have hrl := abG hx
 refine ACall.of_body Tryz.func169 rfl Tryz.ntmps169 Tryz.results169 rfl ?_
 iterate 16 refine AM ?_
 refine AWP.cx rfl (fun hc13 => ?_) (fun hc13 => ?_)
 ·omega
 iterate 3 refine AX ?_
 refine .e rfl (yU U314 Z159 V159 rfl (tm rfl) (.inl rfl) ⟨rfl, rfl⟩) (.cl rfl C193 (evs1 rfl) (alK _ _ _ (by assumption) (by assumption) _) ?_)
 iterate 3 refine AX ?_
 refine AWP.cx rfl (fun hc16 => ?_) (fun hc16 => ?_)
 ·omega
 iterate 6 refine AX ?_
 refine .cl rfl C194 (evs1 rfl) (qT _ _ (by assumption) (by assumption) _) ?_
 iterate 3 refine AX ?_
 refine AWP.seqToL [(7, .int .i64 ((min (s / 32) (zK (val xs)).length : Nat) : Int))] [0, 1, 4, 5, 6] ?_ ?_
 ·-- region 6
  iterate 8 refine AM ?_
  exact ⟨rfl, (yD rfl (by congr 1; simp only [arR]; first | omega | (split <;> omega)) sX), rfl⟩
 refine AWP.sub [(7, _), (0, _), (1, _), (4, _), (5, _), (6, _)] sX ?_
 refine AX ?_
 generalize hK : min (s / 32) (zK (val xs)).length = K
 generalize val xs = v at *
 have htk := (zS v).take K
 have htl : ((zK v).take K).length ≤ 1000000 := by simp; omega
 have hp2 : 1 ≤ 2 ^ (s % 32) := Nat.pow_pos (by decide)
 have hp3 : 2 ^ (s % 32) ≤ 2147483648 := Nat.le_trans (Nat.pow_le_pow_right (by decide) (by omega : s % 32 ≤ 31)) (by decide)
 iterate 3 refine AX ?_
 refine .p rfl (ahF (_) U159 Z210 (tm rfl) (tm rfl) rfl (by omega)) (.cl rfl C240 (evs1 rfl) (abL _ _ (by assumption) (by assumption) _) ?_)
 iterate 10 refine AM ?_
 refine .s rfl (qK ((zK v).length - K) U159 Tryz.typeInfo210 Z210 V210 (tm rfl) (tm rfl) (by omega) (by omega) (by decide) (by omega)) ?_
 rintro _ _ ⟨b36, rfl, hb36, hH⟩
 obtain rfl := hH.symm
 iterate 8 refine AX ?_
 refine .p rfl (aoX (_) U159 Z210 (tm rfl) (tm rfl) rfl (by omega)) (.e rfl (aiH U159 Z210 (tm rfl) (tm rfl) (oS _ _ _) (by (simp; done))) ?_)
 try first | rw [sS] | rw [sU (by assumption)]
 iterate 3 refine AX ?_
 rw [azK (by simp)]
 iterate 2 refine AX ?_
 refine .p rfl (alA (tm rfl) (yQ 32) (by omega)) ?_
 iterate 4 refine AX ?_
 refine AWP.seqTo 52 (.bool (decide ((zK v).length ≤ s / 32))) [4, 5, 6, 8, 9, 10] ?_ ?_
 ·-- region 11
  iterate 5 refine AM ?_
  refine zB (t := 47) rfl (fun hg47 => ?_) (fun hg47 => ?_)
  ·iterate 6 refine AX ?_
   exact ⟨rfl, zP rfl (by (simp at hg47; simp; omega)) sX, rfl⟩
  iterate 6 refine AM ?_
  exact ⟨rfl, zP rfl (by (simp at hg47; simp; omega)) sX, rfl⟩
 refine AWP.sub [(52, _), (4, _), (5, _), (6, _), (8, _), (9, _), (10, _)] sX ?_
 refine AWP.cx rfl (fun hc52 => ?_) (fun hc52 => ?_)
 ·refine AX ?_
  refine AWP.frzU (t := 9) rfl hb36 (by simp <;> omega) (Nat.le_refl _) (by simp only [zT]; omega) ?_
  iterate 10 refine AM ?_
  refine ⟨?_, rfl⟩
  have hle : (zK v).length ≤ s / 32 := by omega
  have hvs := bgD hle
  rw [List.take_of_length_le (by omega), alN, Nat.div_eq_of_lt hvs, Nat.mod_eq_of_lt hvs, blX]; rfl
 have hK2 : K = s / 32 := by omega
 subst hK2
 have hlt : s / 32 < (zK v).length := by omega
 have hli := awN hlt
 have hx00 := Limbs.getD ((zS v).drop (s / 32)) 0
 have hAl : (axO (s % 32) ((zK v).drop (s / 32))).length = ((zK v).drop (s / 32)).length := avP _ _
 have hZl : ((zK v).drop (s / 32)).length = ((zK v).length - s / 32) := List.length_drop
 iterate 2 refine AX ?_
 refine AWP.seqTo 8 (.bool (decide (v % 2 ^ s ≠ 0))) [4, 5, 6, 9, 10] ?_ ?_
 ·-- region 13
  refine auX (t := 8) rfl (fun hg8 => ?_) (fun hg8 => ?_)
  ·refine AWP.draw [(0, true), (1, true), (2, true), (3, true), (4, true), (5, true), (6, true), (7, true), (8, true), (9, true), (10, true), (11, true)] rfl (by decide +kernel) ?_
   iterate 13 refine AX ?_
   exact ⟨rfl, zP rfl (by (simp at hg8; simp; omega)) sX, rfl⟩
  refine AWP.draw [(0, true), (1, true), (2, true), (3, true), (5, true), (6, true), (7, true), (4, false), (8, true), (9, true), (10, true), (11, true)] rfl (by decide +kernel) ?_
  iterate 3 refine AX ?_
  refine .gp rfl rfl rfl rfl (by assumption) (qM (0) U159 Z210 (tm rfl) (yQ 0) (by omega) (by omega)) ?_
  refine AX ?_
  refine .gp rfl rfl rfl rfl (by assumption) (atX (yQ 1) (tm rfl) (by omega) (by omega)) (.gp rfl rfl rfl rfl (by assumption) (atW (tm rfl) (yQ 1) (by omega) (by omega)) (.gs rfl rfl rfl rfl (by assumption) (acE G210 (tm rfl) (oS _ _ _) (by omega)) ?_))
  rintro _ _ ⟨rfl, hH⟩
  obtain rfl := hH.symm
  refine .gp rfl rfl rfl rfl (by assumption) (afU (tm rfl) (tm rfl) (by assumption) (by omega)) ?_
  iterate 4 refine AM ?_
  exact ⟨rfl, zP rfl (blV hlt hg8) sX, rfl⟩
 refine AWP.sub [(8, _), (4, _), (5, _), (6, _), (9, _), (10, _)] sX ?_
 iterate 9 refine AM ?_
 refine AWP.loopW (bnD v s b36 H) (((zK v).length - s / 32)) ⟨0, Nat.zero_le _, rfl, rfl, rfl⟩ sX (hRa _) ?_
 rintro _ _ _ ⟨i, hi, rfl, rfl, hk⟩
 iterate 6 refine AX ?_
 refine AWP.cx rfl (fun hc68 => ?_) (fun hc68 => ?_)
 ·have hi2 : i < ((zK v).length - s / 32) := by omega
  have hrl2 := asY hAl (by omega : i ≤ ((zK v).drop (s / 32)).length)
  have hg0 := bbG hAl (by omega : i ≤ ((zK v).drop (s / 32)).length) (Nat.le_refl i)
  have hg1 := bbG hAl (by omega : i ≤ ((zK v).drop (s / 32)).length) (by omega : i ≤ i + 1)
  have hx0 := Limbs.getD ((zS v).drop (s / 32)) i
  have hx1 := Limbs.getD ((zS v).drop (s / 32)) (i + 1)
  iterate 14 refine AX ?_
  refine .p rfl (qM (i) U159 Z210 (tm rfl) (tm rfl) (by omega) (by omega)) (.e rfl (acE G210 (tm rfl) (oS _ _ _) (by omega)) ?_)
  iterate 4 refine AX ?_
  refine AWP.seqToL [(12, .int .u64 ((((zK v).drop (s / 32)).getD i 0 + ((zK v).drop (s / 32)).getD (i + 1) 0 * 4294967296 : Nat) : Int))] [8, 9, 10, 66, 67, 11] ?_ ?_
  ·iterate 9 refine AM ?_
   refine AWP.cx rfl (fun hc79 => ?_) (fun hc79 => ?_)
   ·iterate 5 refine AM ?_
    refine .p rfl (qM (i + 1) U159 Z210 (tm rfl) (tm rfl) (by omega) (by omega)) (.e rfl (acE G210 (tm rfl) (oS _ _ _) (by omega)) ?_)
    refine AX ?_
    refine .p rfl (aeE (tm rfl) (yQ 32) (by omega) (by rw [show (2 : Nat) ^ 32 = 4294967296 by decide]; omega)) (.p rfl (afH (tm rfl) (tm rfl) (by omega) (by omega)) ?_)
    iterate 2 refine AX ?_
    exact ⟨rfl, (yD rfl (by (rw [hg0, hg1, bcT (k := 32) (Nat.lt_of_lt_of_eq hx0 (by decide))] <;> rfl)) sX), rfl⟩
   refine AX ?_
   exact ⟨rfl, (yD rfl (by (rw [hg0, ahV (i := i + 1) (by omega), Nat.zero_mul] <;> rfl)) sX), rfl⟩
  refine AWP.sub [(12, _), (8, _), (9, _), (10, _), (66, _), (67, _), (11, _)] sX ?_
  iterate 5 refine AX ?_
  refine .p rfl (adS (tm rfl) (tm rfl) (by omega)) ?_
  refine AX ?_
  refine .p rfl (qM (i) U159 Z210 (tm rfl) (tm rfl) (by omega) (by omega)) (.e0 (aaE Z210 (tm rfl) (tm rfl) (oS _ _ _) (by omega)) ?_)
  try first | rw [sS] | rw [sU (by assumption)]
  iterate 8 refine AM ?_
  refine Round.mk (J := bnD v s b36 H) ⟨i + 1, by omega, rfl, by rw [← bkR hAl (by omega), bgF _ (by omega)]; rfl, rfl⟩ sX (hRa _) (by omega)
 iterate 6 refine AX ?_
 have hi3 : i = ((zK v).length - s / 32) := by omega
 refine AWP.frzU (t := 9) rfl hb36 (by rw [asY hAl (by omega)]; omega) (Nat.le_refl _) (by simp only [zT]; omega) ?_
 rw [List.take_of_length_le (l := _ ++ _) (by rw [asY hAl (by omega)]; omega), List.take_of_length_le (l := axO (s % 32) ((zK v).drop (s / 32))) (by omega), List.drop_of_length_le (l := ((zK v).drop (s / 32))) (by omega), List.append_nil]
 have hAL := anA (s % 32) ((zK v).drop (s / 32))
 iterate 2 refine AX ?_
 refine .cl rfl C194 (evs1 rfl) (qT _ _ (by assumption) (by omega) _) ?_
 iterate 8 refine AM ?_
 refine ⟨?_, rfl⟩
 rw [bkQ (by omega)]; rfl

end
section
open Go Go.RowKit
set_option maxRecDepth 100000

theorem ahQ (h : n < BIG) : (zK n).length ≤ 1000000 := Nat.le_trans (abI h) (by decide)
theorem addB (a b : Nat) (h : a + b < BIG) (H : Heap) : ACall Tryz.prog 107 [aaS a, aaS b] H (fun y H' => y = .tuple [aaS (a + b), .int .i64 0] ∧ H' = H) := by
 have := asO (zK a) .shared (zS a) (ahQ (by omega)) (zK b) .shared (zS b) (ahQ (by omega)) H
 rwa [yG, yG, bjV, anF h] at this
theorem mulB (a b : Nat) (ha : a < BIG) (hb : b < BIG) (h : a * b < BIG) (H : Heap) : ACall Tryz.prog 106 [aaS a, aaS b] H (fun y H' => y = .tuple [aaS (a * b), .int .i64 0] ∧ H' = H) := by
 have := bfE (zK a) .shared (zS a) (ahQ ha) (zK b) .shared (zS b) (ahQ hb) H
 rwa [yG, yG, boX, anF ⟨ha, hb, h⟩] at this
theorem shlB (a s : Nat) (h : a * 2 ^ s < BIG) (hs : s < 1000000000) (H : Heap) : ACall Tryz.prog 168 [aaS a, .int .i64 (s : Int)] H (fun y H' => y = .tuple [aaS (a * 2 ^ s), .int .i64 0] ∧ H' = H) := by
 have := asI (zK a) .shared (zS a) (ahQ (ahP h)) s (by rwa [yG]) hs H
 rwa [yG] at this
theorem shrB (a s : Nat) (h : a < BIG) (hs : s < 1000000000) (H : Heap) : ACall Tryz.prog 169 [aaS a, .int .i64 (s : Int)] H (fun y H' => y = .tuple [aaS (a / 2 ^ s), .bool (decide (a % 2 ^ s ≠ 0)), .int .i64 0] ∧ H' = H) := by
 have := bfB (zK a) .shared (zS a) (ahQ h) s (by rwa [yG]) hs H
 rwa [yG] at this
theorem cmpB (a b : Nat) (ha : a < BIG) (hb : b < BIG) (H : Heap) : ACall Tryz.prog 189 [aaS a, aaS b] H (fun y H' => y = .int .i64 (beR a b) ∧ H' = H) := by
 have := bfH (zK a) .shared (zS a) (ahQ ha) (zK b) .shared (zS b) (ahQ hb) H
 rwa [yG, yG] at this
def bnN (b n : Nat) (H : Heap) : Nat → Env → Heap → Prop := fun k env H1 => ∃ i : Nat, i ≤ n ∧ env = [(0, .int .i64 (b : Int)), (6, aaS (b ^ i)), (7, .int .i64 0), (30, .int .i64 (n : Int)), (31, .int .i64 (i : Int))] ∧ H = H1 ∧ k = n - i

theorem asJ (b n : Nat) (hb : 2 ≤ b) (hb2 : b ≤ 1000000) (hn2 : n < 1000000000) (h : b ^ n < BIG) (H : Heap) : ACall Tryz.prog 170 [.int .i64 (b : Int), .int .i64 (n : Int)] H (fun y H' => y = .tuple [aaS (b ^ n), .int .i64 0] ∧ H' = H) := by
 refine ACall.of_body Tryz.func170 rfl Tryz.ntmps170 Tryz.results170 rfl ?_
 iterate 3 refine AM ?_
 iterate 4 refine AX ?_
 refine AWP.seqTo 17 (.bool (false)) [0, 1, 4, 5] ?_ ?_
 ·-- region 1
  iterate 4 refine AX ?_
  refine zB (t := 10) rfl (fun hg10 => ?_) (fun hg10 => ?_)
  ·iterate 8 refine AX ?_
   exact ⟨rfl, zP rfl (by (simp at hg10; omega)) sX, rfl⟩
  iterate 4 refine AX ?_
  refine zB (t := 14) rfl (fun hg14 => ?_) (fun hg14 => ?_)
  ·iterate 4 refine AX ?_
   exact ⟨rfl, zP rfl (by (simp at hg14; omega)) sX, rfl⟩
  iterate 4 refine AX ?_
  exact ⟨rfl, zP rfl (by rfl) sX, rfl⟩
 refine AWP.sub [(17, _), (0, _), (1, _), (4, _), (5, _)] sX ?_
 refine AWP.cond_false (tm rfl) (by rfl) ?_
 iterate 4 refine AX ?_
 refine .e rfl (yU U159 Z210 V210 rfl (yQ 1) (.inl rfl) ⟨rfl, rfl⟩) ?_
 iterate 5 refine AX ?_
 refine AWP.seqTo 19 (.bool (false)) [0, 1, 4, 5, 6] ?_ ?_
 ·-- region 4
  iterate 4 refine AX ?_
  refine zB (t := 22) rfl (fun hg22 => ?_) (fun hg22 => ?_)
  ·iterate 5 refine AX ?_
   exact ⟨rfl, zP rfl (by (simp at hg22; omega)) sX, rfl⟩
  iterate 5 refine AX ?_
  exact ⟨rfl, zP rfl (by rfl) sX, rfl⟩
 refine AWP.sub [(19, _), (0, _), (1, _), (4, _), (5, _), (6, _)] sX ?_
 refine AWP.cond_false (tm rfl) (by rfl) ?_
 iterate 7 refine AX ?_
 refine AWP.cx rfl (fun hc26 => ?_) (fun hc26 => ?_)
 ·omega
 iterate 4 refine AX ?_
 refine AWP.weakv (aaS (b ^ 0)) (t := 6) rfl (.slice _ _ _) ?_
 iterate 12 refine AX ?_
 refine AWP.loopW (bnN b n H) (n) ⟨0, Nat.zero_le _, rfl, rfl, rfl⟩ sX (hRa _) ?_
 rintro _ _ _ ⟨i, hi, rfl, rfl, hk⟩
 iterate 6 refine AX ?_
 refine AWP.cx rfl (fun hc32 => ?_) (fun hc32 => ?_)
 ·have hle : b ^ (i + 1) ≤ b ^ n := Nat.pow_le_pow_right (by omega) (by omega)
  have hp : b ^ i * b < BIG := Nat.lt_of_le_of_lt hle h
  have hp0 : b ^ i ≤ b ^ n := Nat.pow_le_pow_right (by omega) (by omega)
  have hbB : b < BIG := Nat.lt_of_le_of_lt hb2 (by unfold BIG; decide +kernel)
  have hiB : b ^ i < BIG := by omega
  iterate 9 refine AX ?_
  refine .cl rfl C93 (evs1 rfl) (acD _ (by omega) _) (.cl rfl C106 (evs2 rfl rfl) (mulB _ _ (by assumption) (by assumption) (by assumption) _) ?_)
  iterate 13 refine AX ?_
  refine AWP.cond_false (tm rfl) (by rfl) ?_
  iterate 8 refine AX ?_
  refine Round.mk (J := bnN b n H) ⟨i + 1, by omega, rfl, rfl, rfl⟩ sX (hRa _) (by omega)
 iterate 14 refine AX ?_
 refine ⟨?_, rfl⟩
 rw [show i = n by omega]; rfl

end
section
open Go Go.RowKit
set_option maxRecDepth 100000

theorem bdK (hn : ws.length = n) (ho : o ≤ zs.length) : ((mid zs o ws).drop o).take n = ws := by
 unfold mid
 have e : (zs.take o).length = o := by rw [List.length_take]; omega
 rw [List.append_assoc, List.drop_append_of_le_length (by omega), List.drop_of_length_le (by omega), List.nil_append, List.take_append_of_le_length (by omega), List.take_of_length_le (by omega)]
theorem azJ (h : r ≤ xs.length) : (List.replicate r 0).take 0 ++ xs.take r ++ (List.replicate r 0).drop (0 + min xs.length r) = xs.take r := by
 rw [List.drop_of_length_le (by simp; omega)]; simp
theorem bjZ {a b : Nat} (h : beR a b < 0) : a < b := by
 unfold beR at h
 split at h
 ·assumption
 split at h <;> simp at h
theorem boH {a b : Nat} (h : ¬ beR a b < 0) : b ≤ a := by
 unfold beR at h
 split at h
 ·simp at h
 omega
theorem biK (xs : List Nat) (tl : Tail) (hx : Limbs xs) (hl : xs.length ≤ 1000000) (H : Heap) : ACall Tryz.prog 171 [.slice 1 (U .u32 xs) tl] H (fun y H' => ∃ b : Nat, H.objs b = none ∧ y = .mslice (some ⟨b, 0, none⟩) (zK (val xs)).length (zK (val xs)).length ∧ H' = H.set b (.box 210 (U .u32 (zK (val xs))))) := by
 have hr := aaO xs
 have hrl := abG hx
 refine ACall.of_body Tryz.func171 rfl Tryz.ntmps171 Tryz.results171 rfl ?_
 iterate 8 refine AX ?_
 refine .cl rfl C240 (evs1 rfl) (abL _ _ (by assumption) (by assumption) _) (.s rfl (qK (_) U159 Tryz.typeInfo210 Z210 V210 (tm rfl) (tm rfl) rfl rfl (by decide) (by omega)) ?_)
 rintro _ _ ⟨b6, rfl, hb6, hH⟩
 obtain rfl := hH.symm
 iterate 7 refine AX ?_
 refine .e rfl (aiH U159 Z210 (tm rfl) (tm rfl) (oS _ _ _) (by (simp; done))) ?_
 try first | rw [sS] | rw [sU (by assumption)]
 iterate 10 refine AX ?_
 rw [azJ hr, adN hx, hrl]
 exact ⟨b6, hb6, rfl, rfl⟩

theorem cutB (a : Nat) (h : (zK a).length ≤ 1000000) (H : Heap) : ACall Tryz.prog 194 [aaS a] H (fun y H' => y = aaS a ∧ H' = H) := by
 have := qT (zK a) .shared (zS a) h H
 rwa [yG] at this

end
section
open Go Go.RowKit
set_option maxRecDepth 100000

def awB (b n c : Nat) (zs : List Nat) (H : Heap) : Nat → Env → Heap → Prop := fun k env H1 => ∃ i : Nat, i ≤ n ∧ yS (zs.take i) = yS (zs.take n) ∧ env = [(0, .mslice (some ⟨b, 0, none⟩) n c), (3, .int .i64 (i : Int))] ∧ H = H1 ∧ k = i

theorem aqV (b n c : Nat) (zs : List Nat) (hz : Limbs zs) (hn : n ≤ zs.length) (hn2 : n ≤ 1000000) (hc : n ≤ c) (H : Heap) (hb : H.objs b = some (.box 210 (U .u32 zs))) : ACall Tryz.prog 240 [.mslice (some ⟨b, 0, none⟩) n c] H (fun y H' => y = .int .i64 (yS (zs.take n) : Int) ∧ H' = H) := by
 refine ACall.of_body Tryz.func240 rfl Tryz.ntmps240 Tryz.results240 rfl ?_
 iterate 14 refine AX ?_
 refine AWP.loopW (awB b n c zs H) (n) ⟨n, Nat.le_refl _, rfl, rfl, rfl, rfl⟩ sX (hRa _) ?_
 rintro _ _ _ ⟨i, hi, hr, rfl, rfl, hk⟩
 refine AX ?_
 refine AWP.seqTo 15 (.bool (decide (0 < (i : Int)) && decide (((zs.getD (i - 1) 0 : Nat) : Int) = 0))) [0, 3] ?_ ?_
 ·-- region 2
  iterate 4 refine AX ?_
  refine zB (t := 8) rfl (fun hg8 => ?_) (fun hg8 => ?_)
  ·have hh8 := hg8; try simp only [decide_eq_true_eq] at hh8
   iterate 3 refine AX ?_
   refine .gp rfl rfl rfl (by assumption) (qM (i - 1) U159 Z210 (tm rfl) (tm rfl) (by omega) (by omega)) (.gs rfl rfl rfl (by assumption) (acE G210 (tm rfl) (by assumption) (by omega)) ?_)
   rintro _ _ ⟨rfl, hH⟩
   obtain rfl := hH.symm
   iterate 3 refine AM ?_
   exact ⟨rfl, zP rfl (by simp_all) sX, rfl⟩
  have hh8 := hg8; try simp only [decide_eq_false_iff_not, Int.not_lt] at hh8
  iterate 8 refine AX ?_
  exact ⟨rfl, zP rfl (by simp_all) sX, rfl⟩
 refine AWP.sub [(15, _), (0, _), (3, _)] sX ?_
 refine AWP.cx rfl (fun hc15 => ?_) (fun hc15 => ?_)
 ·simp only [Bool.and_eq_true, decide_eq_true_eq] at hc15
  iterate 10 refine AX ?_
  have hs := afS (xs := zs) (k := i - 1) (by omega)
  rw [show i - 1 + 1 = i by omega, if_pos (by omega)] at hs
  refine Round.mk (J := awB b n c zs H) ⟨i - 1, by omega, by rw [← hs, hr], rfl, rfl, rfl⟩ (zJ rfl (yD rfl (by rw [show ((i : Int) - 1) = ((i - 1 : Nat) : Int) by omega]) yF)) (hRa _) (by omega)
 simp only [Bool.and_eq_false_iff, decide_eq_false_iff_not] at hc15
 iterate 13 refine AX ?_
 refine ⟨?_, rfl⟩
 have hq : i = yS (zs.take n) := by
  rcases Nat.eq_zero_or_pos i with h0 | h0
  ·subst h0; rw [← hr]; rfl
  have hs := afS (xs := zs) (k := i - 1) (by omega)
  rw [show i - 1 + 1 = i by omega, if_neg (by omega), hr] at hs
  exact hs.symm
 rw [← hq]; rfl

theorem azH (b n c : Nat) (zs : List Nat) (hz : Limbs zs) (hn : n ≤ zs.length) (hn2 : n ≤ 1000000) (hc : n ≤ c) (H : Heap) (hb : H.objs b = some (.box 210 (U .u32 zs))) : ACall Tryz.prog 194 [.mslice (some ⟨b, 0, none⟩) n c] H (fun y H' => y = .mslice (some ⟨b, 0, none⟩) (yS (zs.take n)) c ∧ H' = H) := by
 have hr := aaO (zs.take n)
 have hrt : (zs.take n).length = n := by simp; omega
 refine ACall.of_body Tryz.func194 rfl Tryz.ntmps194 Tryz.results194 rfl ?_
 iterate 9 refine AX ?_
 refine .cl rfl C240 (evs1 rfl) (aqV _ _ _ zs hz hn hn2 hc _ hb) (.p rfl (aoW (_) U159 Z210 (tm rfl) (tm rfl) rfl (by omega)) ?_)
 iterate 5 refine AX ?_
 exact ⟨rfl, rfl⟩

end
section
open Go

def dgt (n : Nat) : UInt8 := UInt8.ofNat (48 + n)
def baK : Nat → Nat → List UInt8 → List UInt8
 | 0, _, acc => acc
 | f + 1, n, acc => if n < 10 then dgt n :: acc else baK f (n / 10) (dgt (n % 10) :: acc)
def dec (n : Nat) : List UInt8 := baK (n + 1) n []
theorem ahX : ∀ (f n : Nat) (acc : List UInt8), baK f n acc = baK f n [] ++ acc
 | 0, _, _ => rfl
 | f + 1, n, acc => by
  unfold baK
  split
  ·rfl
  rw [ahX f (n / 10) (dgt (n % 10) :: acc), ahX f (n / 10) [dgt (n % 10)], List.append_assoc]; rfl
theorem arW : ∀ (f g n : Nat), n < f → n < g → baK f n [] = baK g n []
 | 0, _, n, h, _ => absurd h (Nat.not_lt_zero n)
 | _ + 1, 0, n, _, h => absurd h (Nat.not_lt_zero n)
 | f + 1, g + 1, n, h1, h2 => by
  unfold baK
  split
  ·rfl
  rw [ahX f, ahX g, arW f g (n / 10) (by omega) (by omega)]
theorem alZ (h : n < 10) : dec n = [dgt n] := by
 unfold dec baK; rw [if_pos h]
theorem amA (h : 10 ≤ n) : dec n = dec (n / 10) ++ [dgt (n % 10)] := by
 unfold dec
 rw [show baK (n + 1) n [] = baK n (n / 10) [dgt (n % 10)] by rw [baK, if_neg (by omega)], ahX, arW n (n / 10 + 1) (n / 10) (by omega) (by omega)]
theorem bmK (n : Nat) : Lib.decDigits n = dec n := by
 induction n using Nat.strongRecOn with
 | ind n ih =>
  unfold Lib.decDigits
  split
  ·rename_i h; rw [alZ h]; rfl
  rename_i h; rw [ih _ (by omega), amA (n := n) (by omega)]; rfl
theorem bhO (n : Nat) : Lib.itoa ((n : Nat) : Int) = dec n := by
 unfold Lib.itoa
 rw [if_neg (by omega), Int.toNat_natCast, bmK]
theorem auT (n : Nat) : 0 < (dec n).length := by
 rcases Nat.lt_or_ge n 10 with h | h
 ·rw [alZ h]; simp
 rw [amA h]; simp
theorem aeR (hk : 0 < k) : (dec n).length ≤ k ↔ n < 10 ^ k := by
 induction k generalizing n with
 | zero => omega
 | succ k ih =>
  rcases Nat.lt_or_ge n 10 with h | h
  ·rw [alZ h]
   have : 10 ^ 1 ≤ 10 ^ (k + 1) := Nat.pow_le_pow_right (by decide) (by omega)
   simp only [List.length_cons, List.length_nil]
   omega
  rw [amA h, List.length_append, List.length_cons, List.length_nil]
  rcases Nat.eq_zero_or_pos k with h0 | h0
  ·subst h0
   have := auT (n / 10)
   rw [show (10 : Nat) ^ (0 + 1) = 10 by decide]
   omega
  rw [Nat.add_le_add_iff_right, ih h0, Nat.pow_succ, Nat.div_lt_iff_lt_mul (by decide)]
def pad : Nat → Nat → List UInt8
 | 0, _ => []
 | k + 1, r => pad k (r / 10) ++ [dgt (r % 10)]
theorem beL : ∀ (k : Nat), 10 ^ k ≤ n → dec n = dec (n / 10 ^ k) ++ pad k (n % 10 ^ k) := by
 intro k
 induction k generalizing n with
 | zero => intro _; rw [Nat.pow_zero, Nat.div_one, pad, List.append_nil]
 | succ k ih =>
  intro h
  have hp : 0 < 10 ^ k := Nat.pow_pos (by decide)
  have h1 : 10 ^ k ≤ n / 10 := by rw [Nat.le_div_iff_mul_le (by decide), ← Nat.pow_succ]; exact h
  rw [amA (by omega), ih h1, Nat.div_div_eq_div_mul, List.append_assoc, pad, Nat.mul_comm 10, ← Nat.pow_succ]
  congr 2
  ·congr 1
   rw [Nat.pow_succ, Nat.mul_comm (10 ^ k) 10, Nat.mod_mul_right_div_self]
  rw [Nat.pow_succ, Nat.mul_comm (10 ^ k) 10, Nat.mod_mul_right_mod]
theorem awI : ∀ k : Nat, pad k 0 = List.replicate k 48
 | 0 => rfl
 | k + 1 => by rw [pad, Nat.zero_div, awI k, List.replicate_succ']; rfl
theorem blD (hk : 0 < k) (h : r < 10 ^ k) : pad k r = List.replicate (k - (dec r).length) 48 ++ dec r := by
 induction k generalizing r with
 | zero => omega
 | succ k ih =>
  rcases Nat.lt_or_ge r 10 with h1 | h1
  ·rw [alZ h1, pad, show r / 10 = 0 by omega, awI, Nat.mod_eq_of_lt h1]
   simp
  have hk0 : 0 < k := by
   rcases Nat.eq_zero_or_pos k with h0 | h0
   ·subst h0; simp at h; omega
   exact h0
  rw [amA h1, pad, ih hk0 (by rw [Nat.div_lt_iff_lt_mul (by decide), ← Nat.pow_succ]; exact h), List.length_append, List.append_assoc]
  congr 2
  simp only [List.length_cons, List.length_nil]
  omega
theorem bhY (h : 0 < v / 1000000000) : dec v = dec (v / 1000000000) ++ (List.replicate (9 - (dec (v % 1000000000)).length) 48 ++ dec (v % 1000000000)) := by
 rw [← blD (by decide) (Nat.mod_lt _ (by decide) : v % 1000000000 < 10 ^ 9)]
 exact beL 9 (by omega)
theorem beM (h : n < BIG) : (dec n).length ≤ 2500 :=
 (aeR (by decide)).2 (Nat.lt_of_lt_of_le h (by unfold BIG; decide +kernel))
end
end Go.Proofs.YteedncdcbgplfaaGreatDoor
