import Derived.Test.YtmmgbnolccpjoaaGreatDoorYd
import Derived.Test.YtmmgbnolccpjoaaGreatDoorSsk
import Derived.Test.YtmmgbnolccpjoaaGreatDoorN1
import Derived.Test.YtmmgbnolccpjoaaGreatDoorS6
import Derived.Lib.ItoaNum
namespace Go.Proofs.YtmmgbnolccpjoaaGreatDoor
open Go Go.RowKit

def mid (zs : List Nat) (o : Nat) (ws : List Nat) : List Nat := zs.take o ++ ws ++ zs.drop (o + ws.length)
theorem acZ {zs ws : List Nat} {o n : Nat} (hn : ws.length = n) (h : o + n ≤ zs.length) : (mid zs o ws).length = zs.length := by
 unfold mid; simp; omega
theorem ajU {zs : List Nat} {o n : Nat} (h : o + n ≤ zs.length) : mid zs o ((zs.drop o).take n) = zs := by
 unfold mid
 rw [List.length_take, List.length_drop, show min n (zs.length - o) = n by omega, List.append_assoc]
 rw [← List.drop_drop, List.take_append_drop, List.take_append_drop]
theorem apV {zs ws : List Nat} {o i v : Nat} (ho : o ≤ zs.length) (hi : i < ws.length) : (mid zs o ws).set (o + i) v = mid zs o (ws.set i v) := by
 unfold mid
 rw [List.length_set, List.append_assoc, List.append_assoc, List.set_append_right _ _ (by rw [List.length_take]; omega), List.length_take, show o + i - min o zs.length = i by omega, List.set_append_left _ _ hi]
theorem avL {zs ws : List Nat} {o i : Nat} (ho : o ≤ zs.length) (hi : i < ws.length) : (mid zs o ws).getD (o + i) 0 = ws.getD i 0 := by
 unfold mid
 rw [List.getD_eq_getElem?_getD, List.getD_eq_getElem?_getD, List.append_assoc, List.getElem?_append_right (by rw [List.length_take]; omega), List.length_take, show o + i - min o zs.length = i by omega, List.getElem?_append_left hi]
theorem acG {zs ws : List Nat} {o : Nat} (hz : Limbs zs) (hw : Limbs ws) : Limbs (mid zs o ws) := ((hz.take _).append hw).append (hz.drop _)
theorem val_cut (xs : List Nat) (n : Nat) : ∃ q, val xs = val (xs.take n) + 4294967296 ^ n * q := by
 rcases Nat.lt_or_ge xs.length n with h | h
 ·exact ⟨0, by rw [List.take_of_length_le (by omega)]; omega⟩
 ·refine ⟨val (xs.drop n), ?_⟩
  have := aaJ (xs.take n) (xs.drop n)
  rw [List.take_append_drop, List.length_take, Nat.min_eq_left h] at this
  exact this
theorem aeC {zs : List Nat} {o n j : Nat} (h : j < n - 0) : ((zs.drop o).take n).getD j 0 = zs.getD (o + j) 0 := by
 rw [List.getD_eq_getElem?_getD, List.getD_eq_getElem?_getD, List.getElem?_take, if_pos (by omega), List.getElem?_drop]
theorem auM {zs ws : List Nat} {o n i d r : Nat} (hd : 0 < d) (hw : ws.length = n) (hi : i < n) (hn : o + n ≤ zs.length) (hg : ws.getD (n - 1 - i) 0 = zs.getD (o + (n - 1 - i)) 0) (h : val (ws.drop (n - i)) * d + r = val (((zs.drop o).take n).drop (n - i))) :
  val ((ws.set (n - 1 - i) ((r * 4294967296 + zs.getD (o + (n - 1 - i)) 0) / d)).drop (n - (i + 1))) * d + (r * 4294967296 + zs.getD (o + (n - 1 - i)) 0) % d = val (((zs.drop o).take n).drop (n - (i + 1))) := by
 have e := aeC (zs := zs) (o := o) (n := n) (j := n - 1 - i) (by omega)
 rw [← e] at hg ⊢
 rw [show n - i = n - 1 - i + 1 by omega] at h
 rw [show n - (i + 1) = n - 1 - i by omega]
 exact azE hd (by omega) (by simp; omega) hg h
theorem alM {zs ws : List Nat} (h : ws.length = zs.length) : mid zs 0 ws = ws := by
 unfold mid; rw [h]; simp

def bdO (xs : List Nat) (tl : Tail) (b o n cp s : Nat) (zs : List Nat) (H : Heap) : Nat → Env → Heap → Prop := fun k env H1 => ∃ (i c : Nat) (ws : List Nat), i ≤ n ∧ ws.length = n ∧ Limbs ws ∧ c < 2 ^ s ∧ val (ws.take i) + 4294967296 ^ i * c = val (xs.take i) * 2 ^ s ∧ env = [(0, .mslice (some ⟨b, o, none⟩) n cp), (1, .slice 1 (U .u32 xs) tl), (2, .int .i64 (s : Int)), (6, .int .u64 (c : Int)), (9, .int .i64 (n : Int)), (10, .int .i64 (i : Int))] ∧ H1 = H.set b (.box 166 (U .u32 (mid zs o ws))) ∧ k = n - i

set_option maxRecDepth 100000 in
theorem agI (xs : List Nat) (tl : Tail) (hx : Limbs xs) (hl : xs.length ≤ 1000000) (b o n cp s : Nat) (zs : List Nat) (hz : Limbs zs) (hn : o + n ≤ zs.length) (hn2 : n ≤ 1000000) (hs : s < 32) (H : Heap) (hb : H.objs b = some (.box 166 (U .u32 zs))) : ACall Tryz.prog 315 [.mslice (some ⟨b, o, none⟩) n cp, .slice 1 (U .u32 xs) tl, .int .i64 (s : Int)] H (fun _ H' => ∃ ws : List Nat, ws.length = n ∧ Limbs ws ∧ val ws = val xs * 2 ^ s % 4294967296 ^ n ∧ H' = H.set b (.box 166 (U .u32 (mid zs o ws)))) := by
 have h2s : 2 ^ s ≤ 2 ^ 31 := Nat.pow_le_pow_right (by decide) (by omega)
 have h2p : 0 < 2 ^ s := Nat.pow_pos (by decide)
 refine ACall.of_body Tryz.func315 rfl Tryz.ntmps315 Tryz.results315 rfl ?_
 refine .seq (.region (.p rfl (zD (zE 0)) (.nil ?_)))
 refine Next.go ?_
 refine .seq (.region (.mv rfl rfl (.p rfl (afC Tryz.underlying239 (tm rfl)) (.p rfl (zT zI) (.nil ?_)))))
 refine Next.go ?_
 refine .block ?_
 refine AWP.loopW (bdO xs tl b o n cp s zs H) (n) ⟨0, 0, (zs.drop o).take n, Nat.zero_le _, by simp; omega, (hz.drop _).take _, by omega, by simp [val], rfl, (Heap.set_self (by rw [ajU hn]; exact hb)).symm, rfl⟩ sX (Heap.le.refl _) ?_
 rintro _ _ _ ⟨i, c, ws, hi, hw, hwl, hc, hv, rfl, rfl, hk⟩
 refine .seq (.region (.p rfl (adN (tm rfl) (tm rfl)) (.nil ?_)))
 refine Next.go ?_
 refine .seq ?_
 refine AWP.cond (tm rfl) (fun hc11 => ?_) (fun hc11 => ?_)
 ·try simp only [decide_eq_true_eq] at hc11
  have hg := Limbs.getD hx i
  obtain ⟨hv2, hc2, hc3⟩ := azG (by omega : i < ws.length) (by omega) hg hc hv
  have hml := acZ (o := o) hw hn
  have hxs2 : xs.getD i 0 * 2 ^ s ≤ 4294967295 * 2 ^ s := Nat.mul_le_mul_right _ (by omega)
  refine .skip ?_
  refine Next.go ?_
  refine .seq (.block (.seq (.region (.mv rfl rfl (.as rfl rfl (.nil ?_))))))
  refine Next.go ?_
  refine AWP.seqToL [(6, .int .u64 ((c + xs.getD i 0 * 2 ^ s : Nat) : Int))] [0, 1, 2, 9, 10, 7] ?_ ?_
  ·refine .seq (.region (.mv rfl rfl (.mv rfl rfl (.p rfl (afB Tryz.underlying239 (tm rfl)) (.p rfl (adN (tm rfl) (tm rfl)) (.nil ?_))))))
   refine Next.go ?_
   refine AWP.cond (tm rfl) (fun hc16 => ?_) (fun hc16 => ?_)
   ·try simp only [decide_eq_true_eq] at hc16
    refine .region (.mv rfl rfl (.mv rfl rfl (.mv rfl rfl (.p rfl (zX (i) Tryz.underlying239 Tryz.sizeOf166 (tm rfl) (tm rfl) (by omega) (by omega)) (.p rfl (aaM Tryz.isAgg166 (tm rfl)) (.p rfl (qP Tryz.underlying166 Tryz.underlying22 (tm rfl) (wrapN64 (by omega))) (.mv rfl rfl (.p rfl (yV (tm rfl) (tm rfl) (by omega) (by omega)) ?_))))))))
    refine .p rfl (qW (tm rfl) (tm rfl) (by omega) (by omega)) (.as rfl rfl (.nil ?_))
    exact ⟨rfl, (zZ rfl (by (rw [avK hc])) sX), rfl⟩
   ·try simp only [decide_eq_false_iff_not, Int.not_lt] at hc16
    refine AX ?_
    exact ⟨rfl, (zZ rfl (by (rw [aeS (by omega), Nat.zero_mul]; rfl)) sX), rfl⟩
  ·refine AWP.sub [(6, _), (0, _), (1, _), (2, _), (9, _), (10, _), (7, _)] sX ?_
   iterate 6 refine AX ?_
   refine .p rfl (aaR (i) Tryz.underlying239 Tryz.sizeOf166 (tm rfl) (tm rfl) (by omega) (by omega)) (.e0 (qS Tryz.sizeOf166 (tm rfl) (tm rfl) (Heap.objs_set_same _ _ _) (by omega)) ?_)
   try first | rw [Heap.set_set] | rw [Heap.set_under (by assumption)]
   iterate 4 refine AX ?_
   refine .p rfl (zW (tm rfl) (zE 32) (by assumption)) ?_
   iterate 9 refine AX ?_
   refine Round.mk (J := bdO xs tl b o n cp s zs H) ⟨i + 1, _, _, by omega, by simpa using hw, Limbs.set hwl (by omega), hc2, hv2, rfl, by rw [apV (by omega) (by omega)]; rfl, rfl⟩ sX (Heap.le.refl _) (by omega)
 ·try simp only [decide_eq_false_iff_not, Int.not_lt] at hc11
  iterate 4 refine AX ?_
  refine Ret.go' .nil _ (Heap.le.refl _) ?_
  have hin : i = n := by omega
  subst hin
  refine ⟨ws, hw, hwl, ?_, rfl⟩
  obtain ⟨q, hq⟩ := val_cut xs i
  rw [hq, Nat.add_mul, Nat.mul_assoc, Nat.add_mul_mod_self_left]
  exact awV hwl hw hv

def bdN (b o n cp d : Nat) (zs : List Nat) (H : Heap) : Nat → Env → Heap → Prop := fun k env H1 => ∃ (i r : Nat) (ws : List Nat), i ≤ n ∧ ws.length = n ∧ Limbs ws ∧ r < d ∧ (∀ j, j < n - i → ws.getD j 0 = zs.getD (o + j) 0) ∧ val (ws.drop (n - i)) * d + r = val (((zs.drop o).take n).drop (n - i)) ∧ env = [(0, .mslice (some ⟨b, o, none⟩) n cp), (1, .int .u32 (d : Int)), (5, .int .u64 (r : Int)), (10, .int .i64 (n : Int)), (11, .int .i64 (i : Int))] ∧ H1 = H.set b (.box 166 (U .u32 (mid zs o ws))) ∧ k = n - i

set_option maxRecDepth 100000 in
theorem akM (b o n cp d : Nat) (hd : 0 < d) (hd2 : d < 4294967296) (zs : List Nat) (hz : Limbs zs) (hn : o + n ≤ zs.length) (hn2 : n ≤ 1000000) (H : Heap) (hb : H.objs b = some (.box 166 (U .u32 zs))) : ACall Tryz.prog 317 [.mslice (some ⟨b, o, none⟩) n cp, .int .u32 (d : Int)] H (fun y H' => y = .int .u32 ((val ((zs.drop o).take n) % d : Nat) : Int) ∧ ∃ ws : List Nat, ws.length = n ∧ Limbs ws ∧ val ws = val ((zs.drop o).take n) / d ∧ H' = H.set b (.box 166 (U .u32 (mid zs o ws)))) := by
 refine ACall.of_body Tryz.func317 rfl Tryz.ntmps317 Tryz.results317 rfl ?_
 iterate 2 refine AX ?_
 refine .p rfl (zD (zE 0)) ?_
 iterate 4 refine AX ?_
 refine .p rfl (zD (zE 0)) ?_
 iterate 11 refine AX ?_
 refine AWP.loopW (bdN b o n cp d zs H) (n) ⟨0, 0, (zs.drop o).take n, Nat.zero_le _, by simp; omega, (hz.drop _).take _, by omega, fun j hj => aeC hj, by simp [val], rfl, (Heap.set_self (by rw [ajU hn]; exact hb)).symm, rfl⟩ sX (Heap.le.refl _) ?_
 rintro _ _ _ ⟨i, r, ws, hi, hw, hwl, hr, hgs, hv, rfl, rfl, hk⟩
 iterate 6 refine AX ?_
 refine AWP.cx rfl (fun hc12 => ?_) (fun hc12 => ?_)
 ·have hg := hgs (n - 1 - i) (by omega)
  have hx := Limbs.getD hz (o + (n - 1 - i))
  have hml := acZ (o := o) hw hn
  have hsh : r * 2 ^ 32 < 18446744073709551616 := by rw [show (2 : Nat) ^ 32 = 4294967296 by decide]; omega
  have hgm := Limbs.getD (acG (o := o) hz hwl) (o + (n - 1 - i))
  obtain ⟨hf1, hf2⟩ := azF hr hx hd2
  have hq : (r * 4294967296 + zs.getD (o + (n - 1 - i)) 0) / d % 2 ^ IntKind.u32.bits = (r * 4294967296 + zs.getD (o + (n - 1 - i)) 0) / d := Nat.mod_eq_of_lt hf1
  have hm2 := Nat.mod_lt (r * 4294967296 + zs.getD (o + (n - 1 - i)) 0) hd
  iterate 20 refine AX ?_
  refine AWP.seqToL [(8, .int .u64 ((r * 4294967296 + zs.getD (o + (n - 1 - i)) 0 : Nat) : Int))] [0, 1, 5, 10, 11, 7] ?_ ?_
  ·-- region 6
   iterate 2 refine AX ?_
   refine .p rfl (yV (tm rfl) (zE 32) (by omega) (by exact hsh)) ?_
   iterate 2 refine AX ?_
   refine .p rfl (aaR (n - 1 - i) Tryz.underlying239 Tryz.sizeOf166 (tm rfl) (tm rfl) (by omega) (by omega)) (.e rfl (qN Tryz.isAgg166 (tm rfl) (Heap.objs_set_same _ _ _) (by omega)) ?_)
   refine AX ?_
   refine .p rfl (qW (tm rfl) (tm rfl) (hsh) (by omega)) ?_
   iterate 2 refine AX ?_
   exact ⟨rfl, (zZ rfl (by rw [avL (by omega) (by omega), hg, ← afE (k := 32) (Nat.lt_of_lt_of_eq hx (by decide))]) sX), rfl⟩
  ·refine AWP.sub [(8, _), (0, _), (1, _), (5, _), (10, _), (11, _), (7, _)] sX ?_
   refine AWP.draw [(0, true), (1, true), (2, true), (3, true), (4, true), (5, true), (6, true), (7, true), (8, true), (9, true), (10, true), (11, true), (12, false), (13, true)] rfl (by decide +kernel) ?_
   iterate 10 refine AX ?_
   refine .p rfl rfl (afS (tm rfl) (tm rfl) (by omega)) (.p rfl rfl (aaR (n - 1 - i) Tryz.underlying239 Tryz.sizeOf166 (tm rfl) (tm rfl) (by omega) (by omega)) (.s0 rfl (qS Tryz.sizeOf166 (tm rfl) (tm rfl) (Heap.objs_set_same _ _ _) (by omega)) ?_))
   rintro _ _ ⟨rfl, hH⟩
   obtain rfl := hH.symm
   try first | rw [Heap.set_set] | rw [Heap.set_under (by assumption)]
   iterate 9 refine AX ?_
   rw [hq]
   refine Round.mk (J := bdN b o n cp d zs H) ⟨i + 1, _, _, by omega, by simpa using hw, Limbs.set hwl hf1, hm2, fun j hj => by rw [getD_set_ne (by omega)]; exact hgs j (by omega), auM hd hw (by omega) hn hg hv, rfl, by rw [apV (by omega) (by omega)], rfl⟩ sX (Heap.le.refl _) (by omega)
 ·iterate 13 refine AX ?_
  refine Ret.go (.cons (.tmp _ _ rfl) .nil) _ (Heap.le.refl _) ?_
  have hin : i = n := by omega
  subst hin
  rw [Nat.sub_self, List.drop_zero, List.drop_zero] at hv
  rw [← hv]
  refine ⟨?_, ws, hw, hwl, ?_, rfl⟩
  ·simp only [zU]; congr 1; rw [Nat.mul_comm, Nat.mul_add_mod, Nat.mod_eq_of_lt hr, Nat.mod_eq_of_lt]; simp only [IntKind.bits]; omega
  ·rw [Nat.mul_comm, Nat.mul_add_div hd, Nat.div_eq_of_lt hr]; rfl
theorem shl_ok {v s : Nat} (hv : 0 < v) (h : v * 2 ^ s < BIG) : s < 8192 ∧ yE v + s ≤ 8192 ∧ v < BIG := by
 have h1 : 2 ^ s ≤ v * 2 ^ s := Nat.le_mul_of_pos_left _ hv
 have h5 : v ≤ v * 2 ^ s := Nat.le_mul_of_pos_right _ (Nat.pow_pos (by decide))
 have h6 : v < BIG := Nat.lt_of_le_of_lt h5 h
 obtain ⟨k, hk, hB⟩ : ∃ k, k = 8192 ∧ BIG = 2 ^ k := ⟨32 * 256, rfl, amP _ rfl⟩
 rw [hB] at h
 have h2 : s < k := (Nat.pow_lt_pow_iff_right (a := 2) (by decide)).1 (Nat.lt_of_le_of_lt h1 h)
 have h3 : v < 2 ^ (k - s) := by
  rw [show k = (k - s) + s by omega, Nat.pow_add] at h
  exact Nat.lt_of_mul_lt_mul_right h
 have h4 := yW.2 h3
 exact ⟨by omega, by omega, h6⟩
theorem ahH {v s : Nat} (h : v * 2 ^ s < BIG) : v < BIG := Nat.lt_of_le_of_lt (Nat.le_mul_of_pos_right _ (Nat.pow_pos (by decide))) h
theorem ahE (s : Nat) : 4294967296 ^ (s / 32) * 2 ^ (s % 32) = 2 ^ s := by
 rw [show (4294967296 : Nat) = 2 ^ 32 by decide, ← Nat.pow_mul, ← Nat.pow_add]
 congr 1; omega
theorem val_mid0 {ws : List Nat} {o m : Nat} (h : o + ws.length = m) : val (mid (List.replicate m 0) (0 + o) ws) = 4294967296 ^ o * val ws := by
 unfold mid
 rw [Nat.zero_add, List.take_replicate, List.drop_replicate, List.append_assoc, aaJ, aoT, aaJ, aoT, List.length_replicate, Nat.min_eq_left (by omega), Nat.mul_zero, Nat.add_zero, Nat.zero_add]
theorem shl_val {v s n : Nat} {ws : List Nat} (hv : v < 4294967296 ^ n) (hw : val ws = v * 2 ^ (s % 32) % 4294967296 ^ (n + 1)) : 4294967296 ^ (s / 32) * val ws = v * 2 ^ s := by
 have h1 : 2 ^ (s % 32) ≤ 2 ^ 31 := Nat.pow_le_pow_right (by decide) (by omega)
 have h2 : v * 2 ^ (s % 32) < 4294967296 ^ n * 4294967296 := Nat.mul_lt_mul_of_lt_of_le hv (by omega) (by decide)
 rw [hw, Nat.mod_eq_of_lt (by rw [Nat.pow_succ]; exact h2), Nat.mul_left_comm, ahE]

set_option maxRecDepth 100000 in
theorem atM (xs : List Nat) (tl : Tail) (hx : Limbs xs) (hl : xs.length ≤ 1000000) (s : Nat) (hs : val xs * 2 ^ s < BIG) (hs2 : s < 1000000000) (H : Heap) : ACall Tryz.prog 272 [.slice 1 (U .u32 xs) tl, .int .i64 (s : Int)] H (fun y H' => y = .tuple [aaP (val xs * 2 ^ s), .int .i64 0] ∧ H' = H) := by
 have hB := ahH hs
 have h256 := aaC hB
 have hr := aaF xs
 have hrl := aaY hx
 refine ACall.of_body Tryz.func272 rfl Tryz.ntmps272 Tryz.results272 rfl ?_
 iterate 2 refine AX ?_
 refine .p rfl (zD (aaO (sz := 1) (tl := .shared))) ?_
 refine .p rfl (zD (zE 0)) ?_
 iterate 7 refine AX ?_
 refine .p rfl (adN (tm rfl) (zE 0)) ?_
 iterate 3 refine AX ?_
 refine AWP.cx rfl (fun hc7 => ?_) (fun hc7 => ?_)
 ·omega
 ·iterate 3 refine AX ?_
  refine .e rfl (agZ Tryz.underlying327 Tryz.sizeOf239 Tryz.zeroValue239 rfl (tm rfl) (.inl rfl) ⟨rfl, rfl⟩) (.cl rfl Tryz.call310 (evs1 rfl) (alI _ _ _ (by assumption) (by assumption) _) ?_)
  iterate 3 refine AX ?_
  refine AWP.cx rfl (fun hc10 => ?_) (fun hc10 => ?_)
  ·omega
  ·iterate 3 refine AX ?_
   refine .cl rfl Tryz.call314 (evs1 rfl) (abG _ _ (by assumption) (by assumption) _) (.p rfl (qH (tm rfl) (zE 0)) ?_)
   iterate 3 refine AX ?_
   refine AWP.cx rfl (fun hc14 => ?_) (fun hc14 => ?_)
   ·iterate 2 refine AX ?_
    refine .p rfl (zD (aaO (sz := 1) (tl := .shared))) ?_
    refine .p rfl (zD (zE 0)) ?_
    iterate 5 refine AX ?_
    refine Ret.go (.cons (.tmp _ _ rfl) (.cons (.tmp _ _ rfl) .nil)) _ (Heap.le.refl _) ?_
    refine ⟨?_, rfl⟩
    rw [qL (by omega), Nat.zero_mul]; rfl
   ·have hpos : 0 < val xs := Nat.pos_of_ne_zero (fun h => by have := qO h; omega)
    obtain ⟨hs3, hs4, _⟩ := shl_ok hpos hs
    refine AWP.seqTo 18 (.bool (false)) [0, 1, 4, 5] ?_ ?_
    ·-- region 7
     iterate 2 refine AX ?_
     refine .p rfl (yQ (tm rfl) (zE 8192)) ?_
     refine AX ?_
     refine zH (t := 21) rfl (fun hg21 => ?_) (fun hg21 => ?_)
     ·iterate 8 refine AX ?_
      exact ⟨rfl, zS rfl (by (simp at hg21; omega)) sX, rfl⟩
     ·refine AX ?_
      refine .gs rfl rfl rfl (by assumption) (zC Tryz.call271 (evs1 rfl) (atQ _ _ (by assumption) (by assumption) _)) ?_
      rintro _ _ ⟨rfl, hH⟩
      obtain rfl := hH.symm
      iterate 2 refine AX ?_
      refine .gp rfl rfl rfl (by assumption) (yQ (tm rfl) (zE 8192)) ?_
      iterate 3 refine AX ?_
      exact ⟨rfl, zS rfl (by (simp; omega)) sX, rfl⟩
    ·refine AWP.sub [(18, _), (0, _), (1, _), (4, _), (5, _)] sX ?_
     refine AWP.cond_false (tm rfl) (by rfl) ?_
     iterate 6 refine AX ?_
     refine .cl rfl Tryz.call311 (evs1 rfl) (qF _ _ (by assumption) (by assumption) _) ?_
     iterate 6 refine AX ?_
     refine .p rfl (aeM (tm rfl) (zE 32) (by omega) (by omega)) ?_
     iterate 3 refine AX ?_
     refine .p rfl (aeP (tm rfl) (zE 1) (by omega)) (.s rfl (yI (s / 32 + (zF (val xs)).length + 1) Tryz.underlying239 Tryz.typeInfo166 Tryz.sizeOf166 Tryz.zeroValue166 (tm rfl) (tm rfl) (by omega) (by omega) (by decide) (by omega)) ?_)
     rintro _ _ ⟨b36, rfl, hb36, hH⟩
     obtain rfl := hH.symm
     iterate 7 refine AX ?_
     refine .p rfl (aeM (tm rfl) (zE 32) (by omega) (by omega)) (.p rfl (apE (_) Tryz.underlying239 Tryz.sizeOf166 (tm rfl) (tm rfl) rfl (by omega) (by omega) (by omega)) ?_)
     iterate 2 refine AX ?_
     refine .p rfl (akY (tm rfl) (zE 32) (by omega)) ?_
     refine .s rfl (zC Tryz.call315 (evs3 rfl rfl rfl) (agI (zF (val xs)) .shared (zK _) (by omega) b36 (0 + s / 32) _ _ (s % 32) (List.replicate (s / 32 + (zF (val xs)).length + 1) 0) (Limbs.rep (by omega)) (by simp; omega) (by omega) (Nat.mod_lt _ (by decide)) _ (Heap.objs_set_same _ _ _))) ?_
     rintro _ _ ⟨ws, hw, hwl, hv, hH⟩
     obtain rfl := hH.symm
     rw [Heap.set_set]
     iterate 3 refine AX ?_
     rw [show s / 32 + (zF (val xs)).length + 1 - s / 32 = (zF (val xs)).length + 1 by omega] at hw hv
     have hmL := acG (o := 0 + s / 32) (Limbs.rep (n := s / 32 + (zF (val xs)).length + 1) (x := 0) (by omega)) hwl
     have hml : (mid (List.replicate (s / 32 + (zF (val xs)).length + 1) 0) (0 + s / 32) ws).length ≤ 1000000 := by rw [acZ hw (by simp; omega)]; simp; omega
     refine AWP.frzU (t := 6) rfl hb36 (by rw [acZ hw (by simp; omega)]; simp) (Nat.le_refl _) (by simp only [zN]; omega) ?_
     rw [List.take_of_length_le (by rw [acZ hw (by simp; omega)]; simp)]
     iterate 2 refine AX ?_
     refine .cl rfl Tryz.call311 (evs1 rfl) (qF _ _ (by assumption) (by assumption) _) ?_
     refine AX ?_
     refine .p rfl (zD (zE 0)) ?_
     iterate 3 refine AX ?_
     refine Ret.go (.cons (.tmp _ _ rfl) (.cons (.tmp _ _ rfl) .nil)) _ (Heap.le.refl _) ?_
     refine ⟨?_, rfl⟩
     rw [zR] at hv
     rw [val_mid0 (by omega), shl_val (qK.1 (Nat.le_refl _)) hv]; rfl
theorem awE {P : Program} {n : Nat} {cd : Code} {Q : Exit → Env → Heap → Prop} {env : Env} {H : Heap} {b : Bool} {t : Nat} (_h : env.get? t = some (.bool b)) (ht : b = true → AWP P n cd Q env H) (hf : b = false → AWP P n cd Q env H) : AWP P n cd Q env H := by
 grind
theorem and_mask (x r : Nat) : x &&& (2 ^ r - 1) = x % 2 ^ r := Nat.and_two_pow_sub_one_eq_mod x r
def aoZ (r : Nat) : List Nat → List Nat
 | [] => []
 | x :: xs => (x + xs.getD 0 0 * 4294967296) / 2 ^ r % 4294967296 :: aoZ r xs
theorem ajQ (r : Nat) : ∀ xs : List Nat, (aoZ r xs).length = xs.length
 | [] => rfl
 | x :: xs => by rw [aoZ, List.length_cons, List.length_cons, ajQ r xs]
theorem anK (r : Nat) : ∀ xs : List Nat, Limbs (aoZ r xs)
 | [] => Limbs.nil
 | x :: xs => Limbs.mk (Nat.mod_lt _ (by decide)) (anK r xs)
theorem axB (r : Nat) {xs : List Nat} {i : Nat} (h : i < xs.length) : (aoZ r xs).getD i 0 = (xs.getD i 0 + xs.getD (i + 1) 0 * 4294967296) / 2 ^ r % 4294967296 := by
 induction xs generalizing i with
 | nil => simp at h
 | cons x xs ih =>
  rw [aoZ]
  cases i with
  | zero => rw [List.getD_cons_zero, List.getD_cons_zero, List.getD_cons_succ]
  | succ i => rw [List.getD_cons_succ, List.getD_cons_succ, List.getD_cons_succ]; exact ih (by simpa using h)
theorem shr_limb {x y W P D r : Nat} (hr : 2 ^ r = P) (hB : 4294967296 = P * D) (hx : x < 4294967296) :
  (x + 4294967296 * (y + 4294967296 * W)) / P = (x + y * 4294967296) / P % 4294967296 + 4294967296 * ((y + 4294967296 * W) / P) := by
 have hP : 0 < P := by rw [← hr]; exact Nat.pow_pos (by decide)
 have hD : 0 < D := by
  rcases Nat.eq_zero_or_pos D with h | h
  ·grind
  ·exact h
 have hxD : x / P < D := by rw [Nat.div_lt_iff_lt_mul hP, Nat.mul_comm, ← hB]; exact hx
 have e1 : ∀ Z, (x + 4294967296 * Z) / P = x / P + D * Z := fun Z => by rw [hB, Nat.mul_assoc, Nat.add_mul_div_left _ _ hP]
 rw [e1, Nat.mul_comm y, e1]
 generalize hV : y + 4294967296 * W = V
 have ht : V % P = y % P := by rw [← hV, hB, Nat.mul_assoc, Nat.add_mul_mod_self_left]
 have hm := Nat.mod_lt y hP
 have e2 : D * V = D * (y % P) + 4294967296 * (V / P) := by
  rw [← ht]
  conv => lhs; rw [← Nat.div_add_mod V P]
  rw [Nat.mul_add, hB, ← Nat.mul_assoc, Nat.mul_comm D P]; omega
 have e3 : D * y = D * (y % P) + 4294967296 * (y / P) := by
  conv => lhs; rw [← Nat.div_add_mod y P]
  rw [Nat.mul_add, hB, ← Nat.mul_assoc, Nat.mul_comm D P]; omega
 have hlt : x / P + D * (y % P) < 4294967296 := by
  have h1 : D * (y % P + 1) ≤ D * P := Nat.mul_le_mul_left _ hm
  rw [Nat.mul_add, Nat.mul_comm D P, ← hB] at h1
  omega
 rw [e2, e3, ← Nat.add_assoc, ← Nat.add_assoc, Nat.add_mul_mod_self_left, Nat.mod_eq_of_lt hlt]
theorem aoY {r : Nat} (hr : r ≤ 32) : ∀ {xs : List Nat}, Limbs xs → val (aoZ r xs) = val xs / 2 ^ r
 | [], _ => by simp [aoZ, val]
 | x :: xs, h => by
  obtain ⟨hx, hxs⟩ := h.cons
  rw [aoZ, val, val, aoY hr hxs]
  have hB : 4294967296 = 2 ^ r * 2 ^ (32 - r) := by rw [← Nat.pow_add, show r + (32 - r) = 32 by omega]
  cases xs with
  | nil =>
   simp only [val, List.getD_nil, Nat.zero_mul, Nat.mul_zero, Nat.add_zero, Nat.zero_div]
   rw [Nat.mod_eq_of_lt]
   exact Nat.lt_of_le_of_lt (Nat.div_le_self _ _) hx
  | cons y ys =>
   rw [List.getD_cons_zero, val]
   exact (shr_limb rfl hB hx).symm
theorem shr_row {A Z : List Nat} {i : Nat} (hl : A.length = Z.length) (hi : i < Z.length) : (A.take i ++ Z.drop i).set i (A.getD i 0) = A.take (i + 1) ++ Z.drop (i + 1) := by
 have hA : i < A.length := by omega
 rw [List.set_append_right _ _ (by rw [List.length_take]; omega), List.length_take, show i - min i A.length = 0 by omega, List.drop_eq_getElem_cons hi, List.set_cons_zero, ← List.take_append_getElem hA, List.append_assoc, List.getD_eq_getElem?_getD, List.getElem?_eq_getElem hA]
 rfl
theorem bdL {A Z : List Nat} {i j : Nat} (hl : A.length = Z.length) (hi : i ≤ Z.length) (hj : i ≤ j) : (A.take i ++ Z.drop i).getD j 0 = Z.getD j 0 := by
 grind
theorem auJ {A Z : List Nat} {i : Nat} (hl : A.length = Z.length) (hi : i ≤ Z.length) : (A.take i ++ Z.drop i).length = Z.length := by
 grind
theorem bbN {ys : List Nat} {m : Nat} (h : ys.length = m) : (List.replicate m 0).take 0 ++ ys.take m ++ (List.replicate m 0).drop (0 + min ys.length m) = ys := by
 grind
theorem adL {xs : List Nat} {k : Nat} (h : k ≤ xs.length) : val xs = val (xs.take k) + 4294967296 ^ k * val (xs.drop k) := by
 have := aaJ (xs.take k) (xs.drop k)
 rw [List.take_append_drop, List.length_take, Nat.min_eq_left h] at this
 exact this
theorem aiB {xs : List Nat} (hx : Limbs xs) {k : Nat} (h : k ≤ xs.length) : val (xs.take k) < 4294967296 ^ k := by
 have := akA (hx.take k)
 rwa [List.length_take, Nat.min_eq_left h] at this
theorem ahN {xs : List Nat} (hx : Limbs xs) {k : Nat} (h : k ≤ xs.length) : val (xs.drop k) = val xs / 4294967296 ^ k := by
 have h1 := adL h
 have h2 := aiB hx h
 rw [h1, Nat.add_mul_div_left _ _ (Nat.pow_pos (by decide)), Nat.div_eq_of_lt h2, Nat.zero_add]
theorem shr_val {v s : Nat} (h : s / 32 ≤ (zF v).length) : val (aoZ (s % 32) ((zF v).drop (s / 32))) = v / 2 ^ s := by
 rw [aoY (by omega) ((zK v).drop _), ahN (zK v) h, zR, Nat.div_div_eq_div_mul, ahE]
theorem shr_none {v s : Nat} (h : (zF v).length ≤ s / 32) : v < 2 ^ s := by
 have h1 := qK.1 h
 have h2 : 4294967296 ^ (s / 32) ≤ 2 ^ s := by
  rw [← ahE]
  exact Nat.le_mul_of_pos_right _ (Nat.pow_pos (by decide))
 omega
theorem axS {v s : Nat} (h : s / 32 < (zF v).length) : v % 2 ^ s = 0 ↔ yL ((zF v).take (s / 32)) = 0 ∧ (zF v).getD (s / 32) 0 % 2 ^ (s % 32) = 0 := by
 have h1 := adL (Nat.le_of_lt h)
 have h2 := aiB (zK v) (Nat.le_of_lt h)
 rw [zR] at h1
 have e : v % 2 ^ s = val ((zF v).take (s / 32)) + 4294967296 ^ (s / 32) * ((zF v).getD (s / 32) 0 % 2 ^ (s % 32)) := by
  rw [← ahE, Nat.mod_mul]
  have hd : (zF v).drop (s / 32) = (zF v).getD (s / 32) 0 :: (zF v).drop (s / 32 + 1) := by
   rw [List.drop_eq_getElem_cons h, List.getD_eq_getElem?_getD, List.getElem?_eq_getElem h]; rfl
  have h3 : v / 4294967296 ^ (s / 32) = (zF v).getD (s / 32) 0 + 4294967296 * val ((zF v).drop (s / 32 + 1)) := by
   have := ahN (zK v) (Nat.le_of_lt h)
   rw [hd, zR, val] at this
   exact this.symm
  have h4 : v % 4294967296 ^ (s / 32) = val ((zF v).take (s / 32)) := by
   conv => lhs; rw [h1]
   rw [Nat.add_mul_mod_self_left, Nat.mod_eq_of_lt h2]
  rw [h3, h4]
  congr 2
  rw [show (4294967296 : Nat) = 2 ^ (s % 32) * 2 ^ (32 - s % 32) by rw [← Nat.pow_add, show s % 32 + (32 - s % 32) = 32 by omega], Nat.mul_assoc, Nat.add_mul_mod_self_left]
 rw [e]
 have hp : 0 < 4294967296 ^ (s / 32) := Nat.pow_pos (by decide)
 constructor
 ·intro h
  refine ⟨qO (by omega), ?_⟩
  have h0 : 4294967296 ^ (s / 32) * ((zF v).getD (s / 32) 0 % 2 ^ (s % 32)) = 0 := by omega
  rcases Nat.mul_eq_zero.1 h0 with h5 | h5
  ·omega
  ·exact h5
 ·rintro ⟨h5, h6⟩
  rw [qL h5, h6]; rfl
theorem lost_by {v s : Nat} (h : s / 32 < (zF v).length) (hg : decide (((0 : Nat) : Int) < (yL ((zF v).take (s / 32)) : Int)) = false) : decide (¬ (((((zF v).drop (s / 32)).getD 0 0 &&& (1 * 2 ^ (s % 32) - 1) : Nat) : Int) = ((0 : Nat) : Int))) = decide (v % 2 ^ s ≠ 0) := by
 have e : ((zF v).drop (s / 32)).getD 0 0 = (zF v).getD (s / 32) 0 := by
  rw [List.getD_eq_getElem?_getD, List.getD_eq_getElem?_getD, List.getElem?_drop]; rfl
 have hg2 : yL ((zF v).take (s / 32)) = 0 := by simpa using hg
 have hl := axS h
 rw [decide_eq_decide, e, Nat.one_mul, and_mask]
 constructor
 ·intro h1 h2; exact h1 (by rw [(hl.1 h2).2])
 ·intro h1 h2; exact h1 (hl.2 ⟨hg2, by omega⟩)
theorem len_pos {v : Nat} : decide (((0 : Nat) : Int) < ((zF v).length : Int)) = decide (v ≠ 0) := by
 rw [decide_eq_decide]
 rcases Nat.eq_zero_or_pos v with h | h
 ·subst h; rw [qV]; simp
 ·rw [qE h]; simp; omega

def shr_J (v s : Nat) (b : Nat) (H : Heap) : Nat → Env → Heap → Prop := fun k env H1 => ∃ i : Nat, i ≤ ((zF v).length - s / 32) ∧ env = [(8, .bool (decide (v % 2 ^ s ≠ 0))), (9, .mslice (some ⟨b, 0, none⟩) ((zF v).length - s / 32) ((zF v).length - s / 32)), (10, .int .i64 ((s % 32 : Nat) : Int)), (66, .int .i64 ((((zF v).length - s / 32) : Nat) : Int)), (67, .int .i64 (i : Int))] ∧ H1 = H.set b (.box 166 (U .u32 ((aoZ (s % 32) ((zF v).drop (s / 32))).take i ++ ((zF v).drop (s / 32)).drop i))) ∧ k = ((zF v).length - s / 32) - i

set_option maxRecDepth 100000 in
theorem bgZ (xs : List Nat) (tl : Tail) (hx : Limbs xs) (hl : xs.length ≤ 1000000) (s : Nat) (hs : val xs < BIG) (hs2 : s < 1000000000) (H : Heap) : ACall Tryz.prog 276 [.slice 1 (U .u32 xs) tl, .int .i64 (s : Int)] H (fun y H' => y = .tuple [aaP (val xs / 2 ^ s), .bool (decide (val xs % 2 ^ s ≠ 0)), .int .i64 0] ∧ H' = H) := by
 have h256 := aaC hs
 have hr := aaF xs
 have hrl := aaY hx
 refine ACall.of_body Tryz.func276 rfl Tryz.ntmps276 Tryz.results276 rfl ?_
 iterate 2 refine AX ?_
 refine .p rfl (zD (aaO (sz := 1) (tl := .shared))) ?_
 refine AX ?_
 refine .p rfl (zD (zE 0)) ?_
 iterate 7 refine AX ?_
 refine .p rfl (adN (tm rfl) (zE 0)) ?_
 iterate 3 refine AX ?_
 refine AWP.cx rfl (fun hc13 => ?_) (fun hc13 => ?_)
 ·omega
 ·iterate 3 refine AX ?_
  refine .e rfl (agZ Tryz.underlying327 Tryz.sizeOf239 Tryz.zeroValue239 rfl (tm rfl) (.inl rfl) ⟨rfl, rfl⟩) (.cl rfl Tryz.call310 (evs1 rfl) (alI _ _ _ (by assumption) (by assumption) _) ?_)
  iterate 3 refine AX ?_
  refine AWP.cx rfl (fun hc16 => ?_) (fun hc16 => ?_)
  ·omega
  ·iterate 6 refine AX ?_
   refine .cl rfl Tryz.call311 (evs1 rfl) (qF _ _ (by assumption) (by assumption) _) ?_
   iterate 3 refine AX ?_
   refine AWP.seqToL [(7, .int .i64 ((min (s / 32) (zF (val xs)).length : Nat) : Int))] [0, 1, 4, 5, 6] ?_ ?_
   ·-- region 6
    iterate 2 refine AX ?_
    refine .p rfl (aeM (tm rfl) (zE 32) (by omega) (by omega)) ?_
    iterate 5 refine AX ?_
    exact ⟨rfl, (zZ rfl (by congr 1; simp only [bcH]; first | omega | (split <;> omega)) sX), rfl⟩
   ·refine AWP.sub [(7, _), (0, _), (1, _), (4, _), (5, _), (6, _)] sX ?_
    refine AX ?_
    generalize hK : min (s / 32) (zF (val xs)).length = K
    generalize val xs = v at *
    have htk := (zK v).take K
    have htl : ((zF v).take K).length ≤ 1000000 := by simp; omega
    have hp2 : 1 ≤ 2 ^ (s % 32) := Nat.pow_pos (by decide)
    have hp3 : 2 ^ (s % 32) ≤ 2147483648 := Nat.le_trans (Nat.pow_le_pow_right (by decide) (by omega : s % 32 ≤ 31)) (by decide)
    iterate 3 refine AX ?_
    refine .p rfl (aeL (_) Tryz.underlying239 Tryz.sizeOf166 (tm rfl) (tm rfl) rfl (by omega)) (.cl rfl Tryz.call314 (evs1 rfl) (abG _ _ (by assumption) (by assumption) _) (.p rfl (yQ (tm rfl) (zE 0)) ?_))
    iterate 9 refine AX ?_
    refine .s rfl (yI ((zF v).length - K) Tryz.underlying239 Tryz.typeInfo166 Tryz.sizeOf166 Tryz.zeroValue166 (tm rfl) (tm rfl) (by omega) (by omega) (by decide) (by omega)) ?_
    rintro _ _ ⟨b36, rfl, hb36, hH⟩
    obtain rfl := hH.symm
    iterate 8 refine AX ?_
    refine .p rfl (ahD (_) Tryz.underlying239 Tryz.sizeOf166 (tm rfl) (tm rfl) rfl (by omega)) (.e rfl (aiC Tryz.underlying239 Tryz.sizeOf166 (tm rfl) (tm rfl) (Heap.objs_set_same _ _ _) (by (simp; done))) ?_)
    try first | rw [Heap.set_set] | rw [Heap.set_under (by assumption)]
    iterate 3 refine AX ?_
    rw [bbN (by simp)]
    iterate 2 refine AX ?_
    refine .p rfl (akY (tm rfl) (zE 32) (by omega)) ?_
    iterate 4 refine AX ?_
    refine AWP.seqTo 52 (.bool (decide ((zF v).length ≤ s / 32))) [4, 5, 6, 8, 9, 10] ?_ ?_
    ·-- region 11
     iterate 3 refine AX ?_
     refine .p rfl (qH (tm rfl) (zE 0)) ?_
     refine AX ?_
     refine zH (t := 47) rfl (fun hg47 => ?_) (fun hg47 => ?_)
     ·iterate 6 refine AX ?_
      exact ⟨rfl, zS rfl (by (simp at hg47; simp; omega)) sX, rfl⟩
     ·iterate 2 refine AX ?_
      refine .gp rfl rfl rfl (by assumption) (aeM (tm rfl) (zE 32) (by omega) (by omega)) ?_
      iterate 3 refine AX ?_
      exact ⟨rfl, zS rfl (by (simp at hg47; simp; omega)) sX, rfl⟩
    ·refine AWP.sub [(52, _), (4, _), (5, _), (6, _), (8, _), (9, _), (10, _)] sX ?_
     refine AWP.cx rfl (fun hc52 => ?_) (fun hc52 => ?_)
     ·refine AX ?_
      refine AWP.frzU (t := 9) rfl hb36 (by simp <;> omega) (Nat.le_refl _) (by simp only [zN]; omega) ?_
      iterate 2 refine AX ?_
      refine .p rfl (zD (aaO (sz := 1) (tl := .shared))) ?_
      refine AX ?_
      refine .p rfl (zD (zE 0)) ?_
      iterate 4 refine AX ?_
      refine Ret.go (.cons (.tmp _ _ rfl) (.cons (.tmp _ _ rfl) (.cons (.tmp _ _ rfl) .nil))) _ (Heap.le.refl _) ?_
      refine ⟨?_, rfl⟩
      have hle : (zF v).length ≤ s / 32 := by omega
      have hvs := shr_none hle
      rw [List.take_of_length_le (by omega), aeR, Nat.div_eq_of_lt hvs, Nat.mod_eq_of_lt hvs, len_pos]; rfl
     ·have hK2 : K = s / 32 := by omega
      subst hK2
      have hlt : s / 32 < (zF v).length := by omega
      have hli := axS hlt
      have hx00 := Limbs.getD ((zK v).drop (s / 32)) 0
      have hAl : (aoZ (s % 32) ((zF v).drop (s / 32))).length = ((zF v).drop (s / 32)).length := ajQ _ _
      have hZl : ((zF v).drop (s / 32)).length = ((zF v).length - s / 32) := List.length_drop
      iterate 2 refine AX ?_
      refine AWP.seqTo 8 (.bool (decide (v % 2 ^ s ≠ 0))) [4, 5, 6, 9, 10] ?_ ?_
      ·-- region 13
       refine awE (t := 8) rfl (fun hg8 => ?_) (fun hg8 => ?_)
       ·refine AWP.draw [(0, true), (1, true), (2, true), (3, true), (4, true), (5, true), (6, true), (7, true), (8, true), (9, true), (10, true), (11, true)] rfl (by decide +kernel) ?_
        iterate 13 refine AX ?_
        exact ⟨rfl, zS rfl (by (simp at hg8; simp; omega)) sX, rfl⟩
       ·refine AWP.draw [(0, true), (1, true), (2, true), (3, true), (5, true), (6, true), (7, true), (4, false), (8, true), (9, true), (10, true), (11, true)] rfl (by decide +kernel) ?_
        iterate 3 refine AX ?_
        refine .gp rfl rfl rfl rfl (by assumption) (yR (0) Tryz.underlying239 Tryz.sizeOf166 (tm rfl) (zE 0) (by omega) (by omega)) ?_
        refine AX ?_
        refine .gp rfl rfl rfl rfl (by assumption) (auY (zE 1) (tm rfl) (by omega) (by omega)) (.gp rfl rfl rfl rfl (by assumption) (auX (tm rfl) (zE 1) (by omega) (by omega)) (.gs rfl rfl rfl rfl (by assumption) (qN Tryz.isAgg166 (tm rfl) (Heap.objs_set_same _ _ _) (by omega)) ?_))
        rintro _ _ ⟨rfl, hH⟩
        obtain rfl := hH.symm
        refine .gp rfl rfl rfl rfl (by assumption) (anU (tm rfl) (tm rfl) (by assumption) (by omega)) (.gp rfl rfl rfl rfl (by assumption) (apL (tm rfl) (zE 0)) ?_)
        iterate 3 refine AX ?_
        exact ⟨rfl, zS rfl (lost_by hlt hg8) sX, rfl⟩
      ·refine AWP.sub [(8, _), (4, _), (5, _), (6, _), (9, _), (10, _)] sX ?_
       iterate 5 refine AX ?_
       refine .p rfl (zT (zE 0)) ?_
       iterate 3 refine AX ?_
       refine AWP.loopW (shr_J v s b36 H) (((zF v).length - s / 32)) ⟨0, Nat.zero_le _, rfl, rfl, rfl⟩ sX (Heap.le.refl _) ?_
       rintro _ _ _ ⟨i, hi, rfl, rfl, hk⟩
       iterate 6 refine AX ?_
       refine AWP.cx rfl (fun hc68 => ?_) (fun hc68 => ?_)
       ·have hi2 : i < ((zF v).length - s / 32) := by omega
        have hrl2 := auJ hAl (by omega : i ≤ ((zF v).drop (s / 32)).length)
        have hg0 := bdL hAl (by omega : i ≤ ((zF v).drop (s / 32)).length) (Nat.le_refl i)
        have hg1 := bdL hAl (by omega : i ≤ ((zF v).drop (s / 32)).length) (by omega : i ≤ i + 1)
        have hx0 := Limbs.getD ((zK v).drop (s / 32)) i
        have hx1 := Limbs.getD ((zK v).drop (s / 32)) (i + 1)
        iterate 14 refine AX ?_
        refine .p rfl (yR (i) Tryz.underlying239 Tryz.sizeOf166 (tm rfl) (tm rfl) (by omega) (by omega)) (.e rfl (qN Tryz.isAgg166 (tm rfl) (Heap.objs_set_same _ _ _) (by omega)) ?_)
        iterate 4 refine AX ?_
        refine AWP.seqToL [(12, .int .u64 ((((zF v).drop (s / 32)).getD i 0 + ((zF v).drop (s / 32)).getD (i + 1) 0 * 4294967296 : Nat) : Int))] [8, 9, 10, 66, 67, 11] ?_ ?_
        ·iterate 3 refine AX ?_
         refine .p rfl (aeP (tm rfl) (zE 1) (by omega)) ?_
         iterate 5 refine AX ?_
         refine AWP.cx rfl (fun hc79 => ?_) (fun hc79 => ?_)
         ·iterate 4 refine AX ?_
          refine .p rfl (aeP (tm rfl) (zE 1) (by omega)) (.p rfl (yR (i + 1) Tryz.underlying239 Tryz.sizeOf166 (tm rfl) (tm rfl) (by omega) (by omega)) (.e rfl (qN Tryz.isAgg166 (tm rfl) (Heap.objs_set_same _ _ _) (by omega)) ?_))
          refine AX ?_
          refine .p rfl (yV (tm rfl) (zE 32) (by omega) (by rw [show (2 : Nat) ^ 32 = 4294967296 by decide]; omega)) (.p rfl (qW (tm rfl) (tm rfl) (by omega) (by omega)) ?_)
          iterate 2 refine AX ?_
          exact ⟨rfl, (zZ rfl (by (rw [hg0, hg1, avK (k := 32) (Nat.lt_of_lt_of_eq hx0 (by decide))] <;> rfl)) sX), rfl⟩
         ·refine AX ?_
          exact ⟨rfl, (zZ rfl (by (rw [hg0, aeS (i := i + 1) (by omega), Nat.zero_mul] <;> rfl)) sX), rfl⟩
        ·refine AWP.sub [(12, _), (8, _), (9, _), (10, _), (66, _), (67, _), (11, _)] sX ?_
         iterate 5 refine AX ?_
         refine .p rfl (zW (tm rfl) (tm rfl) (by omega)) ?_
         refine AX ?_
         refine .p rfl (yR (i) Tryz.underlying239 Tryz.sizeOf166 (tm rfl) (tm rfl) (by omega) (by omega)) (.e0 (qS Tryz.sizeOf166 (tm rfl) (tm rfl) (Heap.objs_set_same _ _ _) (by omega)) ?_)
         try first | rw [Heap.set_set] | rw [Heap.set_under (by assumption)]
         iterate 4 refine AX ?_
         refine .p rfl (aeP (tm rfl) (zE 1) (by omega)) ?_
         iterate 3 refine AX ?_
         refine Round.mk (J := shr_J v s b36 H) ⟨i + 1, by omega, rfl, by rw [← shr_row hAl (by omega), axB _ (by omega)]; rfl, rfl⟩ sX (Heap.le.refl _) (by omega)
       ·iterate 6 refine AX ?_
        have hi3 : i = ((zF v).length - s / 32) := by omega
        refine AWP.frzU (t := 9) rfl hb36 (by rw [auJ hAl (by omega)]; omega) (Nat.le_refl _) (by simp only [zN]; omega) ?_
        rw [List.take_of_length_le (l := _ ++ _) (by rw [auJ hAl (by omega)]; omega), List.take_of_length_le (l := aoZ (s % 32) ((zF v).drop (s / 32))) (by omega), List.drop_of_length_le (l := ((zF v).drop (s / 32))) (by omega), List.append_nil]
        have hAL := anK (s % 32) ((zF v).drop (s / 32))
        iterate 2 refine AX ?_
        refine .cl rfl Tryz.call311 (evs1 rfl) (qF _ _ (by assumption) (by omega) _) ?_
        iterate 3 refine AX ?_
        refine .p rfl (zD (zE 0)) ?_
        iterate 3 refine AX ?_
        refine Ret.go (.cons (.tmp _ _ rfl) (.cons (.tmp _ _ rfl) (.cons (.tmp _ _ rfl) .nil))) _ (Heap.le.refl _) ?_
        refine ⟨?_, rfl⟩
        rw [shr_val (by omega)]; rfl
theorem ahI {n : Nat} (h : n < BIG) : (zF n).length ≤ 1000000 := Nat.le_trans (aaC h) (by decide)
theorem addB (a b : Nat) (h : a + b < BIG) (H : Heap) : ACall Tryz.prog 309 [aaP a, aaP b] H (fun y H' => y = .tuple [aaP (a + b), .int .i64 0] ∧ H' = H) := by
 have := bhG (zF a) .shared (zK a) (ahI (by omega)) (zF b) .shared (zK b) (ahI (by omega)) H
 rwa [zR, zR, fitN, arM h] at this
theorem mulB (a b : Nat) (ha : a < BIG) (hb : b < BIG) (h : a * b < BIG) (H : Heap) : ACall Tryz.prog 269 [aaP a, aaP b] H (fun y H' => y = .tuple [aaP (a * b), .int .i64 0] ∧ H' = H) := by
 have := bhC (zF a) .shared (zK a) (ahI ha) (zF b) .shared (zK b) (ahI hb) H
 rwa [zR, zR, mulN, arM ⟨ha, hb, h⟩] at this
theorem shlB (a s : Nat) (h : a * 2 ^ s < BIG) (hs : s < 1000000000) (H : Heap) : ACall Tryz.prog 272 [aaP a, .int .i64 (s : Int)] H (fun y H' => y = .tuple [aaP (a * 2 ^ s), .int .i64 0] ∧ H' = H) := by
 have := atM (zF a) .shared (zK a) (ahI (ahH h)) s (by rwa [zR]) hs H
 rwa [zR] at this
theorem shrB (a s : Nat) (h : a < BIG) (hs : s < 1000000000) (H : Heap) : ACall Tryz.prog 276 [aaP a, .int .i64 (s : Int)] H (fun y H' => y = .tuple [aaP (a / 2 ^ s), .bool (decide (a % 2 ^ s ≠ 0)), .int .i64 0] ∧ H' = H) := by
 have := bgZ (zF a) .shared (zK a) (ahI h) s (by rwa [zR]) hs H
 rwa [zR] at this
theorem lenB (a : Nat) (h : a < BIG) (H : Heap) : ACall Tryz.prog 271 [aaP a] H (fun y H' => y = .int .i64 (yE a : Int) ∧ H' = H) := by
 have := atQ (zF a) .shared (zK a) (ahI h) H
 rwa [zR] at this
theorem cmpB (a b : Nat) (ha : a < BIG) (hb : b < BIG) (H : Heap) : ACall Tryz.prog 316 [aaP a, aaP b] H (fun y H' => y = .int .i64 (bgT a b) ∧ H' = H) := by
 have := bhE (zF a) .shared (zK a) (ahI ha) (zF b) .shared (zK b) (ahI hb) H
 rwa [zR, zR] at this
def pow_J (b n : Nat) (H : Heap) : Nat → Env → Heap → Prop := fun k env H1 => ∃ i : Nat, i ≤ n ∧ env = [(0, .int .i64 (b : Int)), (6, aaP (b ^ i)), (7, .int .i64 0), (30, .int .i64 (n : Int)), (31, .int .i64 (i : Int))] ∧ H = H1 ∧ k = n - i

set_option maxRecDepth 100000 in
theorem amL (b n : Nat) (hb : 2 ≤ b) (hb2 : b ≤ 1000000) (hn2 : n < 1000000000) (h : b ^ n < BIG) (H : Heap) : ACall Tryz.prog 268 [.int .i64 (b : Int), .int .i64 (n : Int)] H (fun y H' => y = .tuple [aaP (b ^ n), .int .i64 0] ∧ H' = H) := by
 refine ACall.of_body Tryz.func268 rfl Tryz.ntmps268 Tryz.results268 rfl ?_
 refine .seq (.region ?_)
 refine .p rfl (zD (aaO (sz := 1) (tl := .shared))) ?_
 refine .p rfl (zD zI) (.nil ?_)
 refine Next.go ?_
 refine .seq ?_
 refine AWP.seqTo 17 (.bool (false)) [0, 1, 4, 5] ?_ ?_
 ·-- region 1
  refine .region (.mv rfl rfl (.p rfl (adN (tm rfl) zI) (.mv rfl rfl ?_)))
  refine zH (t := 10) rfl (fun hg10 => ?_) (fun hg10 => ?_)
  ·refine .gn rfl rfl rfl (by assumption) (.gn rfl rfl rfl (by assumption) (.p rfl (adY (tm rfl) (by assumption) yF) (.mv rfl rfl (.gn rfl rfl rfl (by rfl) (.gn rfl rfl rfl (by rfl) (.p rfl (adY (tm rfl) (by rfl) yF) (.nil ?_)))))))
   exact ⟨rfl, zS rfl (by (simp at hg10; omega)) sX, rfl⟩
  ·iterate 4 refine AX ?_
   refine zH (t := 14) rfl (fun hg14 => ?_) (fun hg14 => ?_)
   ·iterate 4 refine AX ?_
    exact ⟨rfl, zS rfl (by (simp at hg14; omega)) sX, rfl⟩
   ·iterate 4 refine AX ?_
    exact ⟨rfl, zS rfl (by rfl) sX, rfl⟩
 ·refine AWP.sub [(17, _), (0, _), (1, _), (4, _), (5, _)] sX ?_
  refine AWP.cond_false (tm rfl) (by rfl) ?_
  iterate 4 refine AX ?_
  refine .e rfl (agZ Tryz.underlying239 Tryz.sizeOf166 Tryz.zeroValue166 rfl (zE 1) (.inl rfl) ⟨rfl, rfl⟩) ?_
  iterate 5 refine AX ?_
  refine AWP.seqTo 19 (.bool (false)) [0, 1, 4, 5, 6] ?_ ?_
  ·-- region 4
   iterate 4 refine AX ?_
   refine zH (t := 22) rfl (fun hg22 => ?_) (fun hg22 => ?_)
   ·iterate 5 refine AX ?_
    exact ⟨rfl, zS rfl (by (simp at hg22; omega)) sX, rfl⟩
   ·iterate 5 refine AX ?_
    exact ⟨rfl, zS rfl (by rfl) sX, rfl⟩
  ·refine AWP.sub [(19, _), (0, _), (1, _), (4, _), (5, _), (6, _)] sX ?_
   refine AWP.cond_false (tm rfl) (by rfl) ?_
   iterate 7 refine AX ?_
   refine AWP.cond (tm rfl) (fun hc26 => ?_) (fun hc26 => ?_)
   ·try simp only [decide_eq_true_eq] at hc26
    omega
   ·try simp only [decide_eq_false_iff_not, Int.not_le] at hc26
    iterate 4 refine AX ?_
    refine AWP.weakv (aaP (b ^ 0)) (t := 6) rfl (.slice _ _ _) ?_
    iterate 12 refine AX ?_
    refine AWP.loopW (pow_J b n H) (n) ⟨0, Nat.zero_le _, rfl, rfl, rfl⟩ sX (Heap.le.refl _) ?_
    rintro _ _ _ ⟨i, hi, rfl, rfl, hk⟩
    iterate 6 refine AX ?_
    refine AWP.cond (tm rfl) (fun hc32 => ?_) (fun hc32 => ?_)
    ·try simp only [decide_eq_true_eq] at hc32
     have hle : b ^ (i + 1) ≤ b ^ n := Nat.pow_le_pow_right (by omega) (by omega)
     have hp : b ^ i * b < BIG := Nat.lt_of_le_of_lt hle h
     have hp0 : b ^ i ≤ b ^ n := Nat.pow_le_pow_right (by omega) (by omega)
     have hbB : b < BIG := Nat.lt_of_le_of_lt hb2 (by unfold BIG; decide +kernel)
     have hiB : b ^ i < BIG := by omega
     iterate 9 refine AX ?_
     refine .cl rfl Tryz.call230 (evs1 rfl) (ajY _ (by omega) _) (.cl rfl Tryz.call269 (evs2 rfl rfl) (mulB _ _ (by assumption) (by assumption) (by assumption) _) ?_)
     iterate 13 refine AX ?_
     refine AWP.cond_false (tm rfl) (by rfl) ?_
     iterate 8 refine AX ?_
     refine Round.mk (J := pow_J b n H) ⟨i + 1, by omega, rfl, rfl, rfl⟩ sX (Heap.le.refl _) (by omega)
    ·try simp only [decide_eq_false_iff_not, Int.not_lt] at hc32
     iterate 13 refine AX ?_
     refine Ret.go (.cons (.tmp _ _ rfl) (.cons (.tmp _ _ rfl) .nil)) _ (Heap.le.refl _) ?_
     refine ⟨?_, rfl⟩
     rw [show i = n by omega]; rfl
theorem asJ {zs ws : List Nat} {o n : Nat} (hn : ws.length = n) (ho : o ≤ zs.length) : ((mid zs o ws).drop o).take n = ws := by
 unfold mid
 have e : (zs.take o).length = o := by rw [List.length_take]; omega
 rw [List.append_assoc, List.drop_append_of_le_length (by omega), List.drop_of_length_le (by omega), List.nil_append, List.take_append_of_le_length (by omega), List.take_of_length_le (by omega)]
theorem bbM {xs : List Nat} {r : Nat} (h : r ≤ xs.length) : (List.replicate r 0).take 0 ++ xs.take r ++ (List.replicate r 0).drop (0 + min xs.length r) = xs.take r := by
 rw [List.drop_of_length_le (by simp; omega)]; simp
theorem cmp_lt {a b : Nat} (h : bgT a b < 0) : a < b := by
 unfold bgT at h
 split at h
 ·assumption
 ·split at h <;> simp at h
theorem cmp_ge {a b : Nat} (h : ¬ bgT a b < 0) : b ≤ a := by
 unfold bgT at h
 split at h
 ·simp at h
 ·omega
theorem len_one {b : Nat} (h : (zF b).length = 1) : zF b = [b] ∧ 0 < b ∧ b < 4294967296 := by
 have h0 : 0 < b := by
  rcases Nat.eq_zero_or_pos b with h1 | h1
  ·rw [h1, qV] at h; simp at h
  ·exact h1
 have h1 := qK.1 (Nat.le_of_eq h)
 refine ⟨?_, h0, by omega⟩
 rw [qE h0, show b / 4294967296 = 0 by omega, Nat.mod_eq_of_lt (by omega)]; rfl

set_option maxRecDepth 100000 in
theorem ayL (xs : List Nat) (tl : Tail) (hx : Limbs xs) (hl : xs.length ≤ 1000000) (H : Heap) : ACall Tryz.prog 278 [.slice 1 (U .u32 xs) tl] H (fun y H' => ∃ b : Nat, H.objs b = none ∧ y = .mslice (some ⟨b, 0, none⟩) (zF (val xs)).length (zF (val xs)).length ∧ H' = H.set b (.box 166 (U .u32 (zF (val xs))))) := by
 have hr := aaF xs
 have hrl := aaY hx
 refine ACall.of_body Tryz.func278 rfl Tryz.ntmps278 Tryz.results278 rfl ?_
 iterate 2 refine AX ?_
 refine .p rfl (zD (aaO (sz := 1) (tl := .full))) ?_
 iterate 5 refine AX ?_
 refine .cl rfl Tryz.call314 (evs1 rfl) (abG _ _ (by assumption) (by assumption) _) (.s rfl (yI (_) Tryz.underlying239 Tryz.typeInfo166 Tryz.sizeOf166 Tryz.zeroValue166 (tm rfl) (tm rfl) rfl rfl (by decide) (by omega)) ?_)
 rintro _ _ ⟨b6, rfl, hb6, hH⟩
 obtain rfl := hH.symm
 iterate 7 refine AX ?_
 refine .e rfl (aiC Tryz.underlying239 Tryz.sizeOf166 (tm rfl) (tm rfl) (Heap.objs_set_same _ _ _) (by (simp; done))) ?_
 try first | rw [Heap.set_set] | rw [Heap.set_under (by assumption)]
 iterate 9 refine AX ?_
 refine Ret.go (.cons (.tmp _ _ rfl) .nil) _ (Heap.le.refl _) ?_
 rw [bbM hr, adU hx, hrl]
 exact ⟨b6, hb6, rfl, rfl⟩

theorem cutB (a : Nat) (h : (zF a).length ≤ 1000000) (H : Heap) : ACall Tryz.prog 311 [aaP a] H (fun y H' => y = aaP a ∧ H' = H) := by
 have := qF (zF a) .shared (zK a) h H
 rwa [zR] at this
def axE (b n c : Nat) (zs : List Nat) (H : Heap) : Nat → Env → Heap → Prop := fun k env H1 => ∃ i : Nat, i ≤ n ∧ yL (zs.take i) = yL (zs.take n) ∧ env = [(0, .mslice (some ⟨b, 0, none⟩) n c), (3, .int .i64 (i : Int))] ∧ H = H1 ∧ k = i

set_option maxRecDepth 100000 in
theorem arI (b n c : Nat) (zs : List Nat) (hz : Limbs zs) (hn : n ≤ zs.length) (hn2 : n ≤ 1000000) (hc : n ≤ c) (H : Heap) (hb : H.objs b = some (.box 166 (U .u32 zs))) : ACall Tryz.prog 314 [.mslice (some ⟨b, 0, none⟩) n c] H (fun y H' => y = .int .i64 (yL (zs.take n) : Int) ∧ H' = H) := by
 refine ACall.of_body Tryz.func314 rfl Tryz.ntmps314 Tryz.results314 rfl ?_
 iterate 14 refine AX ?_
 refine AWP.loopW (axE b n c zs H) (n) ⟨n, Nat.le_refl _, rfl, rfl, rfl, rfl⟩ sX (Heap.le.refl _) ?_
 rintro _ _ _ ⟨i, hi, hr, rfl, rfl, hk⟩
 refine AX ?_
 refine AWP.seqTo 15 (.bool (decide (0 < (i : Int)) && decide (((zs.getD (i - 1) 0 : Nat) : Int) = 0))) [0, 3] ?_ ?_
 ·-- region 2
  iterate 4 refine AX ?_
  refine zH (t := 8) rfl (fun hg8 => ?_) (fun hg8 => ?_)
  ·have hh8 := hg8; try simp only [decide_eq_true_eq] at hh8
   iterate 3 refine AX ?_
   refine .gp rfl rfl rfl (by assumption) (yR (i - 1) Tryz.underlying239 Tryz.sizeOf166 (tm rfl) (tm rfl) (by omega) (by omega)) (.gs rfl rfl rfl (by assumption) (qN Tryz.isAgg166 (tm rfl) (by assumption) (by omega)) ?_)
   rintro _ _ ⟨rfl, hH⟩
   obtain rfl := hH.symm
   refine .gp rfl rfl rfl (by assumption) (qH (tm rfl) (zE 0)) ?_
   iterate 2 refine AX ?_
   exact ⟨rfl, zS rfl (by simp_all) sX, rfl⟩
  ·have hh8 := hg8; try simp only [decide_eq_false_iff_not, Int.not_lt] at hh8
   iterate 8 refine AX ?_
   exact ⟨rfl, zS rfl (by simp_all) sX, rfl⟩
 ·refine AWP.sub [(15, _), (0, _), (3, _)] sX ?_
  refine AWP.cx rfl (fun hc15 => ?_) (fun hc15 => ?_)
  ·simp only [Bool.and_eq_true, decide_eq_true_eq] at hc15
   iterate 10 refine AX ?_
   have hs := adW (xs := zs) (k := i - 1) (by omega)
   rw [show i - 1 + 1 = i by omega, if_pos (by omega)] at hs
   refine Round.mk (J := axE b n c zs H) ⟨i - 1, by omega, by rw [← hs, hr], rfl, rfl, rfl⟩ (zP rfl (zZ rfl (by rw [show ((i : Int) - 1) = ((i - 1 : Nat) : Int) by omega]) qM)) (Heap.le.refl _) (by omega)
  ·simp only [Bool.and_eq_false_iff, decide_eq_false_iff_not] at hc15
   iterate 12 refine AX ?_
   refine Ret.go (.cons (.tmp _ _ rfl) .nil) _ (Heap.le.refl _) ?_
   refine ⟨?_, rfl⟩
   have hq : i = yL (zs.take n) := by
    rcases Nat.eq_zero_or_pos i with h0 | h0
    ·subst h0; rw [← hr]; rfl
    ·have hs := adW (xs := zs) (k := i - 1) (by omega)
     rw [show i - 1 + 1 = i by omega, if_neg (by omega), hr] at hs
     exact hs.symm
   rw [← hq]; rfl

set_option maxRecDepth 100000 in
theorem bbK (b n c : Nat) (zs : List Nat) (hz : Limbs zs) (hn : n ≤ zs.length) (hn2 : n ≤ 1000000) (hc : n ≤ c) (H : Heap) (hb : H.objs b = some (.box 166 (U .u32 zs))) : ACall Tryz.prog 311 [.mslice (some ⟨b, 0, none⟩) n c] H (fun y H' => y = .mslice (some ⟨b, 0, none⟩) (yL (zs.take n)) c ∧ H' = H) := by
 have hr := aaF (zs.take n)
 have hrt : (zs.take n).length = n := by simp; omega
 refine ACall.of_body Tryz.func311 rfl Tryz.ntmps311 Tryz.results311 rfl ?_
 iterate 2 refine AX ?_
 refine .p rfl (zD (aaO (sz := 1) (tl := .full))) ?_
 iterate 6 refine AX ?_
 refine .cl rfl Tryz.call314 (evs1 rfl) (arI _ _ _ zs hz hn hn2 hc _ hb) (.p rfl (apF (_) Tryz.underlying239 Tryz.sizeOf166 (tm rfl) (tm rfl) rfl (by omega)) ?_)
 iterate 4 refine AX ?_
 refine Ret.go (.cons (.tmp _ _ rfl) .nil) _ (Heap.le.refl _) ?_
 exact ⟨rfl, rfl⟩
section
open Go

def dgt (n : Nat) : UInt8 := UInt8.ofNat (48 + n)
def bcJ : Nat → Nat → List UInt8 → List UInt8
 | 0, _, acc => acc
 | f + 1, n, acc => if n < 10 then dgt n :: acc else bcJ f (n / 10) (dgt (n % 10) :: acc)
def dec (n : Nat) : List UInt8 := bcJ (n + 1) n []
theorem ahO : ∀ (f n : Nat) (acc : List UInt8), bcJ f n acc = bcJ f n [] ++ acc
 | 0, _, _ => rfl
 | f + 1, n, acc => by
  unfold bcJ
  split
  ·rfl
  ·rw [ahO f (n / 10) (dgt (n % 10) :: acc), ahO f (n / 10) [dgt (n % 10)], List.append_assoc]; rfl
theorem atE : ∀ (f g n : Nat), n < f → n < g → bcJ f n [] = bcJ g n []
 | 0, _, n, h, _ => absurd h (Nat.not_lt_zero n)
 | _ + 1, 0, n, _, h => absurd h (Nat.not_lt_zero n)
 | f + 1, g + 1, n, h1, h2 => by
  unfold bcJ
  split
  ·rfl
  ·rw [ahO f, ahO g, atE f g (n / 10) (by omega) (by omega)]
theorem atD {n : Nat} (h : n < 10) : dec n = [dgt n] := by
 unfold dec bcJ; rw [if_pos h]
theorem aoN {n : Nat} (h : 10 ≤ n) : dec n = dec (n / 10) ++ [dgt (n % 10)] := by
 unfold dec
 rw [show bcJ (n + 1) n [] = bcJ n (n / 10) [dgt (n % 10)] by rw [bcJ, if_neg (by omega)], ahO, atE n (n / 10 + 1) (n / 10) (by omega) (by omega)]
theorem dec_lib (n : Nat) : Lib.decDigits n = dec n := by
 induction n using Nat.strongRecOn with
 | ind n ih =>
  unfold Lib.decDigits
  split
  ·rename_i h; rw [atD h]; rfl
  ·rename_i h; rw [ih _ (by omega), aoN (n := n) (by omega)]; rfl
theorem itoa_nat (n : Nat) : Lib.itoa ((n : Nat) : Int) = dec n := by
 unfold Lib.itoa
 rw [if_neg (by omega), Int.toNat_natCast, dec_lib]
theorem dec_pos (n : Nat) : 0 < (dec n).length := by
 rcases Nat.lt_or_ge n 10 with h | h
 ·rw [atD h]; simp
 ·rw [aoN h]; simp
theorem aiM {n k : Nat} (hk : 0 < k) : (dec n).length ≤ k ↔ n < 10 ^ k := by
 induction k generalizing n with
 | zero => omega
 | succ k ih =>
  rcases Nat.lt_or_ge n 10 with h | h
  ·rw [atD h]
   have : 10 ^ 1 ≤ 10 ^ (k + 1) := Nat.pow_le_pow_right (by decide) (by omega)
   simp only [List.length_cons, List.length_nil]
   omega
  ·rw [aoN h, List.length_append, List.length_cons, List.length_nil]
   rcases Nat.eq_zero_or_pos k with h0 | h0
   ·subst h0
    have := dec_pos (n / 10)
    rw [show (10 : Nat) ^ (0 + 1) = 10 by decide]
    omega
   ·rw [Nat.add_le_add_iff_right, ih h0, Nat.pow_succ, Nat.div_lt_iff_lt_mul (by decide)]
def pad : Nat → Nat → List UInt8
 | 0, _ => []
 | k + 1, r => pad k (r / 10) ++ [dgt (r % 10)]
theorem bgQ {n : Nat} : ∀ (k : Nat), 10 ^ k ≤ n → dec n = dec (n / 10 ^ k) ++ pad k (n % 10 ^ k) := by
 intro k
 induction k generalizing n with
 | zero => intro _; rw [Nat.pow_zero, Nat.div_one, pad, List.append_nil]
 | succ k ih =>
  intro h
  have hp : 0 < 10 ^ k := Nat.pow_pos (by decide)
  have h1 : 10 ^ k ≤ n / 10 := by rw [Nat.le_div_iff_mul_le (by decide), ← Nat.pow_succ]; exact h
  rw [aoN (by omega), ih h1, Nat.div_div_eq_div_mul, List.append_assoc, pad, Nat.mul_comm 10, ← Nat.pow_succ]
  congr 2
  ·congr 1
   rw [Nat.pow_succ, Nat.mul_comm (10 ^ k) 10, Nat.mod_mul_right_div_self]
  ·rw [Nat.pow_succ, Nat.mul_comm (10 ^ k) 10, Nat.mod_mul_right_mod]
theorem axL : ∀ k : Nat, pad k 0 = List.replicate k 48
 | 0 => rfl
 | k + 1 => by rw [pad, Nat.zero_div, axL k, List.replicate_succ']; rfl
theorem pad_dec {k r : Nat} (hk : 0 < k) (h : r < 10 ^ k) : pad k r = List.replicate (k - (dec r).length) 48 ++ dec r := by
 induction k generalizing r with
 | zero => omega
 | succ k ih =>
  rcases Nat.lt_or_ge r 10 with h1 | h1
  ·rw [atD h1, pad, show r / 10 = 0 by omega, axL, Nat.mod_eq_of_lt h1]
   simp
  ·have hk0 : 0 < k := by
    rcases Nat.eq_zero_or_pos k with h0 | h0
    ·subst h0; simp at h; omega
    ·exact h0
   rw [aoN h1, pad, ih hk0 (by rw [Nat.div_lt_iff_lt_mul (by decide), ← Nat.pow_succ]; exact h), List.length_append, List.append_assoc]
   congr 2
   simp only [List.length_cons, List.length_nil]
   omega
theorem dec_nine {v : Nat} (h : 0 < v / 1000000000) : dec v = dec (v / 1000000000) ++ (List.replicate (9 - (dec (v % 1000000000)).length) 48 ++ dec (v % 1000000000)) := by
 rw [← pad_dec (by decide) (Nat.mod_lt _ (by decide) : v % 1000000000 < 10 ^ 9)]
 exact bgQ 9 (by omega)
theorem bgR {n : Nat} (h : n < BIG) : (dec n).length ≤ 2500 :=
 (aiM (by decide)).2 (Nat.lt_of_lt_of_le h (by unfold BIG; decide +kernel))
end
end Go.Proofs.YtmmgbnolccpjoaaGreatDoor
