import Derived.Test.YtmmgbnolccpjoaaGreatDoorN2
set_option maxHeartbeats 1000000
namespace Go.Proofs.YtmmgbnolccpjoaaGreatDoor
open Go.Proofs.Tryz
variable {qs us vs ws zs : List Nat} {A T V X c d j n r v v1 v2 x y : Nat}
theorem ayH (x : Nat) : x &&& 4294967295 = x % 4294967296 := cW x 32
def asX (u low br : Nat) : Nat := ((u + (18446744073709551616 - low % 4294967296)) % 18446744073709551616 + (18446744073709551616 - br)) % 18446744073709551616
theorem ayV {u low br : Nat} (hu : u < 4294967296) (hb : br ≤ 1) : asX u low br / 9223372036854775808 ≤ 1 ∧ u + 4294967296 * (asX u low br / 9223372036854775808) = asX u low br % 4294967296 + low % 4294967296 + br := by
 unfold asX
 have : low % 4294967296 < 4294967296 := bT _ aC
 generalize low % 4294967296 = l at *
 omega
theorem bjT {i br : Nat} (hi : i < ws.length) (hg : ws.getD i 0 = us.getD i 0) (hu : us.getD i 0 < 4294967296) (hb : br ≤ 1)
  (h : val (us.take i) + 4294967296 ^ i * (c + br) = val (ws.take i) + d * val (vs.take i)) :
  val (us.take (i + 1)) + 4294967296 ^ (i + 1) * ((d * vs.getD i 0 / 4294967296 + (d * vs.getD i 0 % 4294967296 + c) / 4294967296) + asX (us.getD i 0) (d * vs.getD i 0 % 4294967296 + c) br / 9223372036854775808)
   = val ((ws.set i (asX (us.getD i 0) (d * vs.getD i 0 % 4294967296 + c) br % 4294967296)).take (i + 1)) + d * val (vs.take (i + 1)) := by
 obtain ⟨_, e⟩ := ayV (low := d * vs.getD i 0 % 4294967296 + c) hu hb
 rw [afV hi, yS us, yS vs, cC d, Nat.mul_left_comm d, bR]
 generalize asX (us.getD i 0) (d * vs.getD i 0 % 4294967296 + c) br / 9223372036854775808 = b2 at *
 generalize asX (us.getD i 0) (d * vs.getD i 0 % 4294967296 + c) br % 4294967296 = z at *
 generalize us.getD i 0 = u at *
 generalize d * vs.getD i 0 = p at *
 generalize d * val (vs.take i) = dv at *
 generalize 4294967296 ^ i = B at *
 have e2 : u + 4294967296 * (p / 4294967296 + (p % 4294967296 + c) / 4294967296 + b2) = z + p + (c + br) := by omega
 have e3 : B * (u + 4294967296 * (p / 4294967296 + (p % 4294967296 + c) / 4294967296 + b2)) = B * (z + p + (c + br)) := by rw [e2]
 rw [cC, cC B, cC B, ← bJ] at e3
 omega
theorem bdB {p : Nat} (hp : p ≤ 18446744065119617025) (hc : c < 4294967296) : p / 4294967296 + (p % 4294967296 + c) / 4294967296 < 4294967296 := by omega
theorem axI (hd : d < 4294967296) (hy : y < 4294967296) : d * y ≤ 18446744065119617025 := by
 have : d * y ≤ 4294967295 * 4294967295 := eE aA aA
 exact this
theorem bxO {U : Nat} (hX : 0 < X) (hU : U < (T + 1) * X) (hV : v1 * X ≤ V) (h1 : 0 < v1) : U / V ≤ T / v1 := by
 rw [dJ h1]
 have h2 : U / V * V ≤ U := eL U V
 have h3 : U / V * (v1 * X) ≤ U / V * V := bX _ hV
 have h4 : U / V * v1 * X < (T + 1) * X := by rw [bJ]; omega
 have h5 := eT h4
 omega
theorem bmC {U u2 : Nat} (hX : 0 < X) (ht : d * v1 + r = T) (hU : U < ((T * 4294967296 + u2) + 1) * X) (hV : (v1 * 4294967296 + v2) * X ≤ V) (hx : r * 4294967296 + u2 < d * v2) : U / V < d := by
 have h2 : U / V * V ≤ U := eL U V
 have h3 : U / V * ((v1 * 4294967296 + v2) * X) ≤ U / V * V := bX _ hV
 have h4 : U / V * (v1 * 4294967296 + v2) * X < ((T * 4294967296 + u2) + 1) * X := by rw [bJ]; omega
 have h5 := eT h4
 have h6 : T * 4294967296 + u2 < d * (v1 * 4294967296 + v2) := by
  rw [← ht, bS, cC, bJ]; omega
 have h7 : U / V * (v1 * 4294967296 + v2) < d * (v1 * 4294967296 + v2) := by omega
 exact eT h7
theorem bsG {U u2 : Nat} (hX : 0 < X) (hd : d < 4294967296) (hv1 : 2147483648 ≤ v1) (ht : d * v1 + r = T) (hU : (T * 4294967296 + u2) * X ≤ U) (hV : V < ((v1 * 4294967296 + v2) + 1) * X) (hV2 : (v1 * 4294967296 + v2) * X ≤ V) (hx : d * v2 ≤ r * 4294967296 + u2) : d ≤ U / V + 1 := by
 have h1 : d * (v1 * 4294967296 + v2) ≤ T * 4294967296 + u2 := by
  rw [← ht, bS, cC, bJ]; omega
 have h2 : d * (v1 * 4294967296 + v2) * X ≤ U := bE (bC _ h1) hU
 have h3 : d * V ≤ d * (((v1 * 4294967296 + v2) + 1) * X) := bX _ aA
 have h4 : d * (((v1 * 4294967296 + v2) + 1) * X) = d * (v1 * 4294967296 + v2) * X + d * X := by
  rw [bS, cC, cP, bJ]
 have h5 : d * X ≤ V := by
  have : d * X ≤ (v1 * 4294967296 + v2) * X := bC _ aA
  omega
 have hV0 : 0 < V := by
  have : 0 < (v1 * 4294967296 + v2) * X := fZ aA hX
  omega
 have h6 : d * V ≤ U + V := by omega
 have h7 : (d - 1) * V ≤ U := by rw [Nat.sub_mul, cP]; omega
 have h8 := (dJ hV0).2 h7
 omega
theorem boN {U w b2 N : Nat} (hV : 0 < V) (hw : w < N) (hd1 : U / V ≤ d) (hd2 : d ≤ U / V + 1) (hU : U < N) (h : U + N * b2 = w + d * V) (hb : b2 ≤ 1) :
  (b2 = 0 → d = U / V ∧ w = U % V) ∧ (b2 = 1 → d = U / V + 1 ∧ (w + V) % N = U % V) := by
 have e := cJ U V
 have hm := bT U hV
 rw [bL] at e
 generalize U / V = q at *
 generalize U % V = m at *
 rcases cD d (q + 1) with h1 | h1
 ·grind
 have : d = q + 1 := by omega
 subst this
 rw [bS, cP] at h
 refine ⟨fun h0 => ?_, fun h0 => ⟨rfl, ?_⟩⟩
 ·grind
 subst h0
 have : w + V = m + N := by omega
 rw [this, Nat.add_mod_right, bB aA]
section
open Go Go.RowKit
set_option maxRecDepth 100000

def boM (vs : List Nat) (tl : Tail) (b o n cp d : Nat) (zs : List Nat) (H : Heap) : Nat → Env → Heap → Prop := fun k env H1 => ∃ (i c br : Nat) (ws : List Nat), i ≤ n ∧ ws.length = n ∧ Limbs ws ∧ c < 4294967296 ∧ br ≤ 1 ∧ (∀ j, i ≤ j → ws.getD j 0 = ((zs.drop o).take n).getD j 0) ∧ val (((zs.drop o).take n).take i) + 4294967296 ^ i * (c + br) = val (ws.take i) + d * val (vs.take i) ∧ (vs.length < i → c = 0) ∧ env = [(0, .mslice (some ⟨b, o, none⟩) n cp), (1, .slice 1 (U .u32 vs) tl), (2, .int .u64 (d : Int)), (7, .int .u64 (c : Int)), (8, .int .u64 (br : Int)), (14, .int .i64 (n : Int)), (15, .int .i64 (i : Int))] ∧ H1 = H.set b (.box 166 (U .u32 (mid zs o ws))) ∧ k = n - i

theorem bdC (vs : List Nat) (tl : Tail) (hv : Limbs vs) (hl : vs.length ≤ 1000000) (b o n cp d : Nat) (hd : d < 4294967296) (hvn : vs.length < n) (zs : List Nat) (hz : Limbs zs) (hn : o + n ≤ zs.length) (hn2 : n ≤ 1000000) (H : Heap) (hb : H.objs b = some (.box 166 (U .u32 zs))) : ACall prog 341 [.mslice (some ⟨b, o, none⟩) n cp, .slice 1 (U .u32 vs) tl, .int .u64 (d : Int)] H (fun y H' => ∃ (b2 : Nat) (ws : List Nat), b2 ≤ 1 ∧ ws.length = n ∧ Limbs ws ∧ val ((zs.drop o).take n) + 4294967296 ^ n * b2 = val ws + d * val vs ∧ y = .bool (decide (0 < b2)) ∧ H' = H.set b (.box 166 (U .u32 (mid zs o ws)))) := by
 refine ACall.of_body func341 rfl ntmps341 results341 rfl ?_
 iterate 7 refine AX ?_
 iterate 2 refine AM ?_
 refine AY ?_
 refine AWP.loopW (boM vs tl b o n cp d zs H) (n) ⟨0, 0, 0, ((zs.drop o).take n), Nat.zero_le _, by simp; omega, (hz.drop _).take _, by omega, by omega, fun j _ => rfl, by simp [val], fun h => rfl, rfl, (Heap.set_self (by rw [aoU hn]; exact hb)).symm, rfl⟩ sX (hRa _) ?_
 rintro _ _ _ ⟨i, c, br, ws, hi, hw, hwl, hc, hbr, hg, hval, hc0, rfl, rfl, hk⟩
 refine AY ?_
 refine AWP.cx rfl (fun hc16 => ?_) (fun hc16 => ?_)
 ·have hy := Limbs.getD hv i
  have hdy := axI hd hy
  have hal := ayH (d * vs.getD i 0)
  have hal2 := ayH (d * vs.getD i 0 % 4294967296 + c)
  have hcc := bdB hdy hc
  have hu := Limbs.getD ((hz.drop o).take n) i
  have hml := afM (o := o) hw hn
  have hgi := hg i (aT i)
  have hgm := (beU (zs := zs) (o := o) (i := i) aA (by omega : i < ws.length)).trans hgi
  have hgz := Limbs.getD (aeD (o := o) hz hwl) (o + i)
  obtain ⟨hx1, hx2⟩ := ayV (low := (d * vs.getD i 0 % 4294967296 + c)) hu hbr
  have hst := bjT (by omega : i < ws.length) hgi hu hbr hval
  have hX : asX (((zs.drop o).take n).getD i 0) (d * vs.getD i 0 % 4294967296 + c) br < 18446744073709551616 := bT _ aC
  iterate 12 refine AX ?_
  refine AM ?_
  iterate 2 refine AX ?_
  refine AWP.seqToL [(10, .int .u64 ((d * vs.getD i 0 : Nat) : Int))] [0, 1, 2, 7, 8, 14, 15, 9] ?_ ?_
  ·refine AY ?_
   refine AWP.cx rfl (fun hc21 => ?_) (fun hc21 => ?_)
   ·refine AY ?_
    refine .p rfl (zU (i) U239 Z166 (tm rfl) (tm rfl) aA aA) ?_
    refine AY ?_
    exact ⟨rfl, (zN rfl aD sX), rfl⟩
   refine AX ?_
   exact ⟨rfl, (zN rfl (by (rw [agB aA, dG])) sX), rfl⟩
  refine AWP.sub [(10, _), (0, _), (1, _), (2, _), (7, _), (8, _), (14, _), (15, _), (9, _)] sX ?_
  refine AWP.seqToL [(11, .int .u64 (((d * vs.getD i 0 % 4294967296 + c) : Nat) : Int))] [10, 0, 1, 2, 7, 8, 14, 15, 9] ?_ ?_
  ·-- region 8
   refine AY ?_
   refine AM ?_
   refine AY ?_
   exact ⟨rfl, (zN rfl (by rw [ayH]) sX), rfl⟩
  refine AWP.sub [(11, _), (10, _), (0, _), (1, _), (2, _), (7, _), (8, _), (14, _), (15, _), (9, _)] sX ?_
  refine AWP.seqToL [(7, .int .u64 ((d * vs.getD i 0 / 4294967296 + (d * vs.getD i 0 % 4294967296 + c) / 4294967296 : Nat) : Int))] [11, 0, 1, 2, 8, 14, 15, 9] ?_ ?_
  ·-- region 9
   refine AY ?_
   refine AM ?_
   refine AX ?_
   refine AM ?_
   refine AY ?_
   exact ⟨rfl, (zN rfl aD sX), rfl⟩
  refine AWP.sub [(7, _), (11, _), (0, _), (1, _), (2, _), (8, _), (14, _), (15, _), (9, _)] sX ?_
  refine AWP.seqToL [(12, .int .u64 ((asX (((zs.drop o).take n).getD i 0) (d * vs.getD i 0 % 4294967296 + c) br : Nat) : Int))] [7, 0, 1, 2, 8, 14, 15, 9] ?_ ?_
  ·-- region 10
   refine AY ?_
   refine .p rfl (abY (i) U239 Z166 (tm rfl) (tm rfl) aA aA) (.e rfl (yY G166 (tm rfl) (oS _ _ _) aA) ?_)
   refine AY ?_
   refine AM ?_
   refine AY ?_
   exact ⟨rfl, (zN rfl (by rw [hgm, ayH]; rfl) sX), rfl⟩
  refine AWP.sub [(12, _), (7, _), (0, _), (1, _), (2, _), (8, _), (14, _), (15, _), (9, _)] sX ?_
  iterate 6 refine AX ?_
  refine AM ?_
  refine .p rfl (abY (i) U239 Z166 (tm rfl) (tm rfl) aA aA) (.e0 (yW Z166 (tm rfl) (tm rfl) (oS _ _ _) aA) ?_)
  try first | rw [sS] | rw [sU aB]
  refine AY ?_
  refine Round.mk (J := boM vs tl b o n cp d zs H) ⟨i + 1, _, _, _, by omega, by simpa using hw, Limbs.set hwl (bT _ aC), hcc, hx1, fun j hj => by rw [getD_set_ne aA]; exact hg j aA, hst, fun h => by rw [agB aA, dG]; omega, rfl, by rw [axK aA aA]; rfl, rfl⟩ sX (hRa _) aA
 iterate 8 refine AX ?_
 refine AM ?_
 refine AY ?_
 have hin : i = n := by omega
 subst hin
 rw [hc0 hvn, bZ, aX aG, aX (l := ws) aA, aX (l := vs) aA] at hval
 exact ⟨br, ws, hbr, hw, hwl, hval, by simp [yE], rfl⟩

def bsJ (vs : List Nat) (tl : Tail) (b o n cp : Nat) (zs : List Nat) (H : Heap) : Nat → Env → Heap → Prop := fun k env H1 => ∃ (i c : Nat) (ws : List Nat), i ≤ n ∧ ws.length = n ∧ Limbs ws ∧ c ≤ 1 ∧ (∀ j, i ≤ j → ws.getD j 0 = ((zs.drop o).take n).getD j 0) ∧ val (ws.take i) + 4294967296 ^ i * c = val (((zs.drop o).take n).take i) + val (vs.take i) ∧ env = [(0, .mslice (some ⟨b, o, none⟩) n cp), (1, .slice 1 (U .u32 vs) tl), (4, .int .u32 (c : Int)), (8, .int .i64 (n : Int)), (9, .int .i64 (i : Int))] ∧ H1 = H.set b (.box 166 (U .u32 (mid zs o ws))) ∧ k = n - i

theorem bfG (vs : List Nat) (tl : Tail) (hv : Limbs vs) (hl : vs.length ≤ 1000000) (b o n cp : Nat) (hvn : vs.length < n) (zs : List Nat) (hz : Limbs zs) (hn : o + n ≤ zs.length) (hn2 : n ≤ 1000000) (H : Heap) (hb : H.objs b = some (.box 166 (U .u32 zs))) : ACall prog 342 [.mslice (some ⟨b, o, none⟩) n cp, .slice 1 (U .u32 vs) tl] H (fun _ H' => ∃ (ws : List Nat), ws.length = n ∧ Limbs ws ∧ val ws = (val ((zs.drop o).take n) + val vs) % 4294967296 ^ n ∧ H' = H.set b (.box 166 (U .u32 (mid zs o ws)))) := by
 refine ACall.of_body func342 rfl ntmps342 results342 rfl ?_
 iterate 2 refine AX ?_
 refine AM ?_
 refine AY ?_
 refine AWP.loopW (bsJ vs tl b o n cp zs H) (n) ⟨0, 0, ((zs.drop o).take n), Nat.zero_le _, by simp; omega, (hz.drop _).take _, by omega, fun j _ => rfl, by simp [val], rfl, (Heap.set_self (by rw [aoU hn]; exact hb)).symm, rfl⟩ sX (hRa _) ?_
 rintro _ _ _ ⟨i, c, ws, hi, hw, hwl, hc, hg, hval, rfl, rfl, hk⟩
 refine AY ?_
 refine AWP.cx rfl (fun hc10 => ?_) (fun hc10 => ?_)
 ·have hy := Limbs.getD hv i
  have hu := Limbs.getD ((hz.drop o).take n) i
  have hml := afM (o := o) hw hn
  have hgi := hg i (aT i)
  have hgm := (beU (zs := zs) (o := o) (i := i) aA (by omega : i < ws.length)).trans hgi
  have hgz := Limbs.getD (aeD (o := o) hz hwl) (o + i)
  iterate 12 refine AX ?_
  refine AM ?_
  iterate 2 refine AX ?_
  refine AWP.seqToL [(6, .int .u32 ((vs.getD i 0 : Nat) : Int))] [0, 1, 4, 8, 9, 5] ?_ ?_
  ·refine AY ?_
   refine AWP.cx rfl (fun hc15 => ?_) (fun hc15 => ?_)
   ·refine AY ?_
    refine .p rfl (zU (i) U239 Z166 (tm rfl) (tm rfl) aA aA) ?_
    refine AY ?_
    exact ⟨rfl, (zN rfl aD sX), rfl⟩
   refine AX ?_
   exact ⟨rfl, (zN rfl (by (rw [agB aA] <;> rfl)) sX), rfl⟩
  refine AWP.sub [(6, _), (0, _), (1, _), (4, _), (8, _), (9, _), (5, _)] sX ?_
  refine AY ?_
  refine .p rfl (abY (i) U239 Z166 (tm rfl) (tm rfl) aA aA) (.e rfl (yY G166 (tm rfl) (oS _ _ _) aA) ?_)
  refine AY ?_
  refine .cl rfl call339 (evs3 rfl rfl rfl) (asU _ _ _ aB aB aA _) ?_
  refine AY ?_
  refine .p rfl (abY (i) U239 Z166 (tm rfl) (tm rfl) aA aA) (.e0 (yW Z166 (tm rfl) (tm rfl) (oS _ _ _) aA) ?_)
  try first | rw [sS] | rw [sU aB]
  refine AY ?_
  rw [hgm]
  refine Round.mk (J := bsJ vs tl b o n cp zs H) ⟨i + 1, _, _, by omega, by simpa using hw, Limbs.set hwl (bT _ aC), by omega, fun j hj => by rw [getD_set_ne aA]; exact hg j aA, bjF aA hval, rfl, by rw [axK aA aA], rfl⟩ sX (hRa _) aA
 refine AY ?_
 refine Ret.go' .nil _ (hRa _) ?_
 have hin : i = n := by omega
 subst hin
 rw [aX (l := ((zs.drop o).take i)) aG, aX (l := vs) aA] at hval
 exact ⟨ws, hw, hwl, bgR hwl hw hval, rfl⟩

end
theorem ahC {k : Nat} (h : k < zs.length) : val (zs.drop k) = zs.getD k 0 + 4294967296 * val (zs.drop (k + 1)) := by
 rw [cA h, val, aR, bA h]; rfl
theorem ccX {xs : List Nat} {o : Nat} (hl : ws.length = xs.length) (ho : o ≤ zs.length) : mid (mid zs o ws) o xs = mid zs o xs := by
 have e : (zs.take o).length = o := by rw [aS]; omega
 unfold mid
 congr 1
 ·grind
 rw [List.drop_append, dX aG, cF, fL, hl]
 congr 1
 simp; omega
theorem cbD {o : Nat} (ho : o ≤ zs.length) : val (mid zs o ws) = val (zs.take o) + 4294967296 ^ o * (val ws + 4294967296 ^ ws.length * val (zs.drop (o + ws.length))) := by
 unfold mid
 rw [aQ, qL, qL, aS, cY ho]
theorem ayT {l M : Nat} (h : l < X) : M * X ≤ l + X * M ∧ l + X * M < (M + 1) * X := by
 grind
theorem top2 (hn : 2 ≤ n) (hv : vs.length = n) (hl : Limbs vs) :
  (vs.getD (n - 1) 0 * 4294967296 + vs.getD (n - 2) 0) * 4294967296 ^ (n - 2) ≤ val vs ∧ val vs < (vs.getD (n - 1) 0 * 4294967296 + vs.getD (n - 2) 0 + 1) * 4294967296 ^ (n - 2) := by
 have h1 := afX (xs := vs) (k := n - 2) aA
 have h2 := amT hl (k := n - 2) aA
 have h3 := ahC (zs := vs) (k := n - 2) aA
 have h4 := ahC (zs := vs) (k := n - 2 + 1) aA
 rw [show n - 2 + 1 = n - 1 by omega] at *
 rw [dX (i := n - 1 + 1) aA, val] at h4
 rw [h3, h4] at h1
 generalize 4294967296 ^ (n - 2) = X at *
 generalize vs.getD (n - 1) 0 = a at *
 generalize vs.getD (n - 2) 0 = b at *
 rw [show b + 4294967296 * (a + 4294967296 * 0) = a * 4294967296 + b by omega] at h1
 rw [h1]
 exact ayT h2
theorem top3 (hn : 2 ≤ n) (hv : us.length = n + 1) (hl : Limbs us) :
  ((us.getD n 0 * 4294967296 + us.getD (n - 1) 0) * 4294967296 + us.getD (n - 2) 0) * 4294967296 ^ (n - 2) ≤ val us ∧ val us < ((us.getD n 0 * 4294967296 + us.getD (n - 1) 0) * 4294967296 + us.getD (n - 2) 0 + 1) * 4294967296 ^ (n - 2) := by
 have h1 := afX (xs := us) (k := n - 2) aA
 have h2 := amT hl (k := n - 2) aA
 have h3 := ahC (zs := us) (k := n - 2) aA
 have h4 := ahC (zs := us) (k := n - 2 + 1) aA
 have h5 := ahC (zs := us) (k := n - 2 + 1 + 1) aA
 rw [dX (i := n - 2 + 1 + 1 + 1) aA, val] at h5
 rw [h3, h4, h5] at h1
 rw [show n - 2 + 1 + 1 = n by omega, show n - 2 + 1 = n - 1 by omega] at h1
 generalize 4294967296 ^ (n - 2) = X at *
 generalize us.getD n 0 = c at *
 generalize us.getD (n - 1) 0 = a at *
 generalize us.getD (n - 2) 0 = b at *
 rw [show b + 4294967296 * (a + 4294967296 * (c + 4294967296 * 0)) = (c * 4294967296 + a) * 4294967296 + b by omega] at h1
 rw [h1]
 exact ayT h2
theorem azI (hz : Limbs zs) (hj : j + (n + 1) ≤ zs.length) (hV : V < 4294967296 ^ n) (h : val zs < V * 4294967296 ^ (j + 1)) :
  val (zs.drop (j + (n + 1))) = 0 ∧ val zs = val (zs.take j) + 4294967296 ^ j * val ((zs.drop j).take (n + 1)) := by
 have h1 := afX (xs := zs) (k := j) aA
 have h2 := afX (xs := zs.drop j) (k := n + 1) aG
 rw [fL] at h2
 have h3 : V * 4294967296 ^ (j + 1) ≤ 4294967296 ^ j * 4294967296 ^ (n + 1) := by
  rw [bR, bR, bL V, bJ, bL 4294967296 V]
  exact bX _ (bC _ (dS hV))
 have h0 : val (zs.drop (j + (n + 1))) = 0 := by
  rcases bF (val (zs.drop (j + (n + 1)))) with h4 | h4
  ·exact h4
  exfalso
  have h5 : 4294967296 ^ (n + 1) * 1 ≤ 4294967296 ^ (n + 1) * val (zs.drop (j + (n + 1))) := bX _ h4
  have h6 : 4294967296 ^ j * 4294967296 ^ (n + 1) ≤ 4294967296 ^ j * val (zs.drop j) := bX _ aA
  omega
 rw [h0, dG, cI] at h2
 exact ⟨h0, by rw [h1, h2]⟩
theorem brM (hz : Limbs zs) (hj : j + (n + 1) ≤ zs.length) (hV : V < 4294967296 ^ n) (h0 : 0 < V) (h : val zs < V * 4294967296 ^ (j + 1)) (hw : ws.length = n + 1) (hv : val ws = val ((zs.drop j).take (n + 1)) % V)
  (hq : j < qs.length) (hA : A = val (qs.drop (j + 1)) * V * 4294967296 ^ (j + 1) + val zs) :
  val (mid zs j ws) < V * 4294967296 ^ j ∧ A = val ((qs.set j (val ((zs.drop j).take (n + 1)) / V)).drop j) * V * 4294967296 ^ j + val (mid zs j ws) := by
 obtain ⟨hr, he⟩ := azI hz hj hV h
 have ht := amT hz (k := j) aA
 rw [cbD aA, hw, hr, dG, cI, hv]
 have hq2 : val ((qs.set j (val ((zs.drop j).take (n + 1)) / V)).drop j) = val ((zs.drop j).take (n + 1)) / V + 4294967296 * val (qs.drop (j + 1)) := by
  rw [ahC (by simpa using hq), axQ hq, List.drop_set_of_lt aA]
 rw [hq2]
 generalize val ((zs.drop j).take (n + 1)) = U at *
 have hm := bT U h0
 have hd := cJ U V
 constructor
 ·have : 4294967296 ^ j * (U % V + 1) ≤ 4294967296 ^ j * V := bX _ hm
  rw [cC, fH] at this
  rw [bL V]
  omega
 grind
theorem bwC (hz : Limbs zs) (hj : j + (n + 1) ≤ zs.length) (hV : V < 4294967296 ^ n) (h : val zs < V * 4294967296 ^ (j + 1)) : val ((zs.drop j).take (n + 1)) < V * 4294967296 := by
 obtain ⟨_, he⟩ := azI hz hj hV h
 have : 4294967296 ^ j * val ((zs.drop j).take (n + 1)) < 4294967296 ^ j * (V * 4294967296) := by
  rw [bR, ← bJ, bL V, bJ] at h
  omega
 exact Nat.lt_of_mul_lt_mul_left this
section
open Go Go.RowKit
set_option maxRecDepth 100000

def avQ (A V j : Nat) (zs qs : List Nat) : Prop := val zs < V * 4294967296 ^ j ∧ A = val (qs.drop j) * V * 4294967296 ^ j + val zs
def buG (vs : List Nat) (n : Nat) : Prop := 2147483648 * 4294967296 ^ (n - 1) ≤ val vs ∧ val vs < 4294967296 ^ n
theorem amY (h : x < 4294967296) : x * 2 ^ 32 < 18446744073709551616 := by
 rw [show (2 : Nat) ^ 32 = 4294967296 by decide]; omega
theorem cgO (h : d * v + r = T) (hT : T < 18446744073709551616) (hv : 0 < v) : d < 18446744073709551616 := by
 have : d * 1 ≤ d * v := bX _ hv
 omega
theorem ccB (h : r < 4294967296) (k : v < 4294967296) : r + v < 18446744073709551616 := by omega
theorem cfV (h : x < 4294967296) (k : y < 4294967296) : x * 2 ^ 32 ||| y < 18446744073709551616 := by
 rw [aiS (k := 32) (cZ k aC), show (2 : Nat) ^ 32 = 4294967296 by decide]; omega
theorem big32 (h : x < 4294967296) : x < 18446744073709551616 := by omega
theorem cbI (h : x < 4294967296) (k : y < 4294967296) : x * 4294967296 + y < 18446744073709551616 := by omega
theorem ccU {s : Nat} (hy : 0 < y) (hn : (zE y).length = n) (hs : 32 - yG ((zE y).getD (n - 1) 0) = s) : s < 32 ∧ 2147483648 * 4294967296 ^ (n - 1) ≤ y * 2 ^ s ∧ y * 2 ^ s < 4294967296 ^ n := by
 have h1 := ajT hy
 rw [hn] at h1
 have h2 : 0 < yG y := by rw [byN hy]; omega
 have h3 := (yP (n := (zE y).getD (n - 1) 0) (k := 32)).2 (Limbs.getD (zF y) _)
 have hn0 : 0 < n := by rw [← hn, qJ hy]; simp
 have h4 : y < 2 ^ yG y := yP.1 (aT _)
 have h5 : 2 ^ (yG y - 1) ≤ y := by
  rcases cD y (2 ^ (yG y - 1)) with h | h
  ·have := yP.2 h; omega
  exact h
 have h6 : 0 < yG ((zE y).getD (n - 1) 0) := by
  rcases bF (yG ((zE y).getD (n - 1) 0)) with h | h
  ·exfalso
   have h7 := yP.1 (Nat.le_of_eq h)
   have h8 : (zE y).getD (n - 1) 0 = 0 := by simpa using h7
   have h9 := acD (xs := zE y) (k := n - 1) aA
   rw [aN h8, aX aA, ahQ, hn] at h9
   have h10 := aaO ((zE y).take (n - 1))
   rw [← h9, aS] at h10
   omega
  exact h
 have e1 : (4294967296 : Nat) ^ n = 2 ^ (yG y + s) := by rw [show (4294967296 : Nat) = 2 ^ 32 by decide, ← dW]; congr 1; omega
 have e2 : 2147483648 * 4294967296 ^ (n - 1) = 2 ^ (yG y - 1 + s) := by rw [show (4294967296 : Nat) = 2 ^ 32 by decide, show (2147483648 : Nat) = 2 ^ 31 by decide, ← dW, ← bI]; congr 1; omega
 refine ⟨by omega, ?_, ?_⟩
 ·rw [e2, bI]; exact bC _ h5
 rw [e1, bI]; exact Nat.mul_lt_mul_of_pos_right h4 (bN aC)
theorem blQ {s m la : Nat} (hx : x < 4294967296 ^ la) (hs : s < 32) (hm : la = n + m) (hn : 0 < n) (hV : 2147483648 * 4294967296 ^ (n - 1) ≤ y * 2 ^ s) : x * 2 ^ s < y * 2 ^ s * 4294967296 ^ (m + 1) ∧ x * 2 ^ s < 4294967296 ^ (la + 1) := by
 have h1 : 2 ^ s ≤ 2 ^ 31 := aZ aC aA
 have h2 : x * 2 ^ s < 4294967296 ^ la * 2147483648 := Nat.mul_lt_mul_of_lt_of_le hx h1 aC
 constructor
 ·have h3 : 4294967296 ^ la * 2147483648 ≤ y * 2 ^ s * 4294967296 ^ (m + 1) := by
   rw [show 4294967296 ^ la = 4294967296 ^ (n - 1) * 4294967296 ^ (m + 1) by rw [← bI]; congr 1; omega, Nat.mul_right_comm]
   exact bC _ (by rw [bL]; exact hV)
  exact bQ h2 h3
 rw [bR]
 exact bQ h2 (bX _ aC)
theorem bxF (h : y ≤ x) : (zE y).length ≤ (zE x).length := qO.2 (aV h (qO.1 (aT _)))
theorem bwZ {s Q R : Nat} (hV : V = y * 2 ^ s) (hlt : R < V) (hA : x * 2 ^ s = Q * V + R) : Q = x / y ∧ R = x % y * 2 ^ s := by
 have h1 : x * 2 ^ s / V = Q := by rw [hA, bL, gD aA, cB hlt, cI]
 have h2 : x * 2 ^ s % V = R := by rw [hA, bL, gC, bB hlt]
 rw [hV, eW _ _ (bN aC)] at h1
 rw [hV, fO] at h2
 exact ⟨h1.symm, h2.symm⟩
theorem Heap.fresh_inv {H : Heap} {b : Nat} {x : AObj} (h : (H.set b x).objs c = none) : H.objs c = none := by
 rwa [oN _ _ (Ne.symm (Heap.fresh_ne h))] at h
theorem boO {rs A : List Nat} {i : Nat} (hi : i < rs.length) (hA : i < A.length) (h : rs.take i = A.take i) (hv : v = A.getD i 0) : (rs.set i v).take (i + 1) = A.take (i + 1) := by
 subst hv
 have h1 : i < (rs.set i (A.getD i 0)).length := by simpa using hi
 rw [← cS h1, ← cS hA, List.take_set_of_le (aT _), h, List.getElem_set_self, aR, bA hA]; rfl
theorem bmU {U u2 : Nat} (hU1 : (T * 4294967296 + u2) * X ≤ U) (hU2 : U < (T * 4294967296 + u2 + 1) * X) (hV1 : (v1 * 4294967296 + v2) * X ≤ V) (hV2 : V < (v1 * 4294967296 + v2 + 1) * X) (hpl : U < V * 4294967296)
  (hu2 : u2 < 4294967296) (hv2 : v2 < 4294967296) (hV : 2147483648 * (4294967296 * X) ≤ V) (hX : 0 < X) :
  2147483648 ≤ v1 ∧ T < (v1 + 1) * 4294967296 ∧ 0 < V ∧ U / V < 4294967296 ∧ U / V ≤ T / v1 ∧ (∀ d r, d * v1 + r = T → r * 4294967296 + u2 < d * v2 → U / V < d) ∧ (∀ d r, d < 4294967296 → d * v1 + r = T → d * v2 ≤ r * 4294967296 + u2 → d ≤ U / V + 1) := by
 have hv1 : 2147483648 ≤ v1 := by
  have h1 : 2147483648 * 4294967296 * X < (v1 * 4294967296 + v2 + 1) * X := by rw [bJ]; omega
  have h2 := eT h1
  omega
 have hV0 : 0 < V := by
  have : 0 < (v1 * 4294967296 + v2) * X := fZ aA hX
  omega
 refine ⟨hv1, ?_, hV0, ?_, ?_, ?_, ?_⟩
 ·have h1 : (T * 4294967296 + u2) * X < ((v1 * 4294967296 + v2 + 1) * 4294967296) * X := by
   rw [Nat.mul_right_comm _ 4294967296 X]
   omega
  have h2 := eT h1
  omega
 ·rw [bO hV0, bL]; exact hpl
 ·refine bxO (X := 4294967296 * X) aA ?_ ?_ aA
  ·have h1 : (T * 4294967296 + u2 + 1) * X ≤ ((T + 1) * 4294967296) * X := bC _ aA
   rw [bJ (T + 1)] at h1
   omega
  have h1 : (v1 * 4294967296) * X ≤ (v1 * 4294967296 + v2) * X := bC _ aA
  rw [bJ v1] at h1
  omega
 ·intro d r hdr hx
  exact bmC hX hdr hU2 hV1 hx
 intro d r hd hdr hx
 exact bsG hX hd hv1 hdr hU1 hV2 hV1 hx
theorem bfO (hn : 2 ≤ n) (hz : Limbs zs) (hj : j + (n + 1) ≤ zs.length) (hvl : vs.length = n) (hv : Limbs vs) (hN : buG vs n) (hO : avQ A (val vs) (j + 1) zs qs) :
  2147483648 ≤ vs.getD (n - 1) 0 ∧ zs.getD (j + n) 0 * 4294967296 + zs.getD (j + (n - 1)) 0 < (vs.getD (n - 1) 0 + 1) * 4294967296 ∧ 0 < val vs ∧ val ((zs.drop j).take (n + 1)) / val vs < 4294967296 ∧
  val ((zs.drop j).take (n + 1)) / val vs ≤ (zs.getD (j + n) 0 * 4294967296 + zs.getD (j + (n - 1)) 0) / vs.getD (n - 1) 0 ∧
  (∀ d r, d * vs.getD (n - 1) 0 + r = zs.getD (j + n) 0 * 4294967296 + zs.getD (j + (n - 1)) 0 → r * 4294967296 + zs.getD (j + (n - 2)) 0 < d * vs.getD (n - 2) 0 → val ((zs.drop j).take (n + 1)) / val vs < d) ∧
  (∀ d r, d < 4294967296 → d * vs.getD (n - 1) 0 + r = zs.getD (j + n) 0 * 4294967296 + zs.getD (j + (n - 1)) 0 → d * vs.getD (n - 2) 0 ≤ r * 4294967296 + zs.getD (j + (n - 2)) 0 → d ≤ val ((zs.drop j).take (n + 1)) / val vs + 1) := by
 obtain ⟨hV, hVn⟩ := hN
 obtain ⟨h, _⟩ := hO
 have hPl : ((zs.drop j).take (n + 1)).length = n + 1 := by simp; omega
 have hPL : Limbs ((zs.drop j).take (n + 1)) := (hz.drop _).take _
 obtain ⟨hU1, hU2⟩ := top3 hn hPl hPL
 obtain ⟨hV1, hV2⟩ := top2 hn hvl hv
 rw [agZ aA, agZ aA, agZ aA] at hU1 hU2
 have hpl := bwC (j := j) hz hj hVn h
 have hu2 := Limbs.getD hz (j + (n - 2))
 have hv2 := Limbs.getD hv (n - 2)
 have hXe : 4294967296 ^ (n - 1) = 4294967296 * 4294967296 ^ (n - 2) := by rw [← Nat.pow_succ', show (n - 2).succ = n - 1 by omega]
 have hX : 0 < 4294967296 ^ (n - 2) := bN aC
 rw [hXe] at hV
 exact bmU hU1 hU2 hV1 hV2 hpl hu2 hv2 hV hX
theorem bgH {b2 : Nat} (hz : Limbs zs) (hj : j + (n + 1) ≤ zs.length) (hV : 0 < V) (hw : ws.length = n + 1) (hwL : Limbs ws) (hd1 : val ((zs.drop j).take (n + 1)) / V ≤ d) (hd2 : d ≤ val ((zs.drop j).take (n + 1)) / V + 1) (h : val ((zs.drop j).take (n + 1)) + 4294967296 ^ (n + 1) * b2 = val ws + d * V) (hb : b2 ≤ 1) :
  (b2 = 0 → d = val ((zs.drop j).take (n + 1)) / V ∧ val ws = val ((zs.drop j).take (n + 1)) % V) ∧ (b2 = 1 → d = val ((zs.drop j).take (n + 1)) / V + 1 ∧ (val ws + V) % 4294967296 ^ (n + 1) = val ((zs.drop j).take (n + 1)) % V) := by
 have hPl : ((zs.drop j).take (n + 1)).length = n + 1 := by simp; omega
 have hPL : Limbs ((zs.drop j).take (n + 1)) := (hz.drop _).take _
 have hU3 := afW hPL
 have hwlt := afW hwL
 rw [hPl] at hU3
 rw [hw] at hwlt
 exact boN hV hwlt hd1 hd2 hU3 h hb
theorem blR (hz : Limbs zs) (hj : j + (n + 1) ≤ zs.length) (hN : buG vs n) (h0 : 0 < val vs) (hO : avQ A (val vs) (j + 1) zs qs) (hw : ws.length = n + 1) (hv : val ws = val ((zs.drop j).take (n + 1)) % val vs) (hq : j < qs.length) :
  avQ A (val vs) j (mid zs j ws) (qs.set j (val ((zs.drop j).take (n + 1)) / val vs)) := brM hz hj hN.2 h0 hO.1 hw hv hq hO.2
theorem brO {s : Nat} (hV : val vs = y * 2 ^ s) (hO : avQ (x * 2 ^ s) (val vs) 0 zs qs) : val zs < val vs ∧ val qs = x / y ∧ val zs = x % y * 2 ^ s := by
 obtain ⟨h1, h2⟩ := hO
 rw [dN, fH] at h1
 rw [dN, fH, cT] at h2
 obtain ⟨h3, h4⟩ := bwZ hV h1 h2
 exact ⟨h1, h3, h4⟩
theorem blT {s m la : Nat} (hx : (zE x).length = la) (hy : 0 < y) (hs : s < 32) (hm : la = n + m) (hn : 0 < n) (h2 : 2147483648 * 4294967296 ^ (n - 1) ≤ y * 2 ^ s) (h3 : y * 2 ^ s < 4294967296 ^ n) (hv : val vs = val (zE y) * 2 ^ s % 4294967296 ^ n) (hu : val us = val (zE x) * 2 ^ s % 4294967296 ^ (la + 1)) :
  val vs = y * 2 ^ s ∧ buG vs n ∧ avQ (x * 2 ^ s) (val vs) (m + 1) us (List.replicate (m + 1) 0) := by
 obtain ⟨hst1, hst2⟩ := blQ (qO.1 (Nat.le_of_eq hx)) hs hm hn h2
 have hV : val vs = y * 2 ^ s := by rw [hv, zL, bB h3]
 have hU : val us = x * 2 ^ s := by rw [hu, zL, bB hst2]
 refine ⟨hV, ⟨by rw [hV]; exact h2, by rw [hV]; exact h3⟩, by rw [hU, hV]; exact hst1, ?_⟩
 rw [dX aF, val, dQ, dQ, bZ, hU]
theorem byK (ht : d * v1 + r = T) (hT : T < (v1 + 1) * 4294967296) (hr : r < 4294967296) (hb : 4294967296 ≤ r + v1) (hd : 0 < d) (hv : 0 < v1) : d - 1 < 4294967296 := by
 rcases cD (d - 1) 4294967296 with h | h
 ·exact h
 exfalso
 have h1 : (4294967296 + 1) * v1 ≤ d * v1 := bC _ aA
 rw [bS] at h1 hT
 omega
theorem ceD (hd : 0 < d) (h : d * v1 + r = T) : (d - 1) * v1 + (r + v1) = T := by
 obtain ⟨e, rfl⟩ : ∃ e, d = e + 1 := ⟨d - 1, by omega⟩
 rw [bS] at h
 rw [fN]; omega
theorem bvG {s : Nat} (hz : Limbs zs) (hs : s < 32) (hn : n ≤ zs.length) (hV : V < 4294967296 ^ n) (h : val zs < V) : val ((awC s zs).take n) = val zs / 2 ^ s := by
 have h1 := afX (xs := awC s zs) (k := n) (by rw [aoQ]; exact hn)
 rw [awB aA hz] at h1
 have h2 : val zs / 2 ^ s ≤ val zs := dF _ _
 have h3 : val ((awC s zs).drop n) = 0 := by
  rcases bF (val ((awC s zs).drop n)) with h | h
  ·exact h
  have : 4294967296 ^ n * 1 ≤ 4294967296 ^ n * val ((awC s zs).drop n) := bX _ h
  omega
 rw [h3] at h1
 omega

def caM (s n m b38 b49 : Nat) (vs : List Nat) (A : Nat) (H : Heap) : Nat → Env → Heap → Prop := fun k env H1 => ∃ (i : Nat) (zs qs : List Nat), i ≤ m + 1 ∧ zs.length = n + m + 1 ∧ Limbs zs ∧ qs.length = m + 1 ∧ Limbs qs ∧ avQ A (val vs) (m + 1 - i) zs qs ∧ env = [(6, .int .i64 (s : Int)), (7, .int .i64 (n : Int)), (8, .int .i64 (m : Int)), (9, .slice 1 (U .u32 vs) .shared), (10, .mslice (some ⟨b38, 0, none⟩) (n + m + 1) (n + m + 1)), (11, .mslice (some ⟨b49, 0, none⟩) (m + 1) (m + 1)), (51, .int .i64 ((m : Int) + 1)), (52, .int .i64 (i : Int))] ∧ H1 = (H.set b38 (.box 166 (U .u32 zs))).set b49 (.box 166 (U .u32 qs)) ∧ k = m + 1 - i

def brQ (s n m b38 b49 i T : Nat) (vs zs qs : List Nat) (H : Heap) : Nat → Env → Heap → Prop := fun k env H1 => ∃ (d r : Nat), d * vs.getD (n - 1) 0 + r = T ∧ r < 4294967296 ∧ (val ((zs.drop (m - i)).take (n + 1)) / val vs) ≤ d ∧ env = [(15, .int .u64 (d : Int)), (16, .int .u64 (r : Int)), (13, .int .i64 ((m - i : Nat) : Int)), (6, .int .i64 (s : Int)), (7, .int .i64 (n : Int)), (8, .int .i64 (m : Int)), (9, .slice 1 (U .u32 vs) .shared), (10, .mslice (some ⟨b38, 0, none⟩) (n + m + 1) (n + m + 1)), (11, .mslice (some ⟨b49, 0, none⟩) (m + 1) (m + 1)), (51, .int .i64 ((m : Int) + 1)), (52, .int .i64 (i : Int))] ∧ H1 = (H.set b38 (.box 166 (U .u32 zs))).set b49 (.box 166 (U .u32 qs)) ∧ k = d

def beZ (s n m b38 b49 i : Nat) (vs zs qs : List Nat) (H : Heap) : Env → Heap → Prop := fun env H1 => ∃ d : Nat, d < 4294967296 ∧ (val ((zs.drop (m - i)).take (n + 1)) / val vs) ≤ d ∧ d ≤ (val ((zs.drop (m - i)).take (n + 1)) / val vs) + 1 ∧ env = [(15, .int .u64 (d : Int)), (13, .int .i64 ((m - i : Nat) : Int)), (6, .int .i64 (s : Int)), (7, .int .i64 (n : Int)), (8, .int .i64 (m : Int)), (9, .slice 1 (U .u32 vs) .shared), (10, .mslice (some ⟨b38, 0, none⟩) (n + m + 1) (n + m + 1)), (11, .mslice (some ⟨b49, 0, none⟩) (m + 1) (m + 1)), (51, .int .i64 ((m : Int) + 1)), (52, .int .i64 (i : Int))] ∧ H1 = (H.set b38 (.box 166 (U .u32 zs))).set b49 (.box 166 (U .u32 qs))
def beY (s n m b38 b49 i : Nat) (vs zs qs : List Nat) (H : Heap) : Env → Heap → Prop := fun env H1 => ∃ ws : List Nat, ws.length = n + 1 ∧ Limbs ws ∧ val ws = val ((zs.drop (m - i)).take (n + 1)) % val vs ∧ env = [(15, .int .u64 (((val ((zs.drop (m - i)).take (n + 1)) / val vs) : Nat) : Int)), (13, .int .i64 ((m - i : Nat) : Int)), (6, .int .i64 (s : Int)), (7, .int .i64 (n : Int)), (8, .int .i64 (m : Int)), (9, .slice 1 (U .u32 vs) .shared), (10, .mslice (some ⟨b38, 0, none⟩) (n + m + 1) (n + m + 1)), (11, .mslice (some ⟨b49, 0, none⟩) (m + 1) (m + 1)), (51, .int .i64 ((m : Int) + 1)), (52, .int .i64 (i : Int))] ∧ H1 = (H.set b38 (.box 166 (U .u32 (mid zs (m - i) ws)))).set b49 (.box 166 (U .u32 qs))

def brP (n s b157 : Nat) (zs : List Nat) (e : Env) (H : Heap) : Nat → Env → Heap → Prop := fun k env H1 => ∃ (i : Nat) (rs : List Nat), i ≤ n ∧ rs.length = n ∧ Limbs rs ∧ rs.take i = (awC s zs).take i ∧ env = [(6, .int .i64 (s : Int)), (10, .slice 1 (U .u32 zs) .shared), (17, .mslice (some ⟨b157, 0, none⟩) n n), (158, .int .i64 (n : Int)), (159, .int .i64 (i : Int))] ++ e ∧ H1 = H.set b157 (.box 166 (U .u32 rs)) ∧ k = n - i

set_option maxHeartbeats 4000000 in
theorem blS (x y : Nat) (hy : 2 ≤ (zE y).length) (hxy : y ≤ x) (hx : x < BIG) (H : Heap) : ACall prog 318 [aaN x, aaN y] H (fun z H' => z = .tuple [aaN (x / y), aaN (x % y)] ∧ H' = H) := by
 have hy256 := yK (n := y) aA
 have hx256 := yK hx
 have hxl := bxF hxy
 have hy0 : 0 < y := by
  rcases bF y with h | h
  ·rw [h, aaR] at hy; simp at hy
  exact h
 refine ACall.of_body func318 rfl ntmps318 results318 rfl ?_
 iterate 2 refine AX ?_
 iterate 2 refine AM ?_
 refine AY ?_
 refine .p rfl (zU ((zE y).length - 1) U239 Z166 (tm rfl) (tm rfl) aA aA) ?_
 refine AX ?_
 refine .cl rfl call340 (evs1 rfl) (bnR _ (Limbs.getD (zF _) _) _) ?_
 iterate 3 refine AX ?_
 refine AWP.seqToL [(7, .int .i64 (((zE y).length : Nat) : Int)), (8, .int .i64 (((zE x).length - (zE y).length : Nat) : Int))] [0, 1, 4, 5, 6] ?_ ?_
 ·-- region 2
  refine AY ?_
  exact ⟨rfl, (zN rfl aD (zN rfl (by (congr 1; omega)) sX)), rfl⟩
 refine AWP.sub [(7, _), (8, _), (0, _), (1, _), (4, _), (5, _), (6, _)] sX ?_
 generalize hs : 32 - yG ((zE y).getD ((zE y).length - 1) 0) = s
 obtain ⟨hs1, hs2, hs3⟩ := ccU hy0 rfl hs
 generalize hn : (zE y).length = n at *
 generalize hmm : (zE x).length - n = m at *
 have hla : (zE x).length = n + m := by omega
 refine AWP.meet (fun env H1 => ∃ b34 b38 : Nat, b34 ≠ b38 ∧ H.objs b34 = none ∧ H.objs b38 = none ∧ env = [(0, aaN x), (1, aaN y), (6, .int .i64 (s : Int)), (7, .int .i64 (n : Int)), (8, .int .i64 (m : Int)), (9, .mslice (some ⟨b34, 0, none⟩) n n), (10, .mslice (some ⟨b38, 0, none⟩) (n + m + 1) (n + m + 1))] ∧ H1 = (H.set b34 (.box 166 (U .u32 (List.replicate n 0)))).set b38 (.box 166 (U .u32 (List.replicate (n + m + 1) 0)))) ?_ ?_
 ·-- region 3
  refine AWP.draw2 [(0, true), (2, true), (3, true), (4, true)] 1 5 [(6, true), (5, false), (7, true)] [(1, false), (6, true), (7, true)] rfl aE ?_
  refine AY ?_
  refine ⟨?_, ?_⟩
  ·refine XTwo.s rfl rfl (yL (n) U239 typeInfo166 Z166 V166 (tm rfl) (tm rfl) aA aA aC aA) ?_
   rintro _ _ ⟨b34, rfl, hb34, hH⟩
   obtain rfl := hH.symm
   refine AX ?_
   refine .s rfl rfl (yL (n + m + 1) U239 typeInfo166 Z166 V166 (tm rfl) (tm rfl) aA aA aC aA) ?_
   rintro _ _ ⟨b38, rfl, hb38, hH⟩
   obtain rfl := hH.symm
   refine AY ?_
   refine Meets.mk (M := fun env H1 => ∃ b34 b38 : Nat, b34 ≠ b38 ∧ H.objs b34 = none ∧ H.objs b38 = none ∧ env = [(0, aaN x), (1, aaN y), (6, .int .i64 (s : Int)), (7, .int .i64 (n : Int)), (8, .int .i64 (m : Int)), (9, .mslice (some ⟨b34, 0, none⟩) n n), (10, .mslice (some ⟨b38, 0, none⟩) (n + m + 1) (n + m + 1))] ∧ H1 = (H.set b34 (.box 166 (U .u32 (List.replicate n 0)))).set b38 (.box 166 (U .u32 (List.replicate (n + m + 1) 0)))) ⟨b34, b38, Heap.fresh_ne hb38, hb34, Heap.fresh_inv hb38, rfl, rfl⟩ sX (hRa _)
  refine XTwo.s rfl rfl (yL (n + m + 1) U239 typeInfo166 Z166 V166 (tm rfl) (tm rfl) aA aA aC aA) ?_
  rintro _ _ ⟨b38, rfl, hb38, hH⟩
  obtain rfl := hH.symm
  refine .s rfl rfl (yL (n) U239 typeInfo166 Z166 V166 (tm rfl) (tm rfl) aA aA aC aA) ?_
  rintro _ _ ⟨b34, rfl, hb34, hH⟩
  obtain rfl := hH.symm
  refine AY ?_
  refine Meets.mk (M := fun env H1 => ∃ b34 b38 : Nat, b34 ≠ b38 ∧ H.objs b34 = none ∧ H.objs b38 = none ∧ env = [(0, aaN x), (1, aaN y), (6, .int .i64 (s : Int)), (7, .int .i64 (n : Int)), (8, .int .i64 (m : Int)), (9, .mslice (some ⟨b34, 0, none⟩) n n), (10, .mslice (some ⟨b38, 0, none⟩) (n + m + 1) (n + m + 1))] ∧ H1 = (H.set b34 (.box 166 (U .u32 (List.replicate n 0)))).set b38 (.box 166 (U .u32 (List.replicate (n + m + 1) 0)))) ⟨b34, b38, (Heap.fresh_ne hb34).symm, Heap.fresh_inv hb34, hb38, rfl, Heap.set_comm (Heap.fresh_ne hb34) _ _⟩ sX (hRa _)
 rintro _ _ ⟨b34, b38, hne, hb34, hb38, rfl, rfl⟩
 refine AY ?_
 refine .s rfl (zB call315 (evs3 rfl rfl rfl) (akM (zE y) .shared (zF _) aA b34 0 n n s (List.replicate n 0) (Limbs.rep aA) aF aA aA _ ((oN _ _ hne).trans (oS _ _ _)))) ?_
 rintro _ _ ⟨vs, hvl, hvL, hvv, hH⟩
 obtain rfl := hH.symm
 rw [arI (by simpa using hvl), Heap.set_swap hne]
 iterate 3 refine AX ?_
 refine AWP.frzU (t := 9) rfl ((oN _ _ hne).trans hb34) aA (aT _) (by simp only [zK]; omega) ?_
 rw [aX (l := vs) aA]
 refine AY ?_
 refine .s rfl (zB call315 (evs3 rfl rfl rfl) (akM (zE x) .shared (zF _) aA b38 0 (n + m + 1) (n + m + 1) s (List.replicate (n + m + 1) 0) (Limbs.rep aA) aF aA aA _ (oS _ _ _))) ?_
 rintro _ _ ⟨us, hul, huL, huv, hH⟩
 obtain rfl := hH.symm
 rw [arI (by simpa using hul), sS]
 refine AY ?_
 refine .s rfl (yL (m + 1) U239 typeInfo166 Z166 V166 (tm rfl) (tm rfl) aA aA aC aA) ?_
 rintro _ _ ⟨b49, rfl, hb49, hH⟩
 obtain rfl := hH.symm
 iterate 5 refine AX ?_
 have hne2 : b38 ≠ b49 := Heap.fresh_ne hb49
 have hb49n : H.objs b49 = none := Heap.fresh_inv hb49
 obtain ⟨hV, hNV, hO0⟩ := blT (m := m) hla hy0 hs1 rfl aA hs2 hs3 hvv huv
 clear hs2 hs3 hvv huv
 have hvv1 := Limbs.getD hvL (n - 1)
 have hvv2 := Limbs.getD hvL (n - 2)
 refine AY ?_
 refine AWP.loopW (caM s n m b38 b49 vs (x * 2 ^ s) H) (m + 1) ⟨0, us, List.replicate (m + 1) 0, Nat.zero_le _, hul, huL, by simp, Limbs.rep aA, hO0, rfl, rfl, rfl⟩ sX (hRa _) ?_
 rintro _ _ _ ⟨i, zs, qs, hi, hzl, hzL, hql, hqL, hO, rfl, rfl, hk⟩
 refine AY ?_
 refine AWP.cx rfl (fun hc53 => ?_) (fun hc53 => ?_)
 ·have hji : m + 1 - i = m - i + 1 := by omega
  rw [hji] at hO
  have hjn : m - i + n + 1 - (m - i) = n + 1 := by omega
  obtain ⟨hD1, hD2, hVpos, hD4, hD5, hD6, hD7⟩ := bfO (j := m - i) hy hzL aA hvl hvL hNV hO
  have hu0 := Limbs.getD hzL (m - i + n)
  have hu1 := Limbs.getD hzL (m - i + (n - 1))
  have hu2 := Limbs.getD hzL (m - i + (n - 2))
  have hu0s := amY hu0
  have hu1s := big32 hu1
  have hu2s := big32 hu2
  have htop := cbI hu0 hu1
  have hD0 := bQ (by decide : 0 < 2147483648) hD1
  have hqm : (val ((zs.drop (m - i)).take (n + 1)) / val vs) % 2 ^ IntKind.u32.bits = (val ((zs.drop (m - i)).take (n + 1)) / val vs) := bB hD4
  iterate 10 refine AX ?_
  refine AWP.seqToL [(13, .int .i64 ((m - i : Nat) : Int))] [6, 7, 8, 9, 10, 11, 51, 52] ?_ ?_
  ·-- region 10
   refine AY ?_
   exact ⟨rfl, (zN rfl (by congr 1; omega) sX), rfl⟩
  refine AWP.sub [(13, _), (6, _), (7, _), (8, _), (9, _), (10, _), (11, _), (51, _), (52, _)] sX ?_
  refine AWP.seqToL [(14, .int .u64 (((zs.getD (m - i + n) 0 * 4294967296 + zs.getD (m - i + (n - 1)) 0) : Nat) : Int))] [13, 6, 7, 8, 9, 10, 11, 51, 52] ?_ ?_
  ·-- region 11
   refine AWP.draw2 [(0, true), (1, true), (2, true), (3, true), (4, true), (8, true), (9, true), (10, true), (11, true), (12, true), (13, true)] 5 14 [(6, true), (7, true), (14, false), (15, true), (16, true), (17, true)] [(15, true), (5, false), (6, true), (7, true), (16, true), (17, true)] rfl aE ?_
   refine AY ?_
   refine .p rfl rfl (yI (m - i + n) U239 Z166 (tm rfl) (tm rfl) aA aA) ?_
   refine AY ?_
   refine .p rfl rfl (yI (m - i + (n - 1)) U239 Z166 (tm rfl) (tm rfl) aA aA) ?_
   refine AX ?_
   refine ⟨?_, ?_⟩
   ·refine XTwo.s rfl rfl (yY G166 (tm rfl) ((oN _ _ aB).trans (oS _ _ _)) aA) ?_
    rintro _ _ ⟨rfl, hH⟩
    obtain rfl := hH.symm
    refine AX ?_
    refine .p rfl rfl (qA (tm rfl) (zI 32) aA (by exact hu0s)) (.s rfl rfl (yY G166 (tm rfl) ((oN _ _ aB).trans (oS _ _ _)) aA) ?_)
    rintro _ _ ⟨rfl, hH⟩
    obtain rfl := hH.symm
    refine .p rfl rfl (qX U166 U22 (tm rfl) (wrapN64 aB)) (.p rfl rfl (abD (tm rfl) (tm rfl) (hu0s) (hu1s)) ?_)
    refine AY ?_
    exact ⟨rfl, (zN rfl (by rw [aiS (k := 32) (cZ hu1 aC)]) sX), rfl⟩
   refine XTwo.s rfl rfl (yY G166 (tm rfl) ((oN _ _ aB).trans (oS _ _ _)) aA) ?_
   rintro _ _ ⟨rfl, hH⟩
   obtain rfl := hH.symm
   refine .p rfl rfl (qX U166 U22 (tm rfl) (wrapN64 aB)) (.s rfl rfl (yY G166 (tm rfl) ((oN _ _ aB).trans (oS _ _ _)) aA) ?_)
   rintro _ _ ⟨rfl, hH⟩
   obtain rfl := hH.symm
   refine AX ?_
   refine .p rfl rfl (qA (tm rfl) (zI 32) aA (by exact hu0s)) (.p rfl rfl (abD (tm rfl) (tm rfl) (hu0s) (hu1s)) ?_)
   refine AY ?_
   exact ⟨rfl, (zN rfl (by rw [aiS (k := 32) (cZ hu1 aC)]) sX), rfl⟩
  refine AWP.sub [(14, _), (13, _), (6, _), (7, _), (8, _), (9, _), (10, _), (11, _), (51, _), (52, _)] sX ?_
  refine AX ?_
  refine AWP.draw [(0, true), (1, true), (2, true), (3, true), (4, true), (5, true), (6, true), (7, true), (8, true), (9, true), (10, true), (11, true), (12, true), (13, true), (14, true), (15, true), (16, true), (17, true)] rfl aE ?_
  refine AY ?_
  refine .p rfl rfl (zU (n - 1) U239 Z166 (tm rfl) (tm rfl) aA aA) ?_
  iterate 2 refine AX ?_
  refine .p rfl rfl (aeU (tm rfl) (tm rfl) (htop) (hD0)) ?_
  refine AY ?_
  refine .p rfl rfl (zU (n - 1) U239 Z166 (tm rfl) (tm rfl) aA aA) ?_
  refine AY ?_
  refine .p rfl rfl (abP (tm rfl) (tm rfl) (hD0)) ?_
  iterate 4 refine AX ?_
  refine AWP.meet (beZ s n m b38 b49 i vs zs qs H) ?_ ?_
  ·refine AX ?_
   refine AWP.loopW (brQ s n m b38 b49 i (zs.getD (m - i + n) 0 * 4294967296 + zs.getD (m - i + (n - 1)) 0) vs zs qs H) ((zs.getD (m - i + n) 0 * 4294967296 + zs.getD (m - i + (n - 1)) 0) / vs.getD (n - 1) 0) ⟨_, _, Nat.div_add_mod' _ _, dI (bT _ aA) hvv1, hD5, rfl, rfl, rfl⟩ sX (hRa _) ?_
   rintro _ _ _ ⟨d, r, hdr, hr, hq, rfl, rfl, hk2⟩
   have hd64 := cgO hdr htop hD0
   refine AX ?_
   refine AWP.seqTo 115 (.bool (decide (4294967296 ≤ d ∨ r * 4294967296 + zs.getD (m - i + (n - 2)) 0 < d * vs.getD (n - 2) 0))) [15, 16, 13, 6, 7, 8, 9, 10, 11, 51, 52] ?_ ?_
   ·-- region 13
    refine bfV (decide (((0 : Nat) : Int) < ((d / 2 ^ 32 : Nat) : Int))) (fun hg94 => ?_) (fun hg94 => ?_)
    ·have hdB : 4294967296 ≤ d := by simp at hg94; omega
     refine AWP.draw [(0, true), (1, true), (2, true), (3, true), (4, true), (5, true), (6, true), (7, true), (8, true), (9, true), (10, true), (11, true), (12, true), (13, true), (14, true), (15, true), (16, true), (17, true), (18, true), (19, true), (20, true), (21, true), (22, true), (23, true), (24, true)] rfl aE ?_
     refine AX ?_
     refine .p rfl rfl (yQ (tm rfl) (zI 32) (by exact hd64)) ?_
     refine AM ?_
     refine AY ?_
     exact ⟨rfl, zO rfl (by (rw [eq_comm, aO]; omega)) sX, rfl⟩
    have hdB : d < 4294967296 := by simp at hg94; omega
    have hdv := axI hdB hvv2
    have hdvs : d * vs.getD (n - 2) 0 < 18446744073709551616 := aV hdv aC
    have hrs := amY hr
    refine AWP.draw [(0, true), (1, true), (2, true), (3, true), (4, true), (5, true), (6, true), (7, true), (8, true), (9, true), (10, true), (11, true), (12, true), (13, true), (14, true), (15, true), (16, true), (17, true), (18, true), (19, true), (20, false), (21, true), (22, true), (23, true), (24, true)] rfl aE ?_
    refine AX ?_
    refine .p rfl rfl (yQ (tm rfl) (zI 32) (by exact hd64)) ?_
    refine AM ?_
    refine AY ?_
    refine .gp rfl rfl rfl rfl aB (zU (n - 2) U239 Z166 (tm rfl) (tm rfl) aA aA) ?_
    iterate 2 refine AX ?_
    refine .gp rfl rfl rfl rfl aB (aaX (tm rfl) (tm rfl) (by exact hdvs)) ?_
    refine AX ?_
    refine .gp rfl rfl rfl rfl aB (qA (tm rfl) (zI 32) aA (by exact hrs)) ?_
    refine AY ?_
    refine .gp rfl rfl rfl rfl aB (yI (m - i + (n - 2)) U239 Z166 (tm rfl) (tm rfl) aA aA) (.gs rfl rfl rfl rfl aB (yY G166 (tm rfl) ((oN _ _ aB).trans (oS _ _ _)) aA) ?_)
    rintro _ _ ⟨rfl, hH⟩
    obtain rfl := hH.symm
    refine .gp rfl rfl rfl rfl aB (qX U166 U22 (tm rfl) (wrapN64 aB)) (.gp rfl rfl rfl rfl aB (abD (tm rfl) (tm rfl) (hrs) (hu2s)) ?_)
    refine AY ?_
    exact ⟨rfl, zO rfl (by (rw [aiS (k := 32) (cZ hu2 aC), show (2 : Nat) ^ 32 = 4294967296 by decide, aY]; omega)) sX, rfl⟩
   refine AWP.sub [(115, _), (15, _), (16, _), (13, _), (6, _), (7, _), (8, _), (9, _), (10, _), (11, _), (51, _), (52, _)] sX ?_
   refine AWP.cx rfl (fun hc115 => ?_) (fun hc115 => ?_)
   ·have hqd : (val ((zs.drop (m - i)).take (n + 1)) / val vs) < d := by
     rcases hc115 with h | h
     ·omega
     exact hD6 d r hdr h
    have hd1 : 1 ≤ d := aV (Nat.zero_le _) hqd
    have hrv := ccB hr hvv1
    have hdn := ceD hd1 hdr
    refine AY ?_
    refine .p rfl (abJ (tm rfl) (zI 1) (hd1) (hd64)) ?_
    refine AY ?_
    refine .p rfl (zU (n - 1) U239 Z166 (tm rfl) (tm rfl) aA aA) ?_
    iterate 2 refine AX ?_
    refine .p rfl (yR (tm rfl) (tm rfl) (by exact hrv)) ?_
    iterate 6 refine AX ?_
    refine .p rfl (yQ (tm rfl) (zI 32) (by exact hrv)) ?_
    refine AM ?_
    refine AY ?_
    refine AWP.cx rfl (fun hc128 => ?_) (fun hc128 => ?_)
    ·have hbk := byK hdr hD2 hr aA aA aA
     have hbv : (d - 1) * vs.getD (n - 2) 0 ≤ 18446744065119617025 := axI hbk hvv2
     refine AY ?_
     refine Meets.mk (M := beZ s n m b38 b49 i vs zs qs H) ⟨d - 1, hbk, by omega, hD7 _ _ hbk hdn aA, rfl, rfl⟩ sX (hRa _)
    refine AY ?_
    refine Round.mk (J := brQ s n m b38 b49 i (zs.getD (m - i + n) 0 * 4294967296 + zs.getD (m - i + (n - 1)) 0) vs zs qs H) ⟨d - 1, r + vs.getD (n - 1) 0, hdn, by omega, by omega, rfl, rfl, rfl⟩ sX (hRa _) aA
   refine AY ?_
   refine Meets.mk (M := beZ s n m b38 b49 i vs zs qs H) ⟨d, by omega, hq, hD7 _ _ aA hdr aA, rfl, rfl⟩ sX (hRa _)
  rintro _ _ ⟨d, hdB, hd1, hd2, rfl, rfl⟩
  refine AWP.meet (beY s n m b38 b49 i vs zs qs H) ?_ ?_
  ·refine AY ?_
   refine .p rfl (alL (m - i) (m - i + n + 1) U239 Z166 (tm rfl) (tm rfl) (tm rfl) aA aA aA aA aA) ?_
   refine AY ?_
   refine .s rfl (zB call341 (evs3 rfl rfl rfl) (bdC vs .shared hvL aA b38 (0 + (m - i)) _ _ d hdB aA zs hzL aA aA _ ((oN _ _ hne2).trans (oS _ _ _)))) ?_
   rintro _ _ ⟨b2, ws, hb2, hwl, hwL, hval, rfl, hH⟩
   obtain rfl := hH.symm
   rw [sU hne2]
   rw [bZ, hjn] at hval
   rw [hjn] at hwl
   rw [bZ]
   obtain ⟨hn0, hn1⟩ := bgH hzL aA hVpos hwl hwL hd1 hd2 hval hb2
   clear hval
   refine AY ?_
   refine AWP.cx rfl (fun hc138 => ?_) (fun hc138 => ?_)
   ·obtain ⟨hdd, hww⟩ := hn1 aA
    have hd1 : 1 ≤ d := by rw [hdd]; exact Nat.le_add_left _ _
    refine AY ?_
    refine .p rfl (abJ (tm rfl) (zI 1) (hd1) (big32 hdB)) ?_
    refine AY ?_
    refine .p rfl (alL (m - i) (m - i + n + 1) U239 Z166 (tm rfl) (tm rfl) (tm rfl) aA aA aA aA aA) ?_
    refine AX ?_
    refine .s rfl (zB call342 (evs2 rfl rfl) (bfG vs .shared hvL aA b38 (0 + (m - i)) _ _ aA (mid zs (m - i) ws) (aeD hzL hwL) (by rw [afM hwl aA]; omega) aA _ ((oN _ _ hne2).trans (oS _ _ _)))) ?_
    rintro _ _ ⟨ws2, hw2l, hw2L, hw2v, hH⟩
    obtain rfl := hH.symm
    rw [sU hne2]
    rw [bZ, hjn, baR hwl aA] at hw2v
    rw [hjn] at hw2l
    rw [bZ, ccX aA aA]
    refine AY ?_
    refine Meets.mk (M := beY s n m b38 b49 i vs zs qs H) ⟨ws2, hw2l, hw2L, hw2v.trans hww, rfl, rfl⟩ (zN rfl (by rw [hdd, fN]) sX) (hRa _)
   obtain ⟨hdd, hww⟩ := hn0 aA
   refine AY ?_
   refine Meets.mk (M := beY s n m b38 b49 i vs zs qs H) ⟨ws, hwl, hwL, hww, rfl, rfl⟩ (zN rfl (by rw [hdd]) sX) (hRa _)
  rintro _ _ ⟨ws, hwl, hwL, hwv, rfl, rfl⟩
  refine AY ?_
  refine .p rfl (yI (m - i) U239 Z166 (tm rfl) (tm rfl) aA aA) (.e0 (yW Z166 (tm rfl) (tm rfl) (oS _ _ _) aA) ?_)
  try first | rw [sS] | rw [sU aB]
  refine AY ?_
  have hL := blR hzL aA hNV hVpos hO hwl hwv aA
  rw [hqm]
  refine Round.mk (J := caM s n m b38 b49 vs (x * 2 ^ s) H) ⟨i + 1, _, _, by omega, (afM hwl aA).trans hzl, aeD hzL hwL, by simpa using hql, Limbs.set hqL hD4, by rw [show m + 1 - (i + 1) = m - i by omega]; exact hL, rfl, rfl, rfl⟩ sX (hRa _) aA
 iterate 6 refine AX ?_
 have hi2 : i = m + 1 := by omega
 subst hi2
 rw [Nat.sub_self] at hO
 obtain ⟨hlt, hQ, hR⟩ := brO hV hO
 refine AWP.frzU (t := 11) rfl ((oN _ _ hne2.symm).trans hb49n) aA (aT _) (by simp only [zK]; omega) ?_
 rw [aX (l := qs) aA]
 refine AWP.frzU (t := 10) rfl hb38 aA (aT _) (by simp only [zK]; omega) ?_
 rw [aX (l := zs) aA]
 refine AY ?_
 refine .s rfl (yL (n) U239 typeInfo166 Z166 V166 (tm rfl) (tm rfl) aA aA aC aA) ?_
 rintro _ _ ⟨b157, rfl, hb157, hH⟩
 obtain rfl := hH.symm
 refine AY ?_
 refine AWP.loopW (brP n s b157 zs [(11, .slice 1 (U .u32 qs) .shared)] H) (n) ⟨0, List.replicate n 0, Nat.zero_le _, by simp, Limbs.rep aA, rfl, rfl, rfl, rfl⟩ sX (hRa _) ?_
 rintro _ _ _ ⟨i, rs, hi, hrl, hrL, hrs, rfl, rfl, hk⟩
 refine AY ?_
 refine AWP.cx rfl (fun hc160 => ?_) (fun hc160 => ?_)
 ·have hz0 := Limbs.getD hzL i
  have hz1 := Limbs.getD hzL (i + 1)
  have hz1s := amY hz1
  have hz0s := big32 hz0
  have hor := cfV hz1 hz0
  have hsg := bgY s (xs := zs) (i := i) aA
  refine AY ?_
  refine AWP.draw [(0, true), (1, true), (2, true), (3, true), (4, true), (5, true), (6, true), (7, true), (8, true), (9, true), (10, true), (11, true), (12, true), (13, true), (14, true), (15, true), (16, true), (17, true), (18, true), (19, false)] rfl aE ?_
  refine AY ?_
  refine .p rfl rfl (zU (i + 1) U239 Z166 (tm rfl) (tm rfl) aA aA) ?_
  iterate 2 refine AX ?_
  refine .p rfl rfl (qA (tm rfl) (zI 32) aA (by exact hz1s)) ?_
  refine AY ?_
  refine .p rfl rfl (zU (i) U239 Z166 (tm rfl) (tm rfl) aA aA) ?_
  refine AX ?_
  refine .p rfl rfl (qX U166 U22 (tm rfl) (wrapN64 aB)) (.p rfl rfl (abD (tm rfl) (tm rfl) (hz1s) (hz0s)) ?_)
  refine AX ?_
  refine .p rfl rfl (yQ (tm rfl) (tm rfl) (by exact hor)) ?_
  refine AX ?_
  refine .p rfl rfl (yI (i) U239 Z166 (tm rfl) (tm rfl) aA aA) (.s0 rfl (yW Z166 (tm rfl) (tm rfl) (oS _ _ _) aA) ?_)
  rintro _ _ ⟨rfl, hH⟩
  obtain rfl := hH.symm
  try first | rw [sS] | rw [sU aB]
  refine AY ?_
  refine Round.mk (J := brP n s b157 zs [(11, .slice 1 (U .u32 qs) .shared)] H) ⟨i + 1, _, by omega, by simpa using hrl, Limbs.set hrL (bT _ aC), boO aA (by rw [aoQ]; omega) hrs (by rw [hsg, aiS (k := 32) (cZ hz0 aC), eO]), rfl, rfl, rfl⟩ sX (hRa _) aA
 iterate 6 refine AX ?_
 have hi2 : i = n := by omega
 subst hi2
 refine AWP.frzU (t := 17) rfl hb157 aA (aT _) (by simp only [zK]; omega) ?_
 rw [aX (l := rs) aA]
 rw [aX (l := rs) aA] at hrs
 have hRv : val rs = x % y := by
  rw [hrs, bvG hzL hs1 aA hNV.2 hlt, hR, fM _ (bN aC)]
 refine AY ?_
 refine .cl rfl C311 (evs1 rfl) (qZ _ _ aB aA _) ?_
 refine AX ?_
 refine .cl rfl C311 (evs1 rfl) (qZ _ _ aB aA _) ?_
 refine AY ?_
 refine ⟨?_, rfl⟩
 rw [hQ, hRv]; rfl

end
section
open Go Go.RowKit
set_option maxRecDepth 100000

theorem aoL (a b : Nat) (hx : a < BIG) (hb0 : 0 < b) (hb : b < BIG) : Fn 273 [aaN a, aaN b] (.tuple [aaN (a / b), aaN (a % b), .int .i64 0]) := by
 intro H
 have ha256 := yK hx
 have hb256 := yK hb
 have hrb := ahQ b
 have hva := zL a
 have hvb := zL b
 have hbl : 0 < (zE b).length := by rw [qJ hb0]; simp
 refine .of_body func273 rfl ntmps273 results273 rfl ?_
 iterate 2 refine AX ?_
 iterate 2 refine AM ?_
 refine AY ?_
 refine .e rfl (ahJ U327 Z239 V239 rfl (tm rfl) (.inl rfl) ⟨rfl, rfl⟩ (tm rfl) (.inl rfl) ⟨rfl, rfl⟩) (.cl rfl C310 (evs1 rfl) (akT _ _ (zF _) aA _ _ _ (zF _) aA _) ?_)
 refine AY ?_
 refine .cx rfl (fun hc11 => ?_) (fun hc11 => ?_)
 ·omega
 refine AY ?_
 refine .cl rfl C314 (evs1 rfl) (acX _ _ (zF _) aA _) ?_
 refine AY ?_
 refine .cx rfl (fun hc16 => ?_) (fun hc16 => ?_)
 ·omega
 refine AY ?_
 refine .cl rfl call316 (evs2 rfl rfl) (cmpB _ _ hx aA _) ?_
 refine AY ?_
 refine .cx rfl (fun hc20 => ?_) (fun hc20 => ?_)
 ·have hlt := cgQ hc20
  refine AY ?_
  refine .cl rfl C278 (evs1 rfl) (anL _ _ (zF _) aA _) ?_
  refine AM ?_
  refine AY ?_
  refine ⟨?_, rfl⟩
  rw [cB hlt, bB hlt, zL]; rfl
 have hge := cgR (a := a) (b := b) aA
 refine AY ?_
 refine .cl rfl C311 (evs1 rfl) (cutB _ aA _) ?_
 refine AY ?_
 refine .cx rfl (fun hc31 => ?_) (fun hc31 => ?_)
 ·obtain ⟨hb1, _, hb2⟩ := cdI (b := b) aA
  have hg : (zE b).getD 0 0 = b := by rw [hb1]; rfl
  have hml := bT a hb0
  refine AY ?_
  refine .s rfl (zB C278 (evs1 rfl) (bjG _ _ (zF _) aA _)) ?_
  rintro _ _ ⟨b33, hb33, rfl, hH⟩
  obtain rfl := hH.symm
  rw [zL]
  refine AY ?_
  refine .p rfl (zU (0) U239 Z166 (tm rfl) zH aA aA) ?_
  refine AX ?_
  refine .s rfl (zB call317 (evs2 rfl rfl) (apV b33 0 (zE a).length (zE a).length ((zE b).getD 0 0) aA aA (zE a) (zF _) aA aA _ (oS _ _ _))) ?_
  rintro _ _ ⟨rfl, ws, hwl, hwL, hwv, hH⟩
  obtain rfl := hH.symm
  rw [arI hwl, sS]
  rw [cT, aX aA, hg, zL] at *
  iterate 4 refine AX ?_
  refine .frzU (t := 7) rfl hb33 aA (aT _) (by simp only [zK]; omega) ?_
  rw [aX (l := ws) aA]
  refine AY ?_
  refine .cl rfl C311 (evs1 rfl) (qZ ws .shared hwL aA _) ?_
  refine AY ?_
  refine .cl rfl C230 (evs1 rfl) (apG _ aA _) ?_
  refine AY ?_
  refine ⟨?_, rfl⟩
  rw [hwv]; rfl
 refine AY ?_
 refine .cl rfl C311 (evs1 rfl) (cutB _ aA _) ?_
 refine AX ?_
 refine .cl rfl call318 (evs2 rfl rfl) (blS _ _ aA aA aA _) ?_
 refine AY ?_
 exact ⟨rfl, rfl⟩

end
end Go.Proofs.YtmmgbnolccpjoaaGreatDoor
