import Derived.Test.YtmmgbnolccpjoaaGreatDoorN2
namespace Go.Proofs.YtmmgbnolccpjoaaGreatDoor
variable {qs us vs ws zs : List Nat} {A T V X c d j n r v v1 v2 x y : Nat}
theorem auD (x : Nat) : x &&& 4294967295 = x % 4294967296 := cO x 32
def apS (u low br : Nat) : Nat := ((u + (18446744073709551616 - low % 4294967296)) % 18446744073709551616 + (18446744073709551616 - br)) % 18446744073709551616
theorem auQ {u low br : Nat} (hu : u < 4294967296) (hb : br ≤ 1) : apS u low br / 9223372036854775808 ≤ 1 ∧ u + 4294967296 * (apS u low br / 9223372036854775808) = apS u low br % 4294967296 + low % 4294967296 + br := by
 unfold apS
 have : low % 4294967296 < 4294967296 := bQ _ (by decide)
 generalize low % 4294967296 = l at *
 omega
theorem beB {i br : Nat} (hi : i < ws.length) (hg : ws.getD i 0 = us.getD i 0) (hu : us.getD i 0 < 4294967296) (hb : br ≤ 1)
  (h : val (us.take i) + 4294967296 ^ i * (c + br) = val (ws.take i) + d * val (vs.take i)) :
  val (us.take (i + 1)) + 4294967296 ^ (i + 1) * ((d * vs.getD i 0 / 4294967296 + (d * vs.getD i 0 % 4294967296 + c) / 4294967296) + apS (us.getD i 0) (d * vs.getD i 0 % 4294967296 + c) br / 9223372036854775808)
   = val ((ws.set i (apS (us.getD i 0) (d * vs.getD i 0 % 4294967296 + c) br % 4294967296)).take (i + 1)) + d * val (vs.take (i + 1)) := by
 obtain ⟨_, e⟩ := auQ (low := d * vs.getD i 0 % 4294967296 + c) hu hb
 rw [afD hi, qC us, qC vs, bY d, Nat.mul_left_comm d, bO]
 generalize apS (us.getD i 0) (d * vs.getD i 0 % 4294967296 + c) br / 9223372036854775808 = b2 at *
 generalize apS (us.getD i 0) (d * vs.getD i 0 % 4294967296 + c) br % 4294967296 = z at *
 generalize us.getD i 0 = u at *
 generalize d * vs.getD i 0 = p at *
 generalize d * val (vs.take i) = dv at *
 generalize 4294967296 ^ i = B at *
 have e2 : u + 4294967296 * (p / 4294967296 + (p % 4294967296 + c) / 4294967296 + b2) = z + p + (c + br) := by omega
 have e3 : B * (u + 4294967296 * (p / 4294967296 + (p % 4294967296 + c) / 4294967296 + b2)) = B * (z + p + (c + br)) := by rw [e2]
 rw [bY, bY B, bY B, ← bC] at e3
 omega
theorem ayA {p : Nat} (hp : p ≤ 18446744065119617025) (hc : c < 4294967296) : p / 4294967296 + (p % 4294967296 + c) / 4294967296 < 4294967296 := by omega
theorem atG (hd : d < 4294967296) (hy : y < 4294967296) : d * y ≤ 18446744065119617025 := by
 have : d * y ≤ 4294967295 * 4294967295 := dZ (by omega) (by omega)
 exact this
theorem guess_ge {U : Nat} (hX : 0 < X) (hU : U < (T + 1) * X) (hV : v1 * X ≤ V) (h1 : 0 < v1) : U / V ≤ T / v1 := by
 rw [cZ h1]
 have h2 : U / V * V ≤ U := eD U V
 have h3 : U / V * (v1 * X) ≤ U / V * V := bT _ hV
 have h4 : U / V * v1 * X < (T + 1) * X := by rw [bC]; omega
 have h5 := eO h4
 omega
theorem bgG {U u2 : Nat} (hX : 0 < X) (ht : d * v1 + r = T) (hU : U < ((T * 4294967296 + u2) + 1) * X) (hV : (v1 * 4294967296 + v2) * X ≤ V) (hx : r * 4294967296 + u2 < d * v2) : U / V < d := by
 have h2 : U / V * V ≤ U := eD U V
 have h3 : U / V * ((v1 * 4294967296 + v2) * X) ≤ U / V * V := bT _ hV
 have h4 : U / V * (v1 * 4294967296 + v2) * X < ((T * 4294967296 + u2) + 1) * X := by rw [bC]; omega
 have h5 := eO h4
 have h6 : T * 4294967296 + u2 < d * (v1 * 4294967296 + v2) := by
  rw [← ht, bP, bY, bC]; omega
 have h7 : U / V * (v1 * 4294967296 + v2) < d * (v1 * 4294967296 + v2) := by omega
 exact eO h7
theorem blT {U u2 : Nat} (hX : 0 < X) (hd : d < 4294967296) (hv1 : 2147483648 ≤ v1) (ht : d * v1 + r = T) (hU : (T * 4294967296 + u2) * X ≤ U) (hV : V < ((v1 * 4294967296 + v2) + 1) * X) (hV2 : (v1 * 4294967296 + v2) * X ≤ V) (hx : d * v2 ≤ r * 4294967296 + u2) : d ≤ U / V + 1 := by
 have h1 : d * (v1 * 4294967296 + v2) ≤ T * 4294967296 + u2 := by
  rw [← ht, bP, bY, bC]; omega
 have h2 : d * (v1 * 4294967296 + v2) * X ≤ U := aZ (aV _ h1) hU
 have h3 : d * V ≤ d * (((v1 * 4294967296 + v2) + 1) * X) := bT _ (by omega)
 have h4 : d * (((v1 * 4294967296 + v2) + 1) * X) = d * (v1 * 4294967296 + v2) * X + d * X := by
  rw [bP, bY, cL, bC]
 have h5 : d * X ≤ V := by
  have : d * X ≤ (v1 * 4294967296 + v2) * X := aV _ (by omega)
  omega
 have hV0 : 0 < V := by
  have : 0 < (v1 * 4294967296 + v2) * X := fO (by omega) hX
  omega
 have h6 : d * V ≤ U + V := by omega
 have h7 : (d - 1) * V ≤ U := by rw [Nat.sub_mul, cL]; omega
 have h8 := (cZ hV0).2 h7
 omega
theorem biN {U w b2 N : Nat} (hV : 0 < V) (hw : w < N) (hd1 : U / V ≤ d) (hd2 : d ≤ U / V + 1) (hU : U < N) (h : U + N * b2 = w + d * V) (hb : b2 ≤ 1) :
  (b2 = 0 → d = U / V ∧ w = U % V) ∧ (b2 = 1 → d = U / V + 1 ∧ (w + V) % N = U % V) := by
 have e := cD U V
 have hm := bQ U hV
 rw [bD] at e
 generalize U / V = q at *
 generalize U % V = m at *
 rcases bZ d (q + 1) with h1 | h1
 ·grind
 have : d = q + 1 := by omega
 subst this
 rw [bP, cL] at h
 refine ⟨fun h0 => ?_, fun h0 => ⟨rfl, ?_⟩⟩
 ·grind
 subst h0
 have : w + V = m + N := by omega
 rw [this, Nat.add_mod_right, aW (by omega)]
section
open Go Go.RowKit
set_option maxRecDepth 100000

def biM (vs : List Nat) (tl : Tail) (b o n cp d : Nat) (zs : List Nat) (H : Heap) : Nat → Env → Heap → Prop := fun k env H1 => ∃ (i c br : Nat) (ws : List Nat), i ≤ n ∧ ws.length = n ∧ Limbs ws ∧ c < 4294967296 ∧ br ≤ 1 ∧ (∀ j, i ≤ j → ws.getD j 0 = ((zs.drop o).take n).getD j 0) ∧ val (((zs.drop o).take n).take i) + 4294967296 ^ i * (c + br) = val (ws.take i) + d * val (vs.take i) ∧ (vs.length < i → c = 0) ∧ env = [(0, .mslice (some ⟨b, o, none⟩) n cp), (1, .slice 1 (U .u32 vs) tl), (2, .int .u64 (d : Int)), (7, .int .u64 (c : Int)), (8, .int .u64 (br : Int)), (14, .int .i64 (n : Int)), (15, .int .i64 (i : Int))] ∧ H1 = H.set b (.box 166 (U .u32 (mid zs o ws))) ∧ k = n - i

theorem ayB (vs : List Nat) (tl : Tail) (hv : Limbs vs) (hl : vs.length ≤ 1000000) (b o n cp d : Nat) (hd : d < 4294967296) (hvn : vs.length < n) (zs : List Nat) (hz : Limbs zs) (hn : o + n ≤ zs.length) (hn2 : n ≤ 1000000) (H : Heap) (hb : H.objs b = some (.box 166 (U .u32 zs))) : ACall Tryz.prog 341 [.mslice (some ⟨b, o, none⟩) n cp, .slice 1 (U .u32 vs) tl, .int .u64 (d : Int)] H (fun y H' => ∃ (b2 : Nat) (ws : List Nat), b2 ≤ 1 ∧ ws.length = n ∧ Limbs ws ∧ val ((zs.drop o).take n) + 4294967296 ^ n * b2 = val ws + d * val vs ∧ y = .bool (decide (0 < b2)) ∧ H' = H.set b (.box 166 (U .u32 (mid zs o ws)))) := by
 refine ACall.of_body Tryz.func341 rfl Tryz.ntmps341 Tryz.results341 rfl ?_
 iterate 7 refine AX ?_
 refine .p rfl (zA (zI 0)) (.p rfl (zA (zI 0)) ?_)
 iterate 11 refine AX ?_
 refine AWP.loopW (biM vs tl b o n cp d zs H) (n) ⟨0, 0, 0, ((zs.drop o).take n), Nat.zero_le _, by simp; omega, (hz.drop _).take _, by omega, by omega, fun j _ => rfl, by simp [val], fun h => rfl, rfl, (Heap.set_self (by rw [amF hn]; exact hb)).symm, rfl⟩ sX (hRa _) ?_
 rintro _ _ _ ⟨i, c, br, ws, hi, hw, hwl, hc, hbr, hg, hval, hc0, rfl, rfl, hk⟩
 iterate 6 refine AX ?_
 refine AWP.cx rfl (fun hc16 => ?_) (fun hc16 => ?_)
 ·have hy := Limbs.getD hv i
  have hdy := atG hd hy
  have hal := auD (d * vs.getD i 0)
  have hal2 := auD (d * vs.getD i 0 % 4294967296 + c)
  have hcc := ayA hdy hc
  have hu := Limbs.getD ((hz.drop o).take n) i
  have hml := aeU (o := o) hw hn
  have hgi := hg i (aX i)
  have hgm := (azS (zs := zs) (o := o) (i := i) (by omega) (by omega : i < ws.length)).trans hgi
  have hgz := Limbs.getD (adP (o := o) hz hwl) (o + i)
  obtain ⟨hx1, hx2⟩ := auQ (low := (d * vs.getD i 0 % 4294967296 + c)) hu hbr
  have hst := beB (by omega : i < ws.length) hgi hu hbr hval
  have hX : apS (((zs.drop o).take n).getD i 0) (d * vs.getD i 0 % 4294967296 + c) br < 18446744073709551616 := bQ _ (by decide)
  iterate 12 refine AX ?_
  refine .p rfl (zA (zI 0)) ?_
  iterate 2 refine AX ?_
  refine AWP.seqToL [(10, .int .u64 ((d * vs.getD i 0 : Nat) : Int))] [0, 1, 2, 7, 8, 14, 15, 9] ?_ ?_
  ·iterate 8 refine AX ?_
   refine AWP.cx rfl (fun hc21 => ?_) (fun hc21 => ?_)
   ·iterate 4 refine AX ?_
    refine .p rfl (yA (i) U239 Z166 (tm rfl) (tm rfl) (by omega) (by omega)) ?_
    iterate 5 refine AX ?_
    exact ⟨rfl, (zX rfl (by rfl) sX), rfl⟩
   refine AX ?_
   exact ⟨rfl, (zX rfl (by (rw [afJ (by omega), cW])) sX), rfl⟩
  refine AWP.sub [(10, _), (0, _), (1, _), (2, _), (7, _), (8, _), (14, _), (15, _), (9, _)] sX ?_
  refine AWP.seqToL [(11, .int .u64 (((d * vs.getD i 0 % 4294967296 + c) : Nat) : Int))] [10, 0, 1, 2, 7, 8, 14, 15, 9] ?_ ?_
  ·-- region 8
   iterate 2 refine AX ?_
   refine .p rfl (aaN (tm rfl) (zI 4294967295) (by omega) (by omega)) ?_
   iterate 4 refine AX ?_
   exact ⟨rfl, (zX rfl (by rw [auD]) sX), rfl⟩
  refine AWP.sub [(11, _), (10, _), (0, _), (1, _), (2, _), (7, _), (8, _), (14, _), (15, _), (9, _)] sX ?_
  refine AWP.seqToL [(7, .int .u64 ((d * vs.getD i 0 / 4294967296 + (d * vs.getD i 0 % 4294967296 + c) / 4294967296 : Nat) : Int))] [11, 0, 1, 2, 8, 14, 15, 9] ?_ ?_
  ·-- region 9
   iterate 2 refine AX ?_
   refine .p rfl (yF (tm rfl) (zI 32) (by omega)) ?_
   refine AX ?_
   refine .p rfl (yF (tm rfl) (zI 32) (by omega)) ?_
   iterate 3 refine AX ?_
   exact ⟨rfl, (zX rfl (by rfl) sX), rfl⟩
  refine AWP.sub [(7, _), (11, _), (0, _), (1, _), (2, _), (8, _), (14, _), (15, _), (9, _)] sX ?_
  refine AWP.seqToL [(12, .int .u64 ((apS (((zs.drop o).take n).getD i 0) (d * vs.getD i 0 % 4294967296 + c) br : Nat) : Int))] [7, 0, 1, 2, 8, 14, 15, 9] ?_ ?_
  ·-- region 10
   iterate 3 refine AX ?_
   refine .p rfl (abW (i) U239 Z166 (tm rfl) (tm rfl) (by omega) (by omega)) (.e rfl (qJ G166 (tm rfl) (oS _ _ _) (by omega)) ?_)
   iterate 2 refine AX ?_
   refine .p rfl (aaN (tm rfl) (zI 4294967295) (by omega) (by omega)) ?_
   iterate 5 refine AX ?_
   exact ⟨rfl, (zX rfl (by rw [hgm, auD]; rfl) sX), rfl⟩
  refine AWP.sub [(12, _), (7, _), (0, _), (1, _), (2, _), (8, _), (14, _), (15, _), (9, _)] sX ?_
  iterate 6 refine AX ?_
  refine .p rfl (yF (tm rfl) (zI 63) (by assumption)) (.p rfl (abW (i) U239 Z166 (tm rfl) (tm rfl) (by omega) (by omega)) (.e0 (qH Z166 (tm rfl) (tm rfl) (oS _ _ _) (by omega)) ?_))
  try first | rw [sS] | rw [sU (by assumption)]
  iterate 9 refine AX ?_
  refine Round.mk (J := biM vs tl b o n cp d zs H) ⟨i + 1, _, _, _, by omega, by simpa using hw, Limbs.set hwl (bQ _ (by decide)), hcc, hx1, fun j hj => by rw [getD_set_ne (by omega)]; exact hg j (by omega), hst, fun h => by rw [afJ (by omega), cW]; omega, rfl, by rw [atJ (by omega) (by omega)]; rfl, rfl⟩ sX (hRa _) (by omega)
 iterate 8 refine AX ?_
 refine .p rfl (yC (tm rfl) (zI 0)) ?_
 iterate 5 refine AX ?_
 have hin : i = n := by omega
 subst hin
 rw [hc0 hvn, bW, aU (by simp; omega), aU (l := ws) (by omega), aU (l := vs) (by omega)] at hval
 exact ⟨br, ws, hbr, hw, hwl, hval, by simp [yI], rfl⟩

def blW (vs : List Nat) (tl : Tail) (b o n cp : Nat) (zs : List Nat) (H : Heap) : Nat → Env → Heap → Prop := fun k env H1 => ∃ (i c : Nat) (ws : List Nat), i ≤ n ∧ ws.length = n ∧ Limbs ws ∧ c ≤ 1 ∧ (∀ j, i ≤ j → ws.getD j 0 = ((zs.drop o).take n).getD j 0) ∧ val (ws.take i) + 4294967296 ^ i * c = val (((zs.drop o).take n).take i) + val (vs.take i) ∧ env = [(0, .mslice (some ⟨b, o, none⟩) n cp), (1, .slice 1 (U .u32 vs) tl), (4, .int .u32 (c : Int)), (8, .int .i64 (n : Int)), (9, .int .i64 (i : Int))] ∧ H1 = H.set b (.box 166 (U .u32 (mid zs o ws))) ∧ k = n - i

theorem baB (vs : List Nat) (tl : Tail) (hv : Limbs vs) (hl : vs.length ≤ 1000000) (b o n cp : Nat) (hvn : vs.length < n) (zs : List Nat) (hz : Limbs zs) (hn : o + n ≤ zs.length) (hn2 : n ≤ 1000000) (H : Heap) (hb : H.objs b = some (.box 166 (U .u32 zs))) : ACall Tryz.prog 342 [.mslice (some ⟨b, o, none⟩) n cp, .slice 1 (U .u32 vs) tl] H (fun _ H' => ∃ (ws : List Nat), ws.length = n ∧ Limbs ws ∧ val ws = (val ((zs.drop o).take n) + val vs) % 4294967296 ^ n ∧ H' = H.set b (.box 166 (U .u32 (mid zs o ws)))) := by
 refine ACall.of_body Tryz.func342 rfl Tryz.ntmps342 Tryz.results342 rfl ?_
 iterate 2 refine AX ?_
 refine .p rfl (zA (zI 0)) ?_
 iterate 10 refine AX ?_
 refine AWP.loopW (blW vs tl b o n cp zs H) (n) ⟨0, 0, ((zs.drop o).take n), Nat.zero_le _, by simp; omega, (hz.drop _).take _, by omega, fun j _ => rfl, by simp [val], rfl, (Heap.set_self (by rw [amF hn]; exact hb)).symm, rfl⟩ sX (hRa _) ?_
 rintro _ _ _ ⟨i, c, ws, hi, hw, hwl, hc, hg, hval, rfl, rfl, hk⟩
 iterate 6 refine AX ?_
 refine AWP.cx rfl (fun hc10 => ?_) (fun hc10 => ?_)
 ·have hy := Limbs.getD hv i
  have hu := Limbs.getD ((hz.drop o).take n) i
  have hml := aeU (o := o) hw hn
  have hgi := hg i (aX i)
  have hgm := (azS (zs := zs) (o := o) (i := i) (by omega) (by omega : i < ws.length)).trans hgi
  have hgz := Limbs.getD (adP (o := o) hz hwl) (o + i)
  iterate 12 refine AX ?_
  refine .p rfl (zA (zI 0)) ?_
  iterate 2 refine AX ?_
  refine AWP.seqToL [(6, .int .u32 ((vs.getD i 0 : Nat) : Int))] [0, 1, 4, 8, 9, 5] ?_ ?_
  ·iterate 8 refine AX ?_
   refine AWP.cx rfl (fun hc15 => ?_) (fun hc15 => ?_)
   ·iterate 3 refine AX ?_
    refine .p rfl (yA (i) U239 Z166 (tm rfl) (tm rfl) (by omega) (by omega)) ?_
    iterate 3 refine AX ?_
    exact ⟨rfl, (zX rfl (by rfl) sX), rfl⟩
   refine AX ?_
   exact ⟨rfl, (zX rfl (by (rw [afJ (by omega)] <;> rfl)) sX), rfl⟩
  refine AWP.sub [(6, _), (0, _), (1, _), (4, _), (8, _), (9, _), (5, _)] sX ?_
  iterate 5 refine AX ?_
  refine .p rfl (abW (i) U239 Z166 (tm rfl) (tm rfl) (by omega) (by omega)) (.e rfl (qJ G166 (tm rfl) (oS _ _ _) (by omega)) ?_)
  iterate 2 refine AX ?_
  refine .cl rfl Tryz.call339 (evs3 rfl rfl rfl) (apP _ _ _ (by assumption) (by assumption) (by omega) _) ?_
  iterate 3 refine AX ?_
  refine .p rfl (abW (i) U239 Z166 (tm rfl) (tm rfl) (by omega) (by omega)) (.e0 (qH Z166 (tm rfl) (tm rfl) (oS _ _ _) (by omega)) ?_)
  try first | rw [sS] | rw [sU (by assumption)]
  iterate 9 refine AX ?_
  rw [hgm]
  refine Round.mk (J := blW vs tl b o n cp zs H) ⟨i + 1, _, _, by omega, by simpa using hw, Limbs.set hwl (bQ _ (by decide)), by omega, fun j hj => by rw [getD_set_ne (by omega)]; exact hg j (by omega), bdK (by omega) hval, rfl, by rw [atJ (by omega) (by omega)], rfl⟩ sX (hRa _) (by omega)
 iterate 4 refine AX ?_
 refine Ret.go' .nil _ (hRa _) ?_
 have hin : i = n := by omega
 subst hin
 rw [aU (l := ((zs.drop o).take i)) (by simp; omega), aU (l := vs) (by omega)] at hval
 exact ⟨ws, hw, hwl, bbL hwl hw hval, rfl⟩

end
theorem agD {k : Nat} (h : k < zs.length) : val (zs.drop k) = zs.getD k 0 + 4294967296 * val (zs.drop (k + 1)) := by
 rw [cN h, val, aP, bF h]; rfl
theorem mid_mid {xs : List Nat} {o : Nat} (hl : ws.length = xs.length) (ho : o ≤ zs.length) : mid (mid zs o ws) o xs = mid zs o xs := by
 have e : (zs.take o).length = o := by rw [aQ]; omega
 unfold mid
 congr 1
 ·grind
 rw [List.drop_append, eP (by simp; omega), cT, fU, hl]
 congr 1
 simp; omega
theorem val_mid {o : Nat} (ho : o ≤ zs.length) : val (mid zs o ws) = val (zs.take o) + 4294967296 ^ o * (val ws + 4294967296 ^ ws.length * val (zs.drop (o + ws.length))) := by
 unfold mid
 rw [bV, qX, qX, aQ, dE ho]
theorem auO {l M : Nat} (h : l < X) : M * X ≤ l + X * M ∧ l + X * M < (M + 1) * X := by
 grind
theorem top2 (hn : 2 ≤ n) (hv : vs.length = n) (hl : Limbs vs) :
  (vs.getD (n - 1) 0 * 4294967296 + vs.getD (n - 2) 0) * 4294967296 ^ (n - 2) ≤ val vs ∧ val vs < (vs.getD (n - 1) 0 * 4294967296 + vs.getD (n - 2) 0 + 1) * 4294967296 ^ (n - 2) := by
 have h1 := afF (xs := vs) (k := n - 2) (by omega)
 have h2 := akM hl (k := n - 2) (by omega)
 have h3 := agD (zs := vs) (k := n - 2) (by omega)
 have h4 := agD (zs := vs) (k := n - 2 + 1) (by omega)
 rw [show n - 2 + 1 = n - 1 by omega] at *
 rw [eP (i := n - 1 + 1) (by omega), val] at h4
 rw [h3, h4] at h1
 generalize 4294967296 ^ (n - 2) = X at *
 generalize vs.getD (n - 1) 0 = a at *
 generalize vs.getD (n - 2) 0 = b at *
 rw [show b + 4294967296 * (a + 4294967296 * 0) = a * 4294967296 + b by omega] at h1
 rw [h1]
 exact auO h2
theorem top3 (hn : 2 ≤ n) (hv : us.length = n + 1) (hl : Limbs us) :
  ((us.getD n 0 * 4294967296 + us.getD (n - 1) 0) * 4294967296 + us.getD (n - 2) 0) * 4294967296 ^ (n - 2) ≤ val us ∧ val us < ((us.getD n 0 * 4294967296 + us.getD (n - 1) 0) * 4294967296 + us.getD (n - 2) 0 + 1) * 4294967296 ^ (n - 2) := by
 have h1 := afF (xs := us) (k := n - 2) (by omega)
 have h2 := akM hl (k := n - 2) (by omega)
 have h3 := agD (zs := us) (k := n - 2) (by omega)
 have h4 := agD (zs := us) (k := n - 2 + 1) (by omega)
 have h5 := agD (zs := us) (k := n - 2 + 1 + 1) (by omega)
 rw [eP (i := n - 2 + 1 + 1 + 1) (by omega), val] at h5
 rw [h3, h4, h5] at h1
 rw [show n - 2 + 1 + 1 = n by omega, show n - 2 + 1 = n - 1 by omega] at h1
 generalize 4294967296 ^ (n - 2) = X at *
 generalize us.getD n 0 = c at *
 generalize us.getD (n - 1) 0 = a at *
 generalize us.getD (n - 2) 0 = b at *
 rw [show b + 4294967296 * (a + 4294967296 * (c + 4294967296 * 0)) = (c * 4294967296 + a) * 4294967296 + b by omega] at h1
 rw [h1]
 exact auO h2
theorem avF (hz : Limbs zs) (hj : j + (n + 1) ≤ zs.length) (hV : V < 4294967296 ^ n) (h : val zs < V * 4294967296 ^ (j + 1)) :
  val (zs.drop (j + (n + 1))) = 0 ∧ val zs = val (zs.take j) + 4294967296 ^ j * val ((zs.drop j).take (n + 1)) := by
 have h1 := afF (xs := zs) (k := j) (by omega)
 have h2 := afF (xs := zs.drop j) (k := n + 1) (by simp; omega)
 rw [fU] at h2
 have h3 : V * 4294967296 ^ (j + 1) ≤ 4294967296 ^ j * 4294967296 ^ (n + 1) := by
  rw [bO, bO, bD V, bC, bD 4294967296 V]
  exact bT _ (aV _ (dG hV))
 have h0 : val (zs.drop (j + (n + 1))) = 0 := by
  rcases aY (val (zs.drop (j + (n + 1)))) with h4 | h4
  ·exact h4
  exfalso
  have h5 : 4294967296 ^ (n + 1) * 1 ≤ 4294967296 ^ (n + 1) * val (zs.drop (j + (n + 1))) := bT _ h4
  have h6 : 4294967296 ^ j * 4294967296 ^ (n + 1) ≤ 4294967296 ^ j * val (zs.drop j) := bT _ (by omega)
  omega
 rw [h0, cW, cC] at h2
 exact ⟨h0, by rw [h1, h2]⟩
theorem bkZ (hz : Limbs zs) (hj : j + (n + 1) ≤ zs.length) (hV : V < 4294967296 ^ n) (h0 : 0 < V) (h : val zs < V * 4294967296 ^ (j + 1)) (hw : ws.length = n + 1) (hv : val ws = val ((zs.drop j).take (n + 1)) % V)
  (hq : j < qs.length) (hA : A = val (qs.drop (j + 1)) * V * 4294967296 ^ (j + 1) + val zs) :
  val (mid zs j ws) < V * 4294967296 ^ j ∧ A = val ((qs.set j (val ((zs.drop j).take (n + 1)) / V)).drop j) * V * 4294967296 ^ j + val (mid zs j ws) := by
 obtain ⟨hr, he⟩ := avF hz hj hV h
 have ht := akM hz (k := j) (by omega)
 rw [val_mid (by omega), hw, hr, cW, cC, hv]
 have hq2 : val ((qs.set j (val ((zs.drop j).take (n + 1)) / V)).drop j) = val ((zs.drop j).take (n + 1)) / V + 4294967296 * val (qs.drop (j + 1)) := by
  rw [agD (by simpa using hq), atO hq, List.drop_set_of_lt (by omega)]
 rw [hq2]
 generalize val ((zs.drop j).take (n + 1)) = U at *
 have hm := bQ U h0
 have hd := cD U V
 constructor
 ·have : 4294967296 ^ j * (U % V + 1) ≤ 4294967296 ^ j * V := bT _ hm
  rw [bY, eZ] at this
  rw [bD V]
  omega
 grind
theorem piece_lt (hz : Limbs zs) (hj : j + (n + 1) ≤ zs.length) (hV : V < 4294967296 ^ n) (h : val zs < V * 4294967296 ^ (j + 1)) : val ((zs.drop j).take (n + 1)) < V * 4294967296 := by
 obtain ⟨_, he⟩ := avF hz hj hV h
 have : 4294967296 ^ j * val ((zs.drop j).take (n + 1)) < 4294967296 ^ j * (V * 4294967296) := by
  rw [bO, ← bC, bD V, bC] at h
  omega
 exact Nat.lt_of_mul_lt_mul_left this
section
open Go Go.RowKit
set_option maxRecDepth 100000

def asD (A V j : Nat) (zs qs : List Nat) : Prop := val zs < V * 4294967296 ^ j ∧ A = val (qs.drop j) * V * 4294967296 ^ j + val zs
def bnI (vs : List Nat) (n : Nat) : Prop := 2147483648 * 4294967296 ^ (n - 1) ≤ val vs ∧ val vs < 4294967296 ^ n
theorem akO (h : x < 4294967296) : x * 2 ^ 32 < 18446744073709551616 := by
 rw [show (2 : Nat) ^ 32 = 4294967296 by decide]; omega
theorem d_fits (h : d * v + r = T) (hT : T < 18446744073709551616) (hv : 0 < v) : d < 18446744073709551616 := by
 have : d * 1 ≤ d * v := bT _ hv
 omega
theorem rv_fits (h : r < 4294967296) (k : v < 4294967296) : r + v < 18446744073709551616 := by omega
theorem or_big (h : x < 4294967296) (k : y < 4294967296) : x * 2 ^ 32 ||| y < 18446744073709551616 := by
 rw [ahN (k := 32) (cR k (by decide)), show (2 : Nat) ^ 32 = 4294967296 by decide]; omega
theorem big32 (h : x < 4294967296) : x < 18446744073709551616 := by omega
theorem top_big (h : x < 4294967296) (k : y < 4294967296) : x * 4294967296 + y < 18446744073709551616 := by omega
theorem norm_ok {s : Nat} (hy : 0 < y) (hn : (zK y).length = n) (hs : 32 - yJ ((zK y).getD (n - 1) 0) = s) : s < 32 ∧ 2147483648 * 4294967296 ^ (n - 1) ≤ y * 2 ^ s ∧ y * 2 ^ s < 4294967296 ^ n := by
 have h1 := aiH hy
 rw [hn] at h1
 have h2 : 0 < yJ y := by rw [blen_pos hy]; omega
 have h3 := (qB (n := (zK y).getD (n - 1) 0) (k := 32)).2 (Limbs.getD (zP y) _)
 have hn0 : 0 < n := by rw [← hn, qV hy]; simp
 have h4 : y < 2 ^ yJ y := qB.1 (aX _)
 have h5 : 2 ^ (yJ y - 1) ≤ y := by
  rcases bZ y (2 ^ (yJ y - 1)) with h | h
  ·have := qB.2 h; omega
  exact h
 have h6 : 0 < yJ ((zK y).getD (n - 1) 0) := by
  rcases aY (yJ ((zK y).getD (n - 1) 0)) with h | h
  ·exfalso
   have h7 := qB.1 (Nat.le_of_eq h)
   have h8 : (zK y).getD (n - 1) 0 = 0 := by simpa using h7
   have h9 := acA (xs := zK y) (k := n - 1) (by omega)
   rw [aO h8, aU (by omega), agQ, hn] at h9
   have h10 := aaW ((zK y).take (n - 1))
   rw [← h9, aQ] at h10
   omega
  exact h
 have e1 : (4294967296 : Nat) ^ n = 2 ^ (yJ y + s) := by rw [show (4294967296 : Nat) = 2 ^ 32 by decide, ← dO]; congr 1; omega
 have e2 : 2147483648 * 4294967296 ^ (n - 1) = 2 ^ (yJ y - 1 + s) := by rw [show (4294967296 : Nat) = 2 ^ 32 by decide, show (2147483648 : Nat) = 2 ^ 31 by decide, ← dO, ← bB]; congr 1; omega
 refine ⟨by omega, ?_, ?_⟩
 ·rw [e2, bB]; exact aV _ h5
 rw [e1, bB]; exact Nat.mul_lt_mul_of_pos_right h4 (bI (by decide))
theorem bfW {s m la : Nat} (hx : x < 4294967296 ^ la) (hs : s < 32) (hm : la = n + m) (hn : 0 < n) (hV : 2147483648 * 4294967296 ^ (n - 1) ≤ y * 2 ^ s) : x * 2 ^ s < y * 2 ^ s * 4294967296 ^ (m + 1) ∧ x * 2 ^ s < 4294967296 ^ (la + 1) := by
 have h1 : 2 ^ s ≤ 2 ^ 31 := aT (by decide) (by omega)
 have h2 : x * 2 ^ s < 4294967296 ^ la * 2147483648 := Nat.mul_lt_mul_of_lt_of_le hx h1 (by decide)
 constructor
 ·have h3 : 4294967296 ^ la * 2147483648 ≤ y * 2 ^ s * 4294967296 ^ (m + 1) := by
   rw [show 4294967296 ^ la = 4294967296 ^ (n - 1) * 4294967296 ^ (m + 1) by rw [← bB]; congr 1; omega, Nat.mul_right_comm]
   exact aV _ (by rw [bD]; exact hV)
  exact bM h2 h3
 rw [bO]
 exact bM h2 (bT _ (by decide))
theorem len_mono (h : y ≤ x) : (zK y).length ≤ (zK x).length := qZ.2 (aR h (qZ.1 (aX _)))
theorem long_end {s Q R : Nat} (hV : V = y * 2 ^ s) (hlt : R < V) (hA : x * 2 ^ s = Q * V + R) : Q = x / y ∧ R = x % y * 2 ^ s := by
 have h1 : x * 2 ^ s / V = Q := by rw [hA, bD, fR (by omega), bX hlt, cC]
 have h2 : x * 2 ^ s % V = R := by rw [hA, bD, fQ, aW hlt]
 rw [hV, eR _ _ (bI (by decide))] at h1
 rw [hV, fD] at h2
 exact ⟨h1.symm, h2.symm⟩
theorem Heap.fresh_inv {H : Heap} {b : Nat} {x : AObj} (h : (H.set b x).objs c = none) : H.objs c = none := by
 rwa [oN _ _ (Ne.symm (Heap.fresh_ne h))] at h
theorem biO {rs A : List Nat} {i : Nat} (hi : i < rs.length) (hA : i < A.length) (h : rs.take i = A.take i) (hv : v = A.getD i 0) : (rs.set i v).take (i + 1) = A.take (i + 1) := by
 subst hv
 have h1 : i < (rs.set i (A.getD i 0)).length := by simpa using hi
 rw [← dJ h1, ← dJ hA, List.take_set_of_le (aX _), h, List.getElem_set_self, aP, bF hA]; rfl
theorem bgY {U u2 : Nat} (hU1 : (T * 4294967296 + u2) * X ≤ U) (hU2 : U < (T * 4294967296 + u2 + 1) * X) (hV1 : (v1 * 4294967296 + v2) * X ≤ V) (hV2 : V < (v1 * 4294967296 + v2 + 1) * X) (hpl : U < V * 4294967296)
  (hu2 : u2 < 4294967296) (hv2 : v2 < 4294967296) (hV : 2147483648 * (4294967296 * X) ≤ V) (hX : 0 < X) :
  2147483648 ≤ v1 ∧ T < (v1 + 1) * 4294967296 ∧ 0 < V ∧ U / V < 4294967296 ∧ U / V ≤ T / v1 ∧ (∀ d r, d * v1 + r = T → r * 4294967296 + u2 < d * v2 → U / V < d) ∧ (∀ d r, d < 4294967296 → d * v1 + r = T → d * v2 ≤ r * 4294967296 + u2 → d ≤ U / V + 1) := by
 have hv1 : 2147483648 ≤ v1 := by
  have h1 : 2147483648 * 4294967296 * X < (v1 * 4294967296 + v2 + 1) * X := by rw [bC]; omega
  have h2 := eO h1
  omega
 have hV0 : 0 < V := by
  have : 0 < (v1 * 4294967296 + v2) * X := fO (by omega) hX
  omega
 refine ⟨hv1, ?_, hV0, ?_, ?_, ?_, ?_⟩
 ·have h1 : (T * 4294967296 + u2) * X < ((v1 * 4294967296 + v2 + 1) * 4294967296) * X := by
   rw [Nat.mul_right_comm _ 4294967296 X]
   omega
  have h2 := eO h1
  omega
 ·rw [bJ hV0, bD]; exact hpl
 ·refine guess_ge (X := 4294967296 * X) (by omega) ?_ ?_ (by omega)
  ·have h1 : (T * 4294967296 + u2 + 1) * X ≤ ((T + 1) * 4294967296) * X := aV _ (by omega)
   rw [bC (T + 1)] at h1
   omega
  have h1 : (v1 * 4294967296) * X ≤ (v1 * 4294967296 + v2) * X := aV _ (by omega)
  rw [bC v1] at h1
  omega
 ·intro d r hdr hx
  exact bgG hX hdr hU2 hV1 hx
 intro d r hd hdr hx
 exact blT hX hd hv1 hdr hU1 hV2 hV1 hx
theorem baJ (hn : 2 ≤ n) (hz : Limbs zs) (hj : j + (n + 1) ≤ zs.length) (hvl : vs.length = n) (hv : Limbs vs) (hN : bnI vs n) (hO : asD A (val vs) (j + 1) zs qs) :
  2147483648 ≤ vs.getD (n - 1) 0 ∧ zs.getD (j + n) 0 * 4294967296 + zs.getD (j + (n - 1)) 0 < (vs.getD (n - 1) 0 + 1) * 4294967296 ∧ 0 < val vs ∧ val ((zs.drop j).take (n + 1)) / val vs < 4294967296 ∧
  val ((zs.drop j).take (n + 1)) / val vs ≤ (zs.getD (j + n) 0 * 4294967296 + zs.getD (j + (n - 1)) 0) / vs.getD (n - 1) 0 ∧
  (∀ d r, d * vs.getD (n - 1) 0 + r = zs.getD (j + n) 0 * 4294967296 + zs.getD (j + (n - 1)) 0 → r * 4294967296 + zs.getD (j + (n - 2)) 0 < d * vs.getD (n - 2) 0 → val ((zs.drop j).take (n + 1)) / val vs < d) ∧
  (∀ d r, d < 4294967296 → d * vs.getD (n - 1) 0 + r = zs.getD (j + n) 0 * 4294967296 + zs.getD (j + (n - 1)) 0 → d * vs.getD (n - 2) 0 ≤ r * 4294967296 + zs.getD (j + (n - 2)) 0 → d ≤ val ((zs.drop j).take (n + 1)) / val vs + 1) := by
 obtain ⟨hV, hVn⟩ := hN
 obtain ⟨h, _⟩ := hO
 have hPl : ((zs.drop j).take (n + 1)).length = n + 1 := by simp; omega
 have hPL : Limbs ((zs.drop j).take (n + 1)) := (hz.drop _).take _
 obtain ⟨hU1, hU2⟩ := top3 hn hPl hPL
 obtain ⟨hV1, hV2⟩ := top2 hn hvl hv
 rw [afZ (by omega), afZ (by omega), afZ (by omega)] at hU1 hU2
 have hpl := piece_lt (j := j) hz hj hVn h
 have hu2 := Limbs.getD hz (j + (n - 2))
 have hv2 := Limbs.getD hv (n - 2)
 have hXe : 4294967296 ^ (n - 1) = 4294967296 * 4294967296 ^ (n - 2) := by rw [← Nat.pow_succ', show (n - 2).succ = n - 1 by omega]
 have hX : 0 < 4294967296 ^ (n - 2) := bI (by decide)
 rw [hXe] at hV
 exact bgY hU1 hU2 hV1 hV2 hpl hu2 hv2 hV hX
theorem baX {b2 : Nat} (hz : Limbs zs) (hj : j + (n + 1) ≤ zs.length) (hV : 0 < V) (hw : ws.length = n + 1) (hwL : Limbs ws) (hd1 : val ((zs.drop j).take (n + 1)) / V ≤ d) (hd2 : d ≤ val ((zs.drop j).take (n + 1)) / V + 1) (h : val ((zs.drop j).take (n + 1)) + 4294967296 ^ (n + 1) * b2 = val ws + d * V) (hb : b2 ≤ 1) :
  (b2 = 0 → d = val ((zs.drop j).take (n + 1)) / V ∧ val ws = val ((zs.drop j).take (n + 1)) % V) ∧ (b2 = 1 → d = val ((zs.drop j).take (n + 1)) / V + 1 ∧ (val ws + V) % 4294967296 ^ (n + 1) = val ((zs.drop j).take (n + 1)) % V) := by
 have hPl : ((zs.drop j).take (n + 1)).length = n + 1 := by simp; omega
 have hPL : Limbs ((zs.drop j).take (n + 1)) := (hz.drop _).take _
 have hU3 := afE hPL
 have hwlt := afE hwL
 rw [hPl] at hU3
 rw [hw] at hwlt
 exact biN hV hwlt hd1 hd2 hU3 h hb
theorem bfX (hz : Limbs zs) (hj : j + (n + 1) ≤ zs.length) (hN : bnI vs n) (h0 : 0 < val vs) (hO : asD A (val vs) (j + 1) zs qs) (hw : ws.length = n + 1) (hv : val ws = val ((zs.drop j).take (n + 1)) % val vs) (hq : j < qs.length) :
  asD A (val vs) j (mid zs j ws) (qs.set j (val ((zs.drop j).take (n + 1)) / val vs)) := bkZ hz hj hN.2 h0 hO.1 hw hv hq hO.2
theorem blB {s : Nat} (hV : val vs = y * 2 ^ s) (hO : asD (x * 2 ^ s) (val vs) 0 zs qs) : val zs < val vs ∧ val qs = x / y ∧ val zs = x % y * 2 ^ s := by
 obtain ⟨h1, h2⟩ := hO
 rw [dC, eZ] at h1
 rw [dC, eZ, dK] at h2
 obtain ⟨h3, h4⟩ := long_end hV h1 h2
 exact ⟨h1, h3, h4⟩
theorem bfZ {s m la : Nat} (hx : (zK x).length = la) (hy : 0 < y) (hs : s < 32) (hm : la = n + m) (hn : 0 < n) (h2 : 2147483648 * 4294967296 ^ (n - 1) ≤ y * 2 ^ s) (h3 : y * 2 ^ s < 4294967296 ^ n) (hv : val vs = val (zK y) * 2 ^ s % 4294967296 ^ n) (hu : val us = val (zK x) * 2 ^ s % 4294967296 ^ (la + 1)) :
  val vs = y * 2 ^ s ∧ bnI vs n ∧ asD (x * 2 ^ s) (val vs) (m + 1) us (List.replicate (m + 1) 0) := by
 obtain ⟨hst1, hst2⟩ := bfW (qZ.1 (Nat.le_of_eq hx)) hs hm hn h2
 have hV : val vs = y * 2 ^ s := by rw [hv, zT, aW h3]
 have hU : val us = x * 2 ^ s := by rw [hu, zT, aW hst2]
 refine ⟨hV, ⟨by rw [hV]; exact h2, by rw [hV]; exact h3⟩, by rw [hU, hV]; exact hst1, ?_⟩
 rw [eP (by simp), val, dF, dF, bW, hU]
theorem break_ok (ht : d * v1 + r = T) (hT : T < (v1 + 1) * 4294967296) (hr : r < 4294967296) (hb : 4294967296 ≤ r + v1) (hd : 0 < d) (hv : 0 < v1) : d - 1 < 4294967296 := by
 rcases bZ (d - 1) 4294967296 with h | h
 ·exact h
 exfalso
 have h1 : (4294967296 + 1) * v1 ≤ d * v1 := aV _ (by omega)
 rw [bP] at h1 hT
 omega
theorem down_eq (hd : 0 < d) (h : d * v1 + r = T) : (d - 1) * v1 + (r + v1) = T := by
 obtain ⟨e, rfl⟩ : ∃ e, d = e + 1 := ⟨d - 1, by omega⟩
 rw [bP] at h
 rw [fP]; omega
theorem shr_take {s : Nat} (hz : Limbs zs) (hs : s < 32) (hn : n ≤ zs.length) (hV : V < 4294967296 ^ n) (h : val zs < V) : val ((asM s zs).take n) = val zs / 2 ^ s := by
 have h1 := afF (xs := asM s zs) (k := n) (by rw [amA]; exact hn)
 rw [asL (by omega) hz] at h1
 have h2 : val zs / 2 ^ s ≤ val zs := cU _ _
 have h3 : val ((asM s zs).drop n) = 0 := by
  rcases aY (val ((asM s zs).drop n)) with h | h
  ·exact h
  have : 4294967296 ^ n * 1 ≤ 4294967296 ^ n * val ((asM s zs).drop n) := bT _ h
  omega
 rw [h3] at h1
 omega

def long_J (s n m b38 b49 : Nat) (vs : List Nat) (A : Nat) (H : Heap) : Nat → Env → Heap → Prop := fun k env H1 => ∃ (i : Nat) (zs qs : List Nat), i ≤ m + 1 ∧ zs.length = n + m + 1 ∧ Limbs zs ∧ qs.length = m + 1 ∧ Limbs qs ∧ asD A (val vs) (m + 1 - i) zs qs ∧ env = [(6, .int .i64 (s : Int)), (7, .int .i64 (n : Int)), (8, .int .i64 (m : Int)), (9, .slice 1 (U .u32 vs) .shared), (10, .mslice (some ⟨b38, 0, none⟩) (n + m + 1) (n + m + 1)), (11, .mslice (some ⟨b49, 0, none⟩) (m + 1) (m + 1)), (51, .int .i64 ((m : Int) + 1)), (52, .int .i64 (i : Int))] ∧ H1 = (H.set b38 (.box 166 (U .u32 zs))).set b49 (.box 166 (U .u32 qs)) ∧ k = m + 1 - i

def blD (s n m b38 b49 i T : Nat) (vs zs qs : List Nat) (H : Heap) : Nat → Env → Heap → Prop := fun k env H1 => ∃ (d r : Nat), d * vs.getD (n - 1) 0 + r = T ∧ r < 4294967296 ∧ (val ((zs.drop (m - i)).take (n + 1)) / val vs) ≤ d ∧ env = [(15, .int .u64 (d : Int)), (16, .int .u64 (r : Int)), (13, .int .i64 ((m - i : Nat) : Int)), (6, .int .i64 (s : Int)), (7, .int .i64 (n : Int)), (8, .int .i64 (m : Int)), (9, .slice 1 (U .u32 vs) .shared), (10, .mslice (some ⟨b38, 0, none⟩) (n + m + 1) (n + m + 1)), (11, .mslice (some ⟨b49, 0, none⟩) (m + 1) (m + 1)), (51, .int .i64 ((m : Int) + 1)), (52, .int .i64 (i : Int))] ∧ H1 = (H.set b38 (.box 166 (U .u32 zs))).set b49 (.box 166 (U .u32 qs)) ∧ k = d

def azW (s n m b38 b49 i : Nat) (vs zs qs : List Nat) (H : Heap) : Env → Heap → Prop := fun env H1 => ∃ d : Nat, d < 4294967296 ∧ (val ((zs.drop (m - i)).take (n + 1)) / val vs) ≤ d ∧ d ≤ (val ((zs.drop (m - i)).take (n + 1)) / val vs) + 1 ∧ env = [(15, .int .u64 (d : Int)), (13, .int .i64 ((m - i : Nat) : Int)), (6, .int .i64 (s : Int)), (7, .int .i64 (n : Int)), (8, .int .i64 (m : Int)), (9, .slice 1 (U .u32 vs) .shared), (10, .mslice (some ⟨b38, 0, none⟩) (n + m + 1) (n + m + 1)), (11, .mslice (some ⟨b49, 0, none⟩) (m + 1) (m + 1)), (51, .int .i64 ((m : Int) + 1)), (52, .int .i64 (i : Int))] ∧ H1 = (H.set b38 (.box 166 (U .u32 zs))).set b49 (.box 166 (U .u32 qs))
def azV (s n m b38 b49 i : Nat) (vs zs qs : List Nat) (H : Heap) : Env → Heap → Prop := fun env H1 => ∃ ws : List Nat, ws.length = n + 1 ∧ Limbs ws ∧ val ws = val ((zs.drop (m - i)).take (n + 1)) % val vs ∧ env = [(15, .int .u64 (((val ((zs.drop (m - i)).take (n + 1)) / val vs) : Nat) : Int)), (13, .int .i64 ((m - i : Nat) : Int)), (6, .int .i64 (s : Int)), (7, .int .i64 (n : Int)), (8, .int .i64 (m : Int)), (9, .slice 1 (U .u32 vs) .shared), (10, .mslice (some ⟨b38, 0, none⟩) (n + m + 1) (n + m + 1)), (11, .mslice (some ⟨b49, 0, none⟩) (m + 1) (m + 1)), (51, .int .i64 ((m : Int) + 1)), (52, .int .i64 (i : Int))] ∧ H1 = (H.set b38 (.box 166 (U .u32 (mid zs (m - i) ws)))).set b49 (.box 166 (U .u32 qs))

def blC (n s b157 : Nat) (zs : List Nat) (e : Env) (H : Heap) : Nat → Env → Heap → Prop := fun k env H1 => ∃ (i : Nat) (rs : List Nat), i ≤ n ∧ rs.length = n ∧ Limbs rs ∧ rs.take i = (asM s zs).take i ∧ env = [(6, .int .i64 (s : Int)), (10, .slice 1 (U .u32 zs) .shared), (17, .mslice (some ⟨b157, 0, none⟩) n n), (158, .int .i64 (n : Int)), (159, .int .i64 (i : Int))] ++ e ∧ H1 = H.set b157 (.box 166 (U .u32 rs)) ∧ k = n - i

set_option maxHeartbeats 4000000 in
theorem bfY (x y : Nat) (hy : 2 ≤ (zK y).length) (hxy : y ≤ x) (hx : x < BIG) (H : Heap) : ACall Tryz.prog 318 [aaT x, aaT y] H (fun z H' => z = .tuple [aaT (x / y), aaT (x % y)] ∧ H' = H) := by
 have hy256 := yU (n := y) (by omega)
 have hx256 := yU hx
 have hxl := len_mono hxy
 have hy0 : 0 < y := by
  rcases aY y with h | h
  ·rw [h, aaZ] at hy; simp at hy
  exact h
 refine ACall.of_body Tryz.func318 rfl Tryz.ntmps318 Tryz.results318 rfl ?_
 iterate 2 refine AX ?_
 refine .p rfl (zA (qK (sz := 1) (tl := .shared))) ?_
 refine .p rfl (zA (qK (sz := 1) (tl := .shared))) ?_
 iterate 8 refine AX ?_
 refine .p rfl (yA ((zK y).length - 1) U239 Z166 (tm rfl) (tm rfl) (by omega) (by omega)) ?_
 refine AX ?_
 refine .cl rfl Tryz.call340 (evs1 rfl) (bhR _ (Limbs.getD (zP _) _) _) ?_
 iterate 3 refine AX ?_
 refine AWP.seqToL [(7, .int .i64 (((zK y).length : Nat) : Int)), (8, .int .i64 (((zK x).length - (zK y).length : Nat) : Int))] [0, 1, 4, 5, 6] ?_ ?_
 ·-- region 2
  iterate 11 refine AX ?_
  exact ⟨rfl, (zX rfl (by rfl) (zX rfl (by (congr 1; omega)) sX)), rfl⟩
 refine AWP.sub [(7, _), (8, _), (0, _), (1, _), (4, _), (5, _), (6, _)] sX ?_
 generalize hs : 32 - yJ ((zK y).getD ((zK y).length - 1) 0) = s
 obtain ⟨hs1, hs2, hs3⟩ := norm_ok hy0 rfl hs
 generalize hn : (zK y).length = n at *
 generalize hmm : (zK x).length - n = m at *
 have hla : (zK x).length = n + m := by omega
 refine AWP.meet (fun env H1 => ∃ b34 b38 : Nat, b34 ≠ b38 ∧ H.objs b34 = none ∧ H.objs b38 = none ∧ env = [(0, aaT x), (1, aaT y), (6, .int .i64 (s : Int)), (7, .int .i64 (n : Int)), (8, .int .i64 (m : Int)), (9, .mslice (some ⟨b34, 0, none⟩) n n), (10, .mslice (some ⟨b38, 0, none⟩) (n + m + 1) (n + m + 1))] ∧ H1 = (H.set b34 (.box 166 (U .u32 (List.replicate n 0)))).set b38 (.box 166 (U .u32 (List.replicate (n + m + 1) 0)))) ?_ ?_
 ·-- region 3
  refine AWP.draw2 [(0, true), (2, true), (3, true), (4, true)] 1 5 [(6, true), (5, false), (7, true)] [(1, false), (6, true), (7, true)] rfl (by decide +kernel) ?_
  iterate 5 refine AX ?_
  refine ⟨?_, ?_⟩
  ·refine XTwo.s rfl rfl (yV (n) U239 Tryz.typeInfo166 Z166 V166 (tm rfl) (tm rfl) (by omega) (by omega) (by decide) (by omega)) ?_
   rintro _ _ ⟨b34, rfl, hb34, hH⟩
   obtain rfl := hH.symm
   refine AX ?_
   refine .s rfl rfl (yV (n + m + 1) U239 Tryz.typeInfo166 Z166 V166 (tm rfl) (tm rfl) (by omega) (by omega) (by decide) (by omega)) ?_
   rintro _ _ ⟨b38, rfl, hb38, hH⟩
   obtain rfl := hH.symm
   iterate 3 refine AX ?_
   refine Meets.mk (M := fun env H1 => ∃ b34 b38 : Nat, b34 ≠ b38 ∧ H.objs b34 = none ∧ H.objs b38 = none ∧ env = [(0, aaT x), (1, aaT y), (6, .int .i64 (s : Int)), (7, .int .i64 (n : Int)), (8, .int .i64 (m : Int)), (9, .mslice (some ⟨b34, 0, none⟩) n n), (10, .mslice (some ⟨b38, 0, none⟩) (n + m + 1) (n + m + 1))] ∧ H1 = (H.set b34 (.box 166 (U .u32 (List.replicate n 0)))).set b38 (.box 166 (U .u32 (List.replicate (n + m + 1) 0)))) ⟨b34, b38, Heap.fresh_ne hb38, hb34, Heap.fresh_inv hb38, rfl, rfl⟩ sX (hRa _)
  refine XTwo.s rfl rfl (yV (n + m + 1) U239 Tryz.typeInfo166 Z166 V166 (tm rfl) (tm rfl) (by omega) (by omega) (by decide) (by omega)) ?_
  rintro _ _ ⟨b38, rfl, hb38, hH⟩
  obtain rfl := hH.symm
  refine .s rfl rfl (yV (n) U239 Tryz.typeInfo166 Z166 V166 (tm rfl) (tm rfl) (by omega) (by omega) (by decide) (by omega)) ?_
  rintro _ _ ⟨b34, rfl, hb34, hH⟩
  obtain rfl := hH.symm
  iterate 4 refine AX ?_
  refine Meets.mk (M := fun env H1 => ∃ b34 b38 : Nat, b34 ≠ b38 ∧ H.objs b34 = none ∧ H.objs b38 = none ∧ env = [(0, aaT x), (1, aaT y), (6, .int .i64 (s : Int)), (7, .int .i64 (n : Int)), (8, .int .i64 (m : Int)), (9, .mslice (some ⟨b34, 0, none⟩) n n), (10, .mslice (some ⟨b38, 0, none⟩) (n + m + 1) (n + m + 1))] ∧ H1 = (H.set b34 (.box 166 (U .u32 (List.replicate n 0)))).set b38 (.box 166 (U .u32 (List.replicate (n + m + 1) 0)))) ⟨b34, b38, (Heap.fresh_ne hb34).symm, Heap.fresh_inv hb34, hb38, rfl, Heap.set_comm (Heap.fresh_ne hb34) _ _⟩ sX (hRa _)
 rintro _ _ ⟨b34, b38, hne, hb34, hb38, rfl, rfl⟩
 iterate 5 refine AX ?_
 refine .s rfl (zF Tryz.call315 (evs3 rfl rfl rfl) (aiU (zK y) .shared (zP _) (by omega) b34 0 n n s (List.replicate n 0) (Limbs.rep (by omega)) (by simp) (by omega) (by omega) _ ((oN _ _ hne).trans (oS _ _ _)))) ?_
 rintro _ _ ⟨vs, hvl, hvL, hvv, hH⟩
 obtain rfl := hH.symm
 rw [aoJ (by simpa using hvl), Heap.set_swap hne]
 iterate 3 refine AX ?_
 refine AWP.frzU (t := 9) rfl ((oN _ _ hne).trans hb34) (by omega) (aX _) (by simp only [zW]; omega) ?_
 rw [aU (l := vs) (by omega)]
 iterate 4 refine AX ?_
 refine .s rfl (zF Tryz.call315 (evs3 rfl rfl rfl) (aiU (zK x) .shared (zP _) (by omega) b38 0 (n + m + 1) (n + m + 1) s (List.replicate (n + m + 1) 0) (Limbs.rep (by omega)) (by simp) (by omega) (by omega) _ (oS _ _ _))) ?_
 rintro _ _ ⟨us, hul, huL, huv, hH⟩
 obtain rfl := hH.symm
 rw [aoJ (by simpa using hul), sS]
 iterate 6 refine AX ?_
 refine .s rfl (yV (m + 1) U239 Tryz.typeInfo166 Z166 V166 (tm rfl) (tm rfl) (by omega) (by omega) (by decide) (by omega)) ?_
 rintro _ _ ⟨b49, rfl, hb49, hH⟩
 obtain rfl := hH.symm
 iterate 5 refine AX ?_
 have hne2 : b38 ≠ b49 := Heap.fresh_ne hb49
 have hb49n : H.objs b49 = none := Heap.fresh_inv hb49
 obtain ⟨hV, hNV, hO0⟩ := bfZ (m := m) hla hy0 hs1 rfl (by omega) hs2 hs3 hvv huv
 clear hs2 hs3 hvv huv
 have hvv1 := Limbs.getD hvL (n - 1)
 have hvv2 := Limbs.getD hvL (n - 2)
 iterate 7 refine AX ?_
 refine AWP.loopW (long_J s n m b38 b49 vs (x * 2 ^ s) H) (m + 1) ⟨0, us, List.replicate (m + 1) 0, Nat.zero_le _, hul, huL, by simp, Limbs.rep (by omega), hO0, rfl, rfl, rfl⟩ sX (hRa _) ?_
 rintro _ _ _ ⟨i, zs, qs, hi, hzl, hzL, hql, hqL, hO, rfl, rfl, hk⟩
 iterate 6 refine AX ?_
 refine AWP.cx rfl (fun hc53 => ?_) (fun hc53 => ?_)
 ·have hji : m + 1 - i = m - i + 1 := by omega
  rw [hji] at hO
  have hjn : m - i + n + 1 - (m - i) = n + 1 := by omega
  obtain ⟨hD1, hD2, hVpos, hD4, hD5, hD6, hD7⟩ := baJ (j := m - i) hy hzL (by omega) hvl hvL hNV hO
  have hu0 := Limbs.getD hzL (m - i + n)
  have hu1 := Limbs.getD hzL (m - i + (n - 1))
  have hu2 := Limbs.getD hzL (m - i + (n - 2))
  have hu0s := akO hu0
  have hu1s := big32 hu1
  have hu2s := big32 hu2
  have htop := top_big hu0 hu1
  have hD0 := bM (by decide : 0 < 2147483648) hD1
  have hqm : (val ((zs.drop (m - i)).take (n + 1)) / val vs) % 2 ^ IntKind.u32.bits = (val ((zs.drop (m - i)).take (n + 1)) / val vs) := aW hD4
  iterate 10 refine AX ?_
  refine AWP.seqToL [(13, .int .i64 ((m - i : Nat) : Int))] [6, 7, 8, 9, 10, 11, 51, 52] ?_ ?_
  ·-- region 10
   iterate 6 refine AX ?_
   exact ⟨rfl, (zX rfl (by congr 1; omega) sX), rfl⟩
  refine AWP.sub [(13, _), (6, _), (7, _), (8, _), (9, _), (10, _), (11, _), (51, _), (52, _)] sX ?_
  refine AWP.seqToL [(14, .int .u64 (((zs.getD (m - i + n) 0 * 4294967296 + zs.getD (m - i + (n - 1)) 0) : Nat) : Int))] [13, 6, 7, 8, 9, 10, 11, 51, 52] ?_ ?_
  ·-- region 11
   refine AWP.draw2 [(0, true), (1, true), (2, true), (3, true), (4, true), (8, true), (9, true), (10, true), (11, true), (12, true), (13, true)] 5 14 [(6, true), (7, true), (14, false), (15, true), (16, true), (17, true)] [(15, true), (5, false), (6, true), (7, true), (16, true), (17, true)] rfl (by decide +kernel) ?_
   iterate 4 refine AX ?_
   refine .p rfl rfl (yO (m - i + n) U239 Z166 (tm rfl) (tm rfl) (by omega) (by omega)) ?_
   iterate 5 refine AX ?_
   refine .p rfl rfl (yO (m - i + (n - 1)) U239 Z166 (tm rfl) (tm rfl) (by omega) (by omega)) ?_
   refine AX ?_
   refine ⟨?_, ?_⟩
   ·refine XTwo.s rfl rfl (qJ G166 (tm rfl) ((oN _ _ (by assumption)).trans (oS _ _ _)) (by omega)) ?_
    rintro _ _ ⟨rfl, hH⟩
    obtain rfl := hH.symm
    refine AX ?_
    refine .p rfl rfl (qL (tm rfl) (zI 32) (by omega) (by exact hu0s)) (.s rfl rfl (qJ G166 (tm rfl) ((oN _ _ (by assumption)).trans (oS _ _ _)) (by omega)) ?_)
    rintro _ _ ⟨rfl, hH⟩
    obtain rfl := hH.symm
    refine .p rfl rfl (qM U166 U22 (tm rfl) (wrapN64 (by assumption))) (.p rfl rfl (abC (tm rfl) (tm rfl) (hu0s) (hu1s)) ?_)
    iterate 2 refine AX ?_
    exact ⟨rfl, (zX rfl (by rw [ahN (k := 32) (cR hu1 (by decide))]) sX), rfl⟩
   refine XTwo.s rfl rfl (qJ G166 (tm rfl) ((oN _ _ (by assumption)).trans (oS _ _ _)) (by omega)) ?_
   rintro _ _ ⟨rfl, hH⟩
   obtain rfl := hH.symm
   refine .p rfl rfl (qM U166 U22 (tm rfl) (wrapN64 (by assumption))) (.s rfl rfl (qJ G166 (tm rfl) ((oN _ _ (by assumption)).trans (oS _ _ _)) (by omega)) ?_)
   rintro _ _ ⟨rfl, hH⟩
   obtain rfl := hH.symm
   refine AX ?_
   refine .p rfl rfl (qL (tm rfl) (zI 32) (by omega) (by exact hu0s)) (.p rfl rfl (abC (tm rfl) (tm rfl) (hu0s) (hu1s)) ?_)
   iterate 2 refine AX ?_
   exact ⟨rfl, (zX rfl (by rw [ahN (k := 32) (cR hu1 (by decide))]) sX), rfl⟩
  refine AWP.sub [(14, _), (13, _), (6, _), (7, _), (8, _), (9, _), (10, _), (11, _), (51, _), (52, _)] sX ?_
  refine AX ?_
  refine AWP.draw [(0, true), (1, true), (2, true), (3, true), (4, true), (5, true), (6, true), (7, true), (8, true), (9, true), (10, true), (11, true), (12, true), (13, true), (14, true), (15, true), (16, true), (17, true)] rfl (by decide +kernel) ?_
  iterate 4 refine AX ?_
  refine .p rfl rfl (yA (n - 1) U239 Z166 (tm rfl) (tm rfl) (by omega) (by omega)) ?_
  iterate 2 refine AX ?_
  refine .p rfl rfl (adE (tm rfl) (tm rfl) (htop) (hD0)) ?_
  iterate 4 refine AX ?_
  refine .p rfl rfl (yA (n - 1) U239 Z166 (tm rfl) (tm rfl) (by omega) (by omega)) ?_
  iterate 2 refine AX ?_
  refine .p rfl rfl (qY (tm rfl) (tm rfl) (hD0)) ?_
  iterate 4 refine AX ?_
  refine AWP.meet (azW s n m b38 b49 i vs zs qs H) ?_ ?_
  ·refine AX ?_
   refine AWP.loopW (blD s n m b38 b49 i (zs.getD (m - i + n) 0 * 4294967296 + zs.getD (m - i + (n - 1)) 0) vs zs qs H) ((zs.getD (m - i + n) 0 * 4294967296 + zs.getD (m - i + (n - 1)) 0) / vs.getD (n - 1) 0) ⟨_, _, Nat.div_add_mod' _ _, cX (bQ _ (by omega)) hvv1, hD5, rfl, rfl, rfl⟩ sX (hRa _) ?_
   rintro _ _ _ ⟨d, r, hdr, hr, hq, rfl, rfl, hk2⟩
   have hd64 := d_fits hdr htop hD0
   refine AX ?_
   refine AWP.seqTo 115 (.bool (decide (4294967296 ≤ d ∨ r * 4294967296 + zs.getD (m - i + (n - 2)) 0 < d * vs.getD (n - 2) 0))) [15, 16, 13, 6, 7, 8, 9, 10, 11, 51, 52] ?_ ?_
   ·-- region 13
    refine baR (decide (((0 : Nat) : Int) < ((d / 2 ^ 32 : Nat) : Int))) (fun hg94 => ?_) (fun hg94 => ?_)
    ·have hdB : 4294967296 ≤ d := by simp at hg94; omega
     refine AWP.draw [(0, true), (1, true), (2, true), (3, true), (4, true), (5, true), (6, true), (7, true), (8, true), (9, true), (10, true), (11, true), (12, true), (13, true), (14, true), (15, true), (16, true), (17, true), (18, true), (19, true), (20, true), (21, true), (22, true), (23, true), (24, true)] rfl (by decide +kernel) ?_
     refine AX ?_
     refine .p rfl rfl (yF (tm rfl) (zI 32) (by exact hd64)) (.p rfl rfl (yC (tm rfl) (zI 0)) ?_)
     iterate 23 refine AX ?_
     exact ⟨rfl, zY rfl (by (rw [eq_comm, aM]; omega)) sX, rfl⟩
    have hdB : d < 4294967296 := by simp at hg94; omega
    have hdv := atG hdB hvv2
    have hdvs : d * vs.getD (n - 2) 0 < 18446744073709551616 := aR hdv (by decide)
    have hrs := akO hr
    refine AWP.draw [(0, true), (1, true), (2, true), (3, true), (4, true), (5, true), (6, true), (7, true), (8, true), (9, true), (10, true), (11, true), (12, true), (13, true), (14, true), (15, true), (16, true), (17, true), (18, true), (19, true), (20, false), (21, true), (22, true), (23, true), (24, true)] rfl (by decide +kernel) ?_
    refine AX ?_
    refine .p rfl rfl (yF (tm rfl) (zI 32) (by exact hd64)) (.p rfl rfl (yC (tm rfl) (zI 0)) ?_)
    iterate 5 refine AX ?_
    refine .gp rfl rfl rfl rfl (by assumption) (yA (n - 2) U239 Z166 (tm rfl) (tm rfl) (by omega) (by omega)) ?_
    iterate 2 refine AX ?_
    refine .gp rfl rfl rfl rfl (by assumption) (aaR (tm rfl) (tm rfl) (by exact hdvs)) ?_
    refine AX ?_
    refine .gp rfl rfl rfl rfl (by assumption) (qL (tm rfl) (zI 32) (by omega) (by exact hrs)) ?_
    iterate 5 refine AX ?_
    refine .gp rfl rfl rfl rfl (by assumption) (yO (m - i + (n - 2)) U239 Z166 (tm rfl) (tm rfl) (by omega) (by omega)) (.gs rfl rfl rfl rfl (by assumption) (qJ G166 (tm rfl) ((oN _ _ (by assumption)).trans (oS _ _ _)) (by omega)) ?_)
    rintro _ _ ⟨rfl, hH⟩
    obtain rfl := hH.symm
    refine .gp rfl rfl rfl rfl (by assumption) (qM U166 U22 (tm rfl) (wrapN64 (by assumption))) (.gp rfl rfl rfl rfl (by assumption) (abC (tm rfl) (tm rfl) (hrs) (hu2s)) ?_)
    iterate 3 refine AX ?_
    exact ⟨rfl, zY rfl (by (rw [ahN (k := 32) (cR hu2 (by decide)), show (2 : Nat) ^ 32 = 4294967296 by decide, bA]; omega)) sX, rfl⟩
   refine AWP.sub [(115, _), (15, _), (16, _), (13, _), (6, _), (7, _), (8, _), (9, _), (10, _), (11, _), (51, _), (52, _)] sX ?_
   refine AWP.cx rfl (fun hc115 => ?_) (fun hc115 => ?_)
   ·have hqd : (val ((zs.drop (m - i)).take (n + 1)) / val vs) < d := by
     rcases hc115 with h | h
     ·omega
     exact hD6 d r hdr h
    have hd1 : 1 ≤ d := aR (Nat.zero_le _) hqd
    have hrv := rv_fits hr hvv1
    have hdn := down_eq hd1 hdr
    iterate 6 refine AX ?_
    refine .p rfl (abI (tm rfl) (zI 1) (hd1) (hd64)) ?_
    iterate 9 refine AX ?_
    refine .p rfl (yA (n - 1) U239 Z166 (tm rfl) (tm rfl) (by omega) (by omega)) ?_
    iterate 2 refine AX ?_
    refine .p rfl (yR (tm rfl) (tm rfl) (by exact hrv)) ?_
    iterate 6 refine AX ?_
    refine .p rfl (yF (tm rfl) (zI 32) (by exact hrv)) (.p rfl (yC (tm rfl) (zI 0)) ?_)
    iterate 2 refine AX ?_
    refine AWP.cx rfl (fun hc128 => ?_) (fun hc128 => ?_)
    ·have hbk := break_ok hdr hD2 hr (by omega) (by omega) (by omega)
     have hbv : (d - 1) * vs.getD (n - 2) 0 ≤ 18446744065119617025 := atG hbk hvv2
     iterate 5 refine AX ?_
     refine Meets.mk (M := azW s n m b38 b49 i vs zs qs H) ⟨d - 1, hbk, by omega, hD7 _ _ hbk hdn (by omega), rfl, rfl⟩ sX (hRa _)
    iterate 3 refine AX ?_
    refine Round.mk (J := blD s n m b38 b49 i (zs.getD (m - i + n) 0 * 4294967296 + zs.getD (m - i + (n - 1)) 0) vs zs qs H) ⟨d - 1, r + vs.getD (n - 1) 0, hdn, by omega, by omega, rfl, rfl, rfl⟩ sX (hRa _) (by omega)
   iterate 5 refine AX ?_
   refine Meets.mk (M := azW s n m b38 b49 i vs zs qs H) ⟨d, by omega, hq, hD7 _ _ (by omega) hdr (by omega), rfl, rfl⟩ sX (hRa _)
  rintro _ _ ⟨d, hdB, hd1, hd2, rfl, rfl⟩
  refine AWP.meet (azV s n m b38 b49 i vs zs qs H) ?_ ?_
  ·iterate 8 refine AX ?_
   refine .p rfl (ajM (m - i) (m - i + n + 1) U239 Z166 (tm rfl) (tm rfl) (tm rfl) (by omega) (by omega) (by omega) (by omega) (by omega)) ?_
   iterate 2 refine AX ?_
   refine .s rfl (zF Tryz.call341 (evs3 rfl rfl rfl) (ayB vs .shared hvL (by omega) b38 (0 + (m - i)) _ _ d hdB (by omega) zs hzL (by omega) (by omega) _ ((oN _ _ hne2).trans (oS _ _ _)))) ?_
   rintro _ _ ⟨b2, ws, hb2, hwl, hwL, hval, rfl, hH⟩
   obtain rfl := hH.symm
   rw [sU hne2]
   rw [bW, hjn] at hval
   rw [hjn] at hwl
   rw [bW]
   obtain ⟨hn0, hn1⟩ := baX hzL (by omega) hVpos hwl hwL hd1 hd2 hval hb2
   clear hval
   iterate 2 refine AX ?_
   refine AWP.cx rfl (fun hc138 => ?_) (fun hc138 => ?_)
   ·obtain ⟨hdd, hww⟩ := hn1 (by omega)
    have hd1 : 1 ≤ d := by rw [hdd]; exact Nat.le_add_left _ _
    iterate 3 refine AX ?_
    refine .p rfl (abI (tm rfl) (zI 1) (hd1) (big32 hdB)) ?_
    iterate 10 refine AX ?_
    refine .p rfl (ajM (m - i) (m - i + n + 1) U239 Z166 (tm rfl) (tm rfl) (tm rfl) (by omega) (by omega) (by omega) (by omega) (by omega)) ?_
    refine AX ?_
    refine .s rfl (zF Tryz.call342 (evs2 rfl rfl) (baB vs .shared hvL (by omega) b38 (0 + (m - i)) _ _ (by omega) (mid zs (m - i) ws) (adP hzL hwL) (by rw [aeU hwl (by omega)]; omega) (by omega) _ ((oN _ _ hne2).trans (oS _ _ _)))) ?_
    rintro _ _ ⟨ws2, hw2l, hw2L, hw2v, hH⟩
    obtain rfl := hH.symm
    rw [sU hne2]
    rw [bW, hjn, awE hwl (by omega)] at hw2v
    rw [hjn] at hw2l
    rw [bW, mid_mid (by omega) (by omega)]
    iterate 2 refine AX ?_
    refine Meets.mk (M := azV s n m b38 b49 i vs zs qs H) ⟨ws2, hw2l, hw2L, hw2v.trans hww, rfl, rfl⟩ (zX rfl (by rw [hdd, fP]) sX) (hRa _)
   obtain ⟨hdd, hww⟩ := hn0 (by omega)
   iterate 2 refine AX ?_
   refine Meets.mk (M := azV s n m b38 b49 i vs zs qs H) ⟨ws, hwl, hwL, hww, rfl, rfl⟩ (zX rfl (by rw [hdd]) sX) (hRa _)
  rintro _ _ ⟨ws, hwl, hwL, hwv, rfl, rfl⟩
  iterate 5 refine AX ?_
  refine .p rfl (yO (m - i) U239 Z166 (tm rfl) (tm rfl) (by omega) (by omega)) (.e0 (qH Z166 (tm rfl) (tm rfl) (oS _ _ _) (by omega)) ?_)
  try first | rw [sS] | rw [sU (by assumption)]
  iterate 8 refine AX ?_
  have hL := bfX hzL (by omega) hNV hVpos hO hwl hwv (by omega)
  rw [hqm]
  refine Round.mk (J := long_J s n m b38 b49 vs (x * 2 ^ s) H) ⟨i + 1, _, _, by omega, (aeU hwl (by omega)).trans hzl, adP hzL hwL, by simpa using hql, Limbs.set hqL hD4, by rw [show m + 1 - (i + 1) = m - i by omega]; exact hL, rfl, rfl, rfl⟩ sX (hRa _) (by omega)
 iterate 6 refine AX ?_
 have hi2 : i = m + 1 := by omega
 subst hi2
 rw [Nat.sub_self] at hO
 obtain ⟨hlt, hQ, hR⟩ := blB hV hO
 refine AWP.frzU (t := 11) rfl ((oN _ _ hne2.symm).trans hb49n) (by omega) (aX _) (by simp only [zW]; omega) ?_
 rw [aU (l := qs) (by omega)]
 refine AWP.frzU (t := 10) rfl hb38 (by omega) (aX _) (by simp only [zW]; omega) ?_
 rw [aU (l := zs) (by omega)]
 iterate 2 refine AX ?_
 refine .s rfl (yV (n) U239 Tryz.typeInfo166 Z166 V166 (tm rfl) (tm rfl) (by omega) (by omega) (by decide) (by omega)) ?_
 rintro _ _ ⟨b157, rfl, hb157, hH⟩
 obtain rfl := hH.symm
 iterate 11 refine AX ?_
 refine AWP.loopW (blC n s b157 zs [(11, .slice 1 (U .u32 qs) .shared)] H) (n) ⟨0, List.replicate n 0, Nat.zero_le _, by simp, Limbs.rep (by omega), rfl, rfl, rfl, rfl⟩ sX (hRa _) ?_
 rintro _ _ _ ⟨i, rs, hi, hrl, hrL, hrs, rfl, rfl, hk⟩
 iterate 6 refine AX ?_
 refine AWP.cx rfl (fun hc160 => ?_) (fun hc160 => ?_)
 ·have hz0 := Limbs.getD hzL i
  have hz1 := Limbs.getD hzL (i + 1)
  have hz1s := akO hz1
  have hz0s := big32 hz0
  have hor := or_big hz1 hz0
  have hsg := bbT s (xs := zs) (i := i) (by omega)
  iterate 10 refine AX ?_
  refine AWP.draw [(0, true), (1, true), (2, true), (3, true), (4, true), (5, true), (6, true), (7, true), (8, true), (9, true), (10, true), (11, true), (12, true), (13, true), (14, true), (15, true), (16, true), (17, true), (18, true), (19, false)] rfl (by decide +kernel) ?_
  iterate 5 refine AX ?_
  refine .p rfl rfl (yA (i + 1) U239 Z166 (tm rfl) (tm rfl) (by omega) (by omega)) ?_
  iterate 2 refine AX ?_
  refine .p rfl rfl (qL (tm rfl) (zI 32) (by omega) (by exact hz1s)) ?_
  iterate 2 refine AX ?_
  refine .p rfl rfl (yA (i) U239 Z166 (tm rfl) (tm rfl) (by omega) (by omega)) ?_
  refine AX ?_
  refine .p rfl rfl (qM U166 U22 (tm rfl) (wrapN64 (by assumption))) (.p rfl rfl (abC (tm rfl) (tm rfl) (hz1s) (hz0s)) ?_)
  refine AX ?_
  refine .p rfl rfl (yF (tm rfl) (tm rfl) (by exact hor)) ?_
  refine AX ?_
  refine .p rfl rfl (yO (i) U239 Z166 (tm rfl) (tm rfl) (by omega) (by omega)) (.s0 rfl (qH Z166 (tm rfl) (tm rfl) (oS _ _ _) (by omega)) ?_)
  rintro _ _ ⟨rfl, hH⟩
  obtain rfl := hH.symm
  try first | rw [sS] | rw [sU (by assumption)]
  iterate 8 refine AX ?_
  refine Round.mk (J := blC n s b157 zs [(11, .slice 1 (U .u32 qs) .shared)] H) ⟨i + 1, _, by omega, by simpa using hrl, Limbs.set hrL (bQ _ (by decide)), biO (by omega) (by rw [amA]; omega) hrs (by rw [hsg, ahN (k := 32) (cR hz0 (by decide)), eL]), rfl, rfl, rfl⟩ sX (hRa _) (by omega)
 iterate 6 refine AX ?_
 have hi2 : i = n := by omega
 subst hi2
 refine AWP.frzU (t := 17) rfl hb157 (by omega) (aX _) (by simp only [zW]; omega) ?_
 rw [aU (l := rs) (by omega)]
 rw [aU (l := rs) (by omega)] at hrs
 have hRv : val rs = x % y := by
  rw [hrs, shr_take hzL hs1 (by omega) hNV.2 hlt, hR, fC _ (bI (by decide))]
 iterate 2 refine AX ?_
 refine .cl rfl C311 (evs1 rfl) (aaI _ _ (by assumption) (by omega) _) ?_
 refine AX ?_
 refine .cl rfl C311 (evs1 rfl) (aaI _ _ (by assumption) (by omega) _) ?_
 iterate 6 refine AX ?_
 refine ⟨?_, rfl⟩
 rw [hQ, hRv]; rfl

end
section
open Go Go.RowKit
set_option maxRecDepth 100000

theorem alV (a b : Nat) (hx : a < BIG) (hb0 : 0 < b) (hb : b < BIG) (H : Heap) : ACall Tryz.prog 273 [aaT a, aaT b] H (fun y H' => y = .tuple [aaT (a / b), aaT (a % b), .int .i64 0] ∧ H' = H) := by
 have ha256 := yU hx
 have hb256 := yU hb
 have hrb := agQ b
 have hva := zT a
 have hvb := zT b
 have hbl : 0 < (zK b).length := by rw [qV hb0]; simp
 refine ACall.of_body Tryz.func273 rfl Tryz.ntmps273 Tryz.results273 rfl ?_
 iterate 2 refine AX ?_
 refine .p rfl (zA (qK (sz := 1) (tl := .shared))) ?_
 refine .p rfl (zA (qK (sz := 1) (tl := .shared))) ?_
 iterate 9 refine AX ?_
 refine .e rfl (agI U327 Z239 V239 rfl (tm rfl) (.inl rfl) ⟨rfl, rfl⟩ (tm rfl) (.inl rfl) ⟨rfl, rfl⟩) (.cl rfl C310 (evs1 rfl) (ajA _ _ (zP _) (by omega) _ _ _ (zP _) (by omega) _) ?_)
 iterate 3 refine AX ?_
 refine AWP.cx rfl (fun hc11 => ?_) (fun hc11 => ?_)
 ·omega
 iterate 3 refine AX ?_
 refine .cl rfl C314 (evs1 rfl) (acM _ _ (zP _) (by omega) _) ?_
 iterate 4 refine AX ?_
 refine AWP.cx rfl (fun hc16 => ?_) (fun hc16 => ?_)
 ·omega
 iterate 4 refine AX ?_
 refine .cl rfl Tryz.call316 (evs2 rfl rfl) (cmpB _ _ hx (by omega) _) ?_
 iterate 4 refine AX ?_
 refine AWP.cx rfl (fun hc20 => ?_) (fun hc20 => ?_)
 ·have hlt := cmp_lt hc20
  iterate 3 refine AX ?_
  refine .cl rfl C278 (evs1 rfl) (akY _ _ (zP _) (by omega) _) ?_
  refine .p rfl (zA (qK (sz := 1) (tl := .shared))) ?_
  iterate 8 refine AX ?_
  refine ⟨?_, rfl⟩
  rw [bX hlt, aW hlt, zT]; rfl
 have hge := cmp_ge (a := a) (b := b) (by omega)
 iterate 6 refine AX ?_
 refine .cl rfl C311 (evs1 rfl) (cutB _ (by omega) _) ?_
 iterate 11 refine AX ?_
 refine AWP.cx rfl (fun hc31 => ?_) (fun hc31 => ?_)
 ·obtain ⟨hb1, _, hb2⟩ := len_one (b := b) (by omega)
  have hg : (zK b).getD 0 0 = b := by rw [hb1]; rfl
  have hml := bQ a hb0
  iterate 3 refine AX ?_
  refine .s rfl (zF C278 (evs1 rfl) (bdL _ _ (zP _) (by omega) _)) ?_
  rintro _ _ ⟨b33, hb33, rfl, hH⟩
  obtain rfl := hH.symm
  rw [zT]
  iterate 7 refine AX ?_
  refine .p rfl (yA (0) U239 Z166 (tm rfl) zE (by omega) (by omega)) ?_
  refine AX ?_
  refine .s rfl (zF Tryz.call317 (evs2 rfl rfl) (anC b33 0 (zK a).length (zK a).length ((zK b).getD 0 0) (by omega) (by omega) (zK a) (zP _) (by omega) (by omega) _ (oS _ _ _))) ?_
  rintro _ _ ⟨rfl, ws, hwl, hwL, hwv, hH⟩
  obtain rfl := hH.symm
  rw [aoJ hwl, sS]
  rw [dK, aU (by omega), hg, zT] at *
  iterate 4 refine AX ?_
  refine AWP.frzU (t := 7) rfl hb33 (by omega) (aX _) (by simp only [zW]; omega) ?_
  rw [aU (l := ws) (by omega)]
  iterate 2 refine AX ?_
  refine .cl rfl C311 (evs1 rfl) (aaI ws .shared hwL (by omega) _) ?_
  iterate 2 refine AX ?_
  refine .cl rfl C230 (evs1 rfl) (amO _ (by omega) _) ?_
  iterate 8 refine AX ?_
  refine ⟨?_, rfl⟩
  rw [hwv]; rfl
 iterate 5 refine AX ?_
 refine .cl rfl C311 (evs1 rfl) (cutB _ (by omega) _) ?_
 refine AX ?_
 refine .cl rfl Tryz.call318 (evs2 rfl rfl) (bfY _ _ (by omega) (by omega) (by omega) _) ?_
 iterate 18 refine AX ?_
 exact ⟨rfl, rfl⟩

end
end Go.Proofs.YtmmgbnolccpjoaaGreatDoor
