import Derived.Test.YtfkeflcdadlmdaaGreatDoorYd
import Derived.Test.YtfkeflcdadlmdaaGreatDoorN2
import Derived.Test.YtfkeflcdadlmdaaGreatDoorSsk
import Derived.Test.YtfkeflcdadlmdaaGreatDoorS6
namespace Go.Proofs.YtfkeflcdadlmdaaGreatDoor
theorem asI (x : Nat) : x &&& 4294967295 = x % 4294967296 := Nat.and_two_pow_sub_one_eq_mod x 32
def aoE (u low br : Nat) : Nat := ((u + (18446744073709551616 - low % 4294967296)) % 18446744073709551616 + (18446744073709551616 - br)) % 18446744073709551616
theorem asT {u low br : Nat} (hu : u < 4294967296) (hb : br ≤ 1) : aoE u low br / 9223372036854775808 ≤ 1 ∧ u + 4294967296 * (aoE u low br / 9223372036854775808) = aoE u low br % 4294967296 + low % 4294967296 + br := by
 unfold aoE
 have : low % 4294967296 < 4294967296 := Nat.mod_lt _ (by decide)
 generalize low % 4294967296 = l at *
 omega
theorem bbY {ws us vs : List Nat} {i c br d : Nat} (hi : i < ws.length) (hg : ws.getD i 0 = us.getD i 0) (hu : us.getD i 0 < 4294967296) (hb : br ≤ 1)
  (h : val (us.take i) + 4294967296 ^ i * (c + br) = val (ws.take i) + d * val (vs.take i)) :
  val (us.take (i + 1)) + 4294967296 ^ (i + 1) * ((d * vs.getD i 0 / 4294967296 + (d * vs.getD i 0 % 4294967296 + c) / 4294967296) + aoE (us.getD i 0) (d * vs.getD i 0 % 4294967296 + c) br / 9223372036854775808)
   = val ((ws.set i (aoE (us.getD i 0) (d * vs.getD i 0 % 4294967296 + c) br % 4294967296)).take (i + 1)) + d * val (vs.take (i + 1)) := by
 obtain ⟨_, e⟩ := asT (low := d * vs.getD i 0 % 4294967296 + c) hu hb
 rw [aeB hi, yT us, yT vs, Nat.mul_add d, Nat.mul_left_comm d, Nat.pow_succ]
 generalize aoE (us.getD i 0) (d * vs.getD i 0 % 4294967296 + c) br / 9223372036854775808 = b2 at *
 generalize aoE (us.getD i 0) (d * vs.getD i 0 % 4294967296 + c) br % 4294967296 = z at *
 generalize us.getD i 0 = u at *
 generalize d * vs.getD i 0 = p at *
 generalize d * val (vs.take i) = dv at *
 generalize 4294967296 ^ i = B at *
 have e2 : u + 4294967296 * (p / 4294967296 + (p % 4294967296 + c) / 4294967296 + b2) = z + p + (c + br) := by omega
 have e3 : B * (u + 4294967296 * (p / 4294967296 + (p % 4294967296 + c) / 4294967296 + b2)) = B * (z + p + (c + br)) := by rw [e2]
 rw [Nat.mul_add, Nat.mul_add B, Nat.mul_add B, ← Nat.mul_assoc] at e3
 omega
theorem awD {p c : Nat} (hp : p ≤ 18446744065119617025) (hc : c < 4294967296) : p / 4294967296 + (p % 4294967296 + c) / 4294967296 < 4294967296 := by omega
theorem arO {d y : Nat} (hd : d < 4294967296) (hy : y < 4294967296) : d * y ≤ 18446744065119617025 := by
 have : d * y ≤ 4294967295 * 4294967295 := Nat.mul_le_mul (by omega) (by omega)
 exact this
theorem guess_ge {U V T v1 X : Nat} (hX : 0 < X) (hU : U < (T + 1) * X) (hV : v1 * X ≤ V) (h1 : 0 < v1) : U / V ≤ T / v1 := by
 rw [Nat.le_div_iff_mul_le h1]
 have h2 : U / V * V ≤ U := Nat.div_mul_le_self U V
 have h3 : U / V * (v1 * X) ≤ U / V * V := Nat.mul_le_mul_left _ hV
 have h4 : U / V * v1 * X < (T + 1) * X := by rw [Nat.mul_assoc]; omega
 have h5 := Nat.lt_of_mul_lt_mul_right h4
 omega
theorem bdW {U V d v1 v2 u2 r X T : Nat} (hX : 0 < X) (ht : d * v1 + r = T) (hU : U < ((T * 4294967296 + u2) + 1) * X) (hV : (v1 * 4294967296 + v2) * X ≤ V) (hx : r * 4294967296 + u2 < d * v2) : U / V < d := by
 have h2 : U / V * V ≤ U := Nat.div_mul_le_self U V
 have h3 : U / V * ((v1 * 4294967296 + v2) * X) ≤ U / V * V := Nat.mul_le_mul_left _ hV
 have h4 : U / V * (v1 * 4294967296 + v2) * X < ((T * 4294967296 + u2) + 1) * X := by rw [Nat.mul_assoc]; omega
 have h5 := Nat.lt_of_mul_lt_mul_right h4
 have h6 : T * 4294967296 + u2 < d * (v1 * 4294967296 + v2) := by
  rw [← ht, Nat.add_mul, Nat.mul_add, Nat.mul_assoc]; omega
 have h7 : U / V * (v1 * 4294967296 + v2) < d * (v1 * 4294967296 + v2) := by omega
 exact Nat.lt_of_mul_lt_mul_right h7
theorem biN {U V d v1 v2 u2 r X T : Nat} (hX : 0 < X) (hd : d < 4294967296) (hv1 : 2147483648 ≤ v1) (ht : d * v1 + r = T) (hU : (T * 4294967296 + u2) * X ≤ U) (hV : V < ((v1 * 4294967296 + v2) + 1) * X) (hV2 : (v1 * 4294967296 + v2) * X ≤ V) (hx : d * v2 ≤ r * 4294967296 + u2) : d ≤ U / V + 1 := by
 have h1 : d * (v1 * 4294967296 + v2) ≤ T * 4294967296 + u2 := by
  rw [← ht, Nat.add_mul, Nat.mul_add, Nat.mul_assoc]; omega
 have h2 : d * (v1 * 4294967296 + v2) * X ≤ U := Nat.le_trans (Nat.mul_le_mul_right _ h1) hU
 have h3 : d * V ≤ d * (((v1 * 4294967296 + v2) + 1) * X) := Nat.mul_le_mul_left _ (by omega)
 have h4 : d * (((v1 * 4294967296 + v2) + 1) * X) = d * (v1 * 4294967296 + v2) * X + d * X := by
  rw [Nat.add_mul, Nat.mul_add, Nat.one_mul, Nat.mul_assoc]
 have h5 : d * X ≤ V := by
  have : d * X ≤ (v1 * 4294967296 + v2) * X := Nat.mul_le_mul_right _ (by omega)
  omega
 have hV0 : 0 < V := by
  have : 0 < (v1 * 4294967296 + v2) * X := Nat.mul_pos (by omega) hX
  omega
 have h6 : d * V ≤ U + V := by omega
 have h7 : (d - 1) * V ≤ U := by rw [Nat.sub_mul, Nat.one_mul]; omega
 have h8 := (Nat.le_div_iff_mul_le hV0).2 h7
 omega
theorem bfO {U V d w b2 N : Nat} (hV : 0 < V) (hw : w < N) (hd1 : U / V ≤ d) (hd2 : d ≤ U / V + 1) (hU : U < N) (h : U + N * b2 = w + d * V) (hb : b2 ≤ 1) :
  (b2 = 0 → d = U / V ∧ w = U % V) ∧ (b2 = 1 → d = U / V + 1 ∧ (w + V) % N = U % V) := by
 have e := Nat.div_add_mod U V
 have hm := Nat.mod_lt U hV
 rw [Nat.mul_comm] at e
 generalize U / V = q at *
 generalize U % V = m at *
 rcases Nat.lt_or_ge d (q + 1) with h1 | h1
 ·have : d = q := by omega
  subst this
  refine ⟨fun h0 => ⟨rfl, ?_⟩, fun h0 => ?_⟩
  ·subst h0; omega
  ·subst h0; omega
 ·have : d = q + 1 := by omega
  subst this
  rw [Nat.add_mul, Nat.one_mul] at h
  refine ⟨fun h0 => ?_, fun h0 => ⟨rfl, ?_⟩⟩
  ·subst h0; omega
  ·subst h0
   have : w + V = m + N := by omega
   rw [this, Nat.add_mod_right, Nat.mod_eq_of_lt (by omega)]
section
open Go Go.RowKit

def bfN (vs : List Nat) (tl : Tail) (b o n cp d : Nat) (zs : List Nat) (H : Heap) : Nat → Env → Heap → Prop := fun k env H1 => ∃ (i c br : Nat) (ws : List Nat), i ≤ n ∧ ws.length = n ∧ Limbs ws ∧ c < 4294967296 ∧ br ≤ 1 ∧ (∀ j, i ≤ j → ws.getD j 0 = ((zs.drop o).take n).getD j 0) ∧ val (((zs.drop o).take n).take i) + 4294967296 ^ i * (c + br) = val (ws.take i) + d * val (vs.take i) ∧ (vs.length < i → c = 0) ∧ env = [(0, .mslice (some ⟨b, o, none⟩) n cp), (1, .slice 1 (U .u32 vs) tl), (2, .int .u64 (d : Int)), (7, .int .u64 (c : Int)), (8, .int .u64 (br : Int)), (14, .int .i64 (n : Int)), (15, .int .i64 (i : Int))] ∧ H1 = H.set b (.box 112 (U .u32 (mid zs o ws))) ∧ k = n - i

set_option maxRecDepth 100000 in
theorem awE (vs : List Nat) (tl : Tail) (hv : Limbs vs) (hl : vs.length ≤ 1000000) (b o n cp d : Nat) (hd : d < 4294967296) (hvn : vs.length < n) (zs : List Nat) (hz : Limbs zs) (hn : o + n ≤ zs.length) (hn2 : n ≤ 1000000) (H : Heap) (hb : H.objs b = some (.box 112 (U .u32 zs))) : ACall Tryz.prog 238 [.mslice (some ⟨b, o, none⟩) n cp, .slice 1 (U .u32 vs) tl, .int .u64 (d : Int)] H (fun y H' => ∃ (b2 : Nat) (ws : List Nat), b2 ≤ 1 ∧ ws.length = n ∧ Limbs ws ∧ val ((zs.drop o).take n) + 4294967296 ^ n * b2 = val ws + d * val vs ∧ y = .bool (decide (0 < b2)) ∧ H' = H.set b (.box 112 (U .u32 (mid zs o ws)))) := by
 refine ACall.of_body Tryz.func238 rfl Tryz.ntmps238 Tryz.results238 rfl ?_
 iterate 7 refine AX ?_
 refine .p rfl (zC (zG 0)) (.p rfl (zC (zG 0)) ?_)
 iterate 6 refine AX ?_
 refine .p rfl (aaQ Tryz.underlying170 (tm rfl)) ?_
 iterate 4 refine AX ?_
 refine AWP.loopW (bfN vs tl b o n cp d zs H) (n) ⟨0, 0, 0, ((zs.drop o).take n), Nat.zero_le _, by simp; omega, (hz.drop _).take _, by omega, by omega, fun j _ => rfl, by simp [val], fun h => rfl, rfl, (Heap.set_self (by rw [alB hn]; exact hb)).symm, rfl⟩ sX (Heap.le.refl _) ?_
 rintro _ _ _ ⟨i, c, br, ws, hi, hw, hwl, hc, hbr, hg, hval, hc0, rfl, rfl, hk⟩
 iterate 6 refine AX ?_
 refine AWP.cx rfl (fun hc16 => ?_) (fun hc16 => ?_)
 ·have hy := Limbs.getD hv i
  have hdy := arO hd hy
  have hal := asI (d * vs.getD i 0)
  have hal2 := asI (d * vs.getD i 0 % 4294967296 + c)
  have hcc := awD hdy hc
  have hu := Limbs.getD ((hz.drop o).take n) i
  have hml := adY (o := o) hw hn
  have hgi := hg i (Nat.le_refl i)
  have hgm := (axP (zs := zs) (o := o) (i := i) (by omega) (by omega : i < ws.length)).trans hgi
  have hgz := Limbs.getD (acX (o := o) hz hwl) (o + i)
  obtain ⟨hx1, hx2⟩ := asT (low := (d * vs.getD i 0 % 4294967296 + c)) hu hbr
  have hst := bbY (by omega : i < ws.length) hgi hu hbr hval
  have hX : aoE (((zs.drop o).take n).getD i 0) (d * vs.getD i 0 % 4294967296 + c) br < 18446744073709551616 := Nat.mod_lt _ (by decide)
  iterate 12 refine AX ?_
  refine .p rfl (zC (zG 0)) ?_
  iterate 2 refine AX ?_
  refine AWP.seqToL [(10, .int .u64 ((d * vs.getD i 0 : Nat) : Int))] [0, 1, 2, 7, 8, 14, 15, 9] ?_ ?_
  ·iterate 8 refine AX ?_
   refine AWP.cx rfl (fun hc21 => ?_) (fun hc21 => ?_)
   ·iterate 4 refine AX ?_
    refine .p rfl (zV (i) Tryz.underlying170 Tryz.sizeOf112 (tm rfl) (tm rfl) (by omega) (by omega)) ?_
    refine AX ?_
    refine .p rfl (zT Tryz.underlying112 Tryz.underlying30 (tm rfl) (wrapN64 (by omega))) (.p rfl (acO (tm rfl) (tm rfl) (by omega)) ?_)
    iterate 2 refine AX ?_
    exact ⟨rfl, (zW rfl (by rfl) sX), rfl⟩
   ·refine AX ?_
    exact ⟨rfl, (zW rfl (by (rw [aeI (by omega), Nat.mul_zero])) sX), rfl⟩
  ·refine AWP.sub [(10, _), (0, _), (1, _), (2, _), (7, _), (8, _), (14, _), (15, _), (9, _)] sX ?_
   refine AWP.seqToL [(11, .int .u64 (((d * vs.getD i 0 % 4294967296 + c) : Nat) : Int))] [10, 0, 1, 2, 7, 8, 14, 15, 9] ?_ ?_
   ·-- region 8
    iterate 2 refine AX ?_
    refine .p rfl (abG (tm rfl) (zG 4294967295) (by omega) (by omega)) ?_
    refine AX ?_
    refine .p rfl (yD (tm rfl) (tm rfl) (by omega)) ?_
    iterate 2 refine AX ?_
    exact ⟨rfl, (zW rfl (by rw [asI]) sX), rfl⟩
   ·refine AWP.sub [(11, _), (10, _), (0, _), (1, _), (2, _), (7, _), (8, _), (14, _), (15, _), (9, _)] sX ?_
    refine AWP.seqToL [(7, .int .u64 ((d * vs.getD i 0 / 4294967296 + (d * vs.getD i 0 % 4294967296 + c) / 4294967296 : Nat) : Int))] [11, 0, 1, 2, 8, 14, 15, 9] ?_ ?_
    ·-- region 9
     iterate 2 refine AX ?_
     refine .p rfl (yG (tm rfl) (zG 32) (by omega)) ?_
     refine AX ?_
     refine .p rfl (yG (tm rfl) (zG 32) (by omega)) (.p rfl (yD (tm rfl) (tm rfl) (by omega)) ?_)
     iterate 2 refine AX ?_
     exact ⟨rfl, (zW rfl (by rfl) sX), rfl⟩
    ·refine AWP.sub [(7, _), (11, _), (0, _), (1, _), (2, _), (8, _), (14, _), (15, _), (9, _)] sX ?_
     refine AWP.seqToL [(12, .int .u64 ((aoE (((zs.drop o).take n).getD i 0) (d * vs.getD i 0 % 4294967296 + c) br : Nat) : Int))] [7, 0, 1, 2, 8, 14, 15, 9] ?_ ?_
     ·-- region 10
      iterate 3 refine AX ?_
      refine .p rfl (abB (i) Tryz.underlying170 Tryz.sizeOf112 (tm rfl) (tm rfl) (by omega) (by omega)) (.e rfl (qI Tryz.isAgg112 (tm rfl) (Heap.objs_set_same _ _ _) (by omega)) (.p rfl (zT Tryz.underlying112 Tryz.underlying30 (tm rfl) (wrapN64 (by omega))) ?_))
      refine AX ?_
      refine .p rfl (abG (tm rfl) (zG 4294967295) (by omega) (by omega)) (.p rfl (amL (tm rfl) (tm rfl) (by omega)) ?_)
      refine AX ?_
      refine .p rfl (amL (tm rfl) (tm rfl) (by omega)) ?_
      iterate 2 refine AX ?_
      exact ⟨rfl, (zW rfl (by rw [hgm, asI]; rfl) sX), rfl⟩
     ·refine AWP.sub [(12, _), (7, _), (0, _), (1, _), (2, _), (8, _), (14, _), (15, _), (9, _)] sX ?_
      iterate 4 refine AX ?_
      refine .p rfl (yL Tryz.underlying30 Tryz.underlying112 rfl (tm rfl)) ?_
      refine AX ?_
      refine .p rfl (yG (tm rfl) (zG 63) (by assumption)) (.p rfl (abB (i) Tryz.underlying170 Tryz.sizeOf112 (tm rfl) (tm rfl) (by omega) (by omega)) (.e0 (yZ Tryz.sizeOf112 (tm rfl) (tm rfl) (Heap.objs_set_same _ _ _) (by omega)) ?_))
      try first | rw [Heap.set_set] | rw [Heap.set_under (by assumption)]
      iterate 5 refine AX ?_
      refine .p rfl (zK (tm rfl) zF (by omega)) ?_
      iterate 3 refine AX ?_
      refine Round.mk (J := bfN vs tl b o n cp d zs H) ⟨i + 1, _, _, _, by omega, by simpa using hw, Limbs.set hwl (Nat.mod_lt _ (by decide)), hcc, hx1, fun j hj => by rw [getD_set_ne (by omega)]; exact hg j (by omega), hst, fun h => by rw [aeI (by omega), Nat.mul_zero]; omega, rfl, by rw [arR (by omega) (by omega)]; rfl, rfl⟩ sX (Heap.le.refl _) (by omega)
 ·iterate 8 refine AX ?_
  refine .p rfl (qK (tm rfl) (zG 0)) ?_
  iterate 4 refine AX ?_
  refine Ret.go (.cons (.tmp _ _ rfl) .nil) _ (Heap.le.refl _) ?_
  have hin : i = n := by omega
  subst hin
  rw [hc0 hvn, Nat.zero_add, List.take_of_length_le (by simp; omega), List.take_of_length_le (l := ws) (by omega), List.take_of_length_le (l := vs) (by omega)] at hval
  exact ⟨br, ws, hbr, hw, hwl, hval, by simp [yP], rfl⟩

def biQ (vs : List Nat) (tl : Tail) (b o n cp : Nat) (zs : List Nat) (H : Heap) : Nat → Env → Heap → Prop := fun k env H1 => ∃ (i c : Nat) (ws : List Nat), i ≤ n ∧ ws.length = n ∧ Limbs ws ∧ c ≤ 1 ∧ (∀ j, i ≤ j → ws.getD j 0 = ((zs.drop o).take n).getD j 0) ∧ val (ws.take i) + 4294967296 ^ i * c = val (((zs.drop o).take n).take i) + val (vs.take i) ∧ env = [(0, .mslice (some ⟨b, o, none⟩) n cp), (1, .slice 1 (U .u32 vs) tl), (4, .int .u32 (c : Int)), (8, .int .i64 (n : Int)), (9, .int .i64 (i : Int))] ∧ H1 = H.set b (.box 112 (U .u32 (mid zs o ws))) ∧ k = n - i

set_option maxRecDepth 100000 in
theorem ayD (vs : List Nat) (tl : Tail) (hv : Limbs vs) (hl : vs.length ≤ 1000000) (b o n cp : Nat) (hvn : vs.length < n) (zs : List Nat) (hz : Limbs zs) (hn : o + n ≤ zs.length) (hn2 : n ≤ 1000000) (H : Heap) (hb : H.objs b = some (.box 112 (U .u32 zs))) : ACall Tryz.prog 239 [.mslice (some ⟨b, o, none⟩) n cp, .slice 1 (U .u32 vs) tl] H (fun _ H' => ∃ (ws : List Nat), ws.length = n ∧ Limbs ws ∧ val ws = (val ((zs.drop o).take n) + val vs) % 4294967296 ^ n ∧ H' = H.set b (.box 112 (U .u32 (mid zs o ws)))) := by
 refine ACall.of_body Tryz.func239 rfl Tryz.ntmps239 Tryz.results239 rfl ?_
 iterate 2 refine AX ?_
 refine .p rfl (zC (zG 0)) ?_
 iterate 5 refine AX ?_
 refine .p rfl (aaQ Tryz.underlying170 (tm rfl)) ?_
 iterate 4 refine AX ?_
 refine AWP.loopW (biQ vs tl b o n cp zs H) (n) ⟨0, 0, ((zs.drop o).take n), Nat.zero_le _, by simp; omega, (hz.drop _).take _, by omega, fun j _ => rfl, by simp [val], rfl, (Heap.set_self (by rw [alB hn]; exact hb)).symm, rfl⟩ sX (Heap.le.refl _) ?_
 rintro _ _ _ ⟨i, c, ws, hi, hw, hwl, hc, hg, hval, rfl, rfl, hk⟩
 iterate 6 refine AX ?_
 refine AWP.cx rfl (fun hc10 => ?_) (fun hc10 => ?_)
 ·have hy := Limbs.getD hv i
  have hu := Limbs.getD ((hz.drop o).take n) i
  have hml := adY (o := o) hw hn
  have hgi := hg i (Nat.le_refl i)
  have hgm := (axP (zs := zs) (o := o) (i := i) (by omega) (by omega : i < ws.length)).trans hgi
  have hgz := Limbs.getD (acX (o := o) hz hwl) (o + i)
  iterate 12 refine AX ?_
  refine .p rfl (zC (zG 0)) ?_
  iterate 2 refine AX ?_
  refine AWP.seqToL [(6, .int .u32 ((vs.getD i 0 : Nat) : Int))] [0, 1, 4, 8, 9, 5] ?_ ?_
  ·iterate 8 refine AX ?_
   refine AWP.cx rfl (fun hc15 => ?_) (fun hc15 => ?_)
   ·iterate 3 refine AX ?_
    refine .p rfl (zV (i) Tryz.underlying170 Tryz.sizeOf112 (tm rfl) (tm rfl) (by omega) (by omega)) ?_
    iterate 3 refine AX ?_
    exact ⟨rfl, (zW rfl (by rfl) sX), rfl⟩
   ·refine AX ?_
    exact ⟨rfl, (zW rfl (by (rw [aeI (by omega)] <;> rfl)) sX), rfl⟩
  ·refine AWP.sub [(6, _), (0, _), (1, _), (4, _), (8, _), (9, _), (5, _)] sX ?_
   iterate 5 refine AX ?_
   refine .p rfl (abB (i) Tryz.underlying170 Tryz.sizeOf112 (tm rfl) (tm rfl) (by omega) (by omega)) (.e rfl (qI Tryz.isAgg112 (tm rfl) (Heap.objs_set_same _ _ _) (by omega)) ?_)
   iterate 2 refine AX ?_
   refine .cl rfl Tryz.call236 (evs3 rfl rfl rfl) (aoB _ _ _ (by assumption) (by assumption) (by omega) _) ?_
   iterate 3 refine AX ?_
   refine .p rfl (abB (i) Tryz.underlying170 Tryz.sizeOf112 (tm rfl) (tm rfl) (by omega) (by omega)) (.e0 (yZ Tryz.sizeOf112 (tm rfl) (tm rfl) (Heap.objs_set_same _ _ _) (by omega)) ?_)
   try first | rw [Heap.set_set] | rw [Heap.set_under (by assumption)]
   iterate 5 refine AX ?_
   refine .p rfl (zK (tm rfl) zF (by omega)) ?_
   iterate 3 refine AX ?_
   rw [hgm]
   refine Round.mk (J := biQ vs tl b o n cp zs H) ⟨i + 1, _, _, by omega, by simpa using hw, Limbs.set hwl (Nat.mod_lt _ (by decide)), by omega, fun j hj => by rw [getD_set_ne (by omega)]; exact hg j (by omega), bbJ (by omega) hval, rfl, by rw [arR (by omega) (by omega)], rfl⟩ sX (Heap.le.refl _) (by omega)
 ·iterate 4 refine AX ?_
  refine Ret.go' .nil _ (Heap.le.refl _) ?_
  have hin : i = n := by omega
  subst hin
  rw [List.take_of_length_le (l := ((zs.drop o).take i)) (by simp; omega), List.take_of_length_le (l := vs) (by omega)] at hval
  exact ⟨ws, hw, hwl, azC hwl hw hval, rfl⟩

end
theorem aeV {zs : List Nat} {k : Nat} (h : k < zs.length) : val (zs.drop k) = zs.getD k 0 + 4294967296 * val (zs.drop (k + 1)) := by
 rw [List.drop_eq_getElem_cons h, val, List.getD_eq_getElem?_getD, List.getElem?_eq_getElem h]; rfl
theorem mid_mid {zs ws xs : List Nat} {o : Nat} (hl : ws.length = xs.length) (ho : o ≤ zs.length) : mid (mid zs o ws) o xs = mid zs o xs := by
 have e : (zs.take o).length = o := by rw [List.length_take]; omega
 unfold mid
 congr 1
 ·congr 1
  rw [List.append_assoc, List.take_append_of_le_length (by omega), List.take_take, Nat.min_self]
 ·rw [List.drop_append, List.drop_of_length_le (by simp; omega), List.nil_append, List.drop_drop, hl]
  congr 1
  simp; omega
theorem val_mid {zs ws : List Nat} {o : Nat} (ho : o ≤ zs.length) : val (mid zs o ws) = val (zs.take o) + 4294967296 ^ o * (val ws + 4294967296 ^ ws.length * val (zs.drop (o + ws.length))) := by
 unfold mid
 rw [List.append_assoc, qC, qC, List.length_take, Nat.min_eq_left ho]
theorem asS {l M X : Nat} (h : l < X) : M * X ≤ l + X * M ∧ l + X * M < (M + 1) * X := by
 rw [Nat.mul_comm X, Nat.add_mul, Nat.one_mul]; omega
theorem top2 {vs : List Nat} {n : Nat} (hn : 2 ≤ n) (hv : vs.length = n) (hl : Limbs vs) :
  (vs.getD (n - 1) 0 * 4294967296 + vs.getD (n - 2) 0) * 4294967296 ^ (n - 2) ≤ val vs ∧ val vs < (vs.getD (n - 1) 0 * 4294967296 + vs.getD (n - 2) 0 + 1) * 4294967296 ^ (n - 2) := by
 have h1 := aeD (xs := vs) (k := n - 2) (by omega)
 have h2 := ajG hl (k := n - 2) (by omega)
 have h3 := aeV (zs := vs) (k := n - 2) (by omega)
 have h4 := aeV (zs := vs) (k := n - 2 + 1) (by omega)
 rw [show n - 2 + 1 = n - 1 by omega] at *
 rw [List.drop_of_length_le (i := n - 1 + 1) (by omega), val] at h4
 rw [h3, h4] at h1
 generalize 4294967296 ^ (n - 2) = X at *
 generalize vs.getD (n - 1) 0 = a at *
 generalize vs.getD (n - 2) 0 = b at *
 rw [show b + 4294967296 * (a + 4294967296 * 0) = a * 4294967296 + b by omega] at h1
 rw [h1]
 exact asS h2
theorem top3 {us : List Nat} {n : Nat} (hn : 2 ≤ n) (hv : us.length = n + 1) (hl : Limbs us) :
  ((us.getD n 0 * 4294967296 + us.getD (n - 1) 0) * 4294967296 + us.getD (n - 2) 0) * 4294967296 ^ (n - 2) ≤ val us ∧ val us < ((us.getD n 0 * 4294967296 + us.getD (n - 1) 0) * 4294967296 + us.getD (n - 2) 0 + 1) * 4294967296 ^ (n - 2) := by
 have h1 := aeD (xs := us) (k := n - 2) (by omega)
 have h2 := ajG hl (k := n - 2) (by omega)
 have h3 := aeV (zs := us) (k := n - 2) (by omega)
 have h4 := aeV (zs := us) (k := n - 2 + 1) (by omega)
 have h5 := aeV (zs := us) (k := n - 2 + 1 + 1) (by omega)
 rw [List.drop_of_length_le (i := n - 2 + 1 + 1 + 1) (by omega), val] at h5
 rw [h3, h4, h5] at h1
 rw [show n - 2 + 1 + 1 = n by omega, show n - 2 + 1 = n - 1 by omega] at h1
 generalize 4294967296 ^ (n - 2) = X at *
 generalize us.getD n 0 = c at *
 generalize us.getD (n - 1) 0 = a at *
 generalize us.getD (n - 2) 0 = b at *
 rw [show b + 4294967296 * (a + 4294967296 * (c + 4294967296 * 0)) = (c * 4294967296 + a) * 4294967296 + b by omega] at h1
 rw [h1]
 exact asS h2
theorem atD {zs : List Nat} {j n V : Nat} (hz : Limbs zs) (hj : j + (n + 1) ≤ zs.length) (hV : V < 4294967296 ^ n) (h : val zs < V * 4294967296 ^ (j + 1)) :
  val (zs.drop (j + (n + 1))) = 0 ∧ val zs = val (zs.take j) + 4294967296 ^ j * val ((zs.drop j).take (n + 1)) := by
 have h1 := aeD (xs := zs) (k := j) (by omega)
 have h2 := aeD (xs := zs.drop j) (k := n + 1) (by simp; omega)
 rw [List.drop_drop] at h2
 have h3 : V * 4294967296 ^ (j + 1) ≤ 4294967296 ^ j * 4294967296 ^ (n + 1) := by
  rw [Nat.pow_succ, Nat.pow_succ, Nat.mul_comm V, Nat.mul_assoc, Nat.mul_comm 4294967296 V]
  exact Nat.mul_le_mul_left _ (Nat.mul_le_mul_right _ (Nat.le_of_lt hV))
 have h0 : val (zs.drop (j + (n + 1))) = 0 := by
  rcases Nat.eq_zero_or_pos (val (zs.drop (j + (n + 1)))) with h4 | h4
  ·exact h4
  ·exfalso
   have h5 : 4294967296 ^ (n + 1) * 1 ≤ 4294967296 ^ (n + 1) * val (zs.drop (j + (n + 1))) := Nat.mul_le_mul_left _ h4
   have h6 : 4294967296 ^ j * 4294967296 ^ (n + 1) ≤ 4294967296 ^ j * val (zs.drop j) := Nat.mul_le_mul_left _ (by omega)
   omega
 rw [h0, Nat.mul_zero, Nat.add_zero] at h2
 exact ⟨h0, by rw [h1, h2]⟩
theorem biA {zs ws qs : List Nat} {j n V A : Nat} (hz : Limbs zs) (hj : j + (n + 1) ≤ zs.length) (hV : V < 4294967296 ^ n) (h0 : 0 < V) (h : val zs < V * 4294967296 ^ (j + 1)) (hw : ws.length = n + 1) (hv : val ws = val ((zs.drop j).take (n + 1)) % V)
  (hq : j < qs.length) (hA : A = val (qs.drop (j + 1)) * V * 4294967296 ^ (j + 1) + val zs) :
  val (mid zs j ws) < V * 4294967296 ^ j ∧ A = val ((qs.set j (val ((zs.drop j).take (n + 1)) / V)).drop j) * V * 4294967296 ^ j + val (mid zs j ws) := by
 obtain ⟨hr, he⟩ := atD hz hj hV h
 have ht := ajG hz (k := j) (by omega)
 rw [val_mid (by omega), hw, hr, Nat.mul_zero, Nat.add_zero, hv]
 have hq2 : val ((qs.set j (val ((zs.drop j).take (n + 1)) / V)).drop j) = val ((zs.drop j).take (n + 1)) / V + 4294967296 * val (qs.drop (j + 1)) := by
  rw [aeV (by simpa using hq), arX hq, List.drop_set_of_lt (by omega)]
 rw [hq2]
 generalize val ((zs.drop j).take (n + 1)) = U at *
 have hm := Nat.mod_lt U h0
 have hd := Nat.div_add_mod U V
 constructor
 ·have : 4294967296 ^ j * (U % V + 1) ≤ 4294967296 ^ j * V := Nat.mul_le_mul_left _ hm
  rw [Nat.mul_add, Nat.mul_one] at this
  rw [Nat.mul_comm V]
  omega
 ·rw [hA, he]
  generalize val (qs.drop (j + 1)) = Q
  generalize U / V = q at *
  generalize U % V = m at *
  rw [← hd, Nat.pow_succ]
  generalize 4294967296 ^ j = X
  generalize val (zs.take j) = l
  have e1 : (q + 4294967296 * Q) * V * X = X * (V * q) + Q * V * (X * 4294967296) := by
   rw [Nat.add_mul, Nat.add_mul, Nat.mul_comm X (V * q), Nat.mul_comm V q]
   congr 1
   rw [Nat.mul_assoc 4294967296, Nat.mul_assoc 4294967296, Nat.mul_comm X, ← Nat.mul_assoc (Q * V), Nat.mul_comm (Q * V) 4294967296, Nat.mul_assoc 4294967296]
  rw [e1, Nat.mul_add]
  omega
theorem piece_lt {zs : List Nat} {j n V : Nat} (hz : Limbs zs) (hj : j + (n + 1) ≤ zs.length) (hV : V < 4294967296 ^ n) (h : val zs < V * 4294967296 ^ (j + 1)) : val ((zs.drop j).take (n + 1)) < V * 4294967296 := by
 obtain ⟨_, he⟩ := atD hz hj hV h
 have : 4294967296 ^ j * val ((zs.drop j).take (n + 1)) < 4294967296 ^ j * (V * 4294967296) := by
  rw [Nat.pow_succ, ← Nat.mul_assoc, Nat.mul_comm V, Nat.mul_assoc] at h
  omega
 exact Nat.lt_of_mul_lt_mul_left this
section
open Go Go.RowKit

def aqI (A V j : Nat) (zs qs : List Nat) : Prop := val zs < V * 4294967296 ^ j ∧ A = val (qs.drop j) * V * 4294967296 ^ j + val zs
def bkA (vs : List Nat) (n : Nat) : Prop := 2147483648 * 4294967296 ^ (n - 1) ≤ val vs ∧ val vs < 4294967296 ^ n
theorem ajK {x : Nat} (h : x < 4294967296) : x * 2 ^ 32 < 18446744073709551616 := by
 rw [show (2 : Nat) ^ 32 = 4294967296 by decide]; omega
theorem d_fits {d v r T : Nat} (h : d * v + r = T) (hT : T < 18446744073709551616) (hv : 0 < v) : d < 18446744073709551616 := by
 have : d * 1 ≤ d * v := Nat.mul_le_mul_left _ hv
 omega
theorem rv_fits {r v : Nat} (h : r < 4294967296) (k : v < 4294967296) : r + v < 18446744073709551616 := by omega
theorem or_big {x y : Nat} (h : x < 4294967296) (k : y < 4294967296) : x * 2 ^ 32 ||| y < 18446744073709551616 := by
 rw [ahG (k := 32) (Nat.lt_of_lt_of_eq k (by decide)), show (2 : Nat) ^ 32 = 4294967296 by decide]; omega
theorem big32 {x : Nat} (h : x < 4294967296) : x < 18446744073709551616 := by omega
theorem top_big {x y : Nat} (h : x < 4294967296) (k : y < 4294967296) : x * 4294967296 + y < 18446744073709551616 := by omega
theorem norm_ok {y n s : Nat} (hy : 0 < y) (hn : (zE y).length = n) (hs : 32 - yI ((zE y).getD (n - 1) 0) = s) : s < 32 ∧ 2147483648 * 4294967296 ^ (n - 1) ≤ y * 2 ^ s ∧ y * 2 ^ s < 4294967296 ^ n := by
 have h1 := agX hy
 rw [hn] at h1
 have h2 : 0 < yI y := by rw [blen_pos hy]; omega
 have h3 := (yW (n := (zE y).getD (n - 1) 0) (k := 32)).2 (Limbs.getD (zJ y) _)
 have hn0 : 0 < n := by rw [← hn, qA hy]; simp
 have h4 : y < 2 ^ yI y := yW.1 (Nat.le_refl _)
 have h5 : 2 ^ (yI y - 1) ≤ y := by
  rcases Nat.lt_or_ge y (2 ^ (yI y - 1)) with h | h
  ·have := yW.2 h; omega
  ·exact h
 have h6 : 0 < yI ((zE y).getD (n - 1) 0) := by
  rcases Nat.eq_zero_or_pos (yI ((zE y).getD (n - 1) 0)) with h | h
  ·exfalso
   have h7 := yW.1 (Nat.le_of_eq h)
   have h8 : (zE y).getD (n - 1) 0 = 0 := by simpa using h7
   have h9 := acM (xs := zE y) (k := n - 1) (by omega)
   rw [if_pos h8, List.take_of_length_le (by omega), afI, hn] at h9
   have h10 := qV ((zE y).take (n - 1))
   rw [← h9, List.length_take] at h10
   omega
  ·exact h
 have e1 : (4294967296 : Nat) ^ n = 2 ^ (yI y + s) := by rw [show (4294967296 : Nat) = 2 ^ 32 by decide, ← Nat.pow_mul]; congr 1; omega
 have e2 : 2147483648 * 4294967296 ^ (n - 1) = 2 ^ (yI y - 1 + s) := by rw [show (4294967296 : Nat) = 2 ^ 32 by decide, show (2147483648 : Nat) = 2 ^ 31 by decide, ← Nat.pow_mul, ← Nat.pow_add]; congr 1; omega
 refine ⟨by omega, ?_, ?_⟩
 ·rw [e2, Nat.pow_add]; exact Nat.mul_le_mul_right _ h5
 ·rw [e1, Nat.pow_add]; exact Nat.mul_lt_mul_of_pos_right h4 (Nat.pow_pos (by decide))
theorem bdM {x y s n m la : Nat} (hx : x < 4294967296 ^ la) (hs : s < 32) (hm : la = n + m) (hn : 0 < n) (hV : 2147483648 * 4294967296 ^ (n - 1) ≤ y * 2 ^ s) : x * 2 ^ s < y * 2 ^ s * 4294967296 ^ (m + 1) ∧ x * 2 ^ s < 4294967296 ^ (la + 1) := by
 have h1 : 2 ^ s ≤ 2 ^ 31 := Nat.pow_le_pow_right (by decide) (by omega)
 have h2 : x * 2 ^ s < 4294967296 ^ la * 2147483648 := Nat.mul_lt_mul_of_lt_of_le hx h1 (by decide)
 constructor
 ·have h3 : 4294967296 ^ la * 2147483648 ≤ y * 2 ^ s * 4294967296 ^ (m + 1) := by
   rw [show 4294967296 ^ la = 4294967296 ^ (n - 1) * 4294967296 ^ (m + 1) by rw [← Nat.pow_add]; congr 1; omega, Nat.mul_right_comm]
   exact Nat.mul_le_mul_right _ (by rw [Nat.mul_comm]; exact hV)
  exact Nat.lt_of_lt_of_le h2 h3
 ·rw [Nat.pow_succ]
  exact Nat.lt_of_lt_of_le h2 (Nat.mul_le_mul_left _ (by decide))
theorem len_mono {x y : Nat} (h : y ≤ x) : (zE y).length ≤ (zE x).length := qG.2 (Nat.lt_of_le_of_lt h (qG.1 (Nat.le_refl _)))
theorem long_end {x y s V Q R : Nat} (hV : V = y * 2 ^ s) (hlt : R < V) (hA : x * 2 ^ s = Q * V + R) : Q = x / y ∧ R = x % y * 2 ^ s := by
 have h1 : x * 2 ^ s / V = Q := by rw [hA, Nat.mul_comm, Nat.mul_add_div (by omega), Nat.div_eq_of_lt hlt, Nat.add_zero]
 have h2 : x * 2 ^ s % V = R := by rw [hA, Nat.mul_comm, Nat.mul_add_mod, Nat.mod_eq_of_lt hlt]
 rw [hV, Nat.mul_div_mul_right _ _ (Nat.pow_pos (by decide))] at h1
 rw [hV, Nat.mul_mod_mul_right] at h2
 exact ⟨h1.symm, h2.symm⟩
theorem Heap.fresh_inv {H : Heap} {b c : Nat} {x : AObj} (h : (H.set b x).objs c = none) : H.objs c = none := by
 rwa [Heap.objs_set_ne _ _ (Ne.symm (Heap.fresh_ne h))] at h
theorem bfP {rs A : List Nat} {i v : Nat} (hi : i < rs.length) (hA : i < A.length) (h : rs.take i = A.take i) (hv : v = A.getD i 0) : (rs.set i v).take (i + 1) = A.take (i + 1) := by
 subst hv
 have h1 : i < (rs.set i (A.getD i 0)).length := by simpa using hi
 rw [← List.take_append_getElem h1, ← List.take_append_getElem hA, List.take_set_of_le (Nat.le_refl _), h, List.getElem_set_self, List.getD_eq_getElem?_getD, List.getElem?_eq_getElem hA]; rfl
theorem beI {U V T u2 v1 v2 X : Nat} (hU1 : (T * 4294967296 + u2) * X ≤ U) (hU2 : U < (T * 4294967296 + u2 + 1) * X) (hV1 : (v1 * 4294967296 + v2) * X ≤ V) (hV2 : V < (v1 * 4294967296 + v2 + 1) * X) (hpl : U < V * 4294967296)
  (hu2 : u2 < 4294967296) (hv2 : v2 < 4294967296) (hV : 2147483648 * (4294967296 * X) ≤ V) (hX : 0 < X) :
  2147483648 ≤ v1 ∧ T < (v1 + 1) * 4294967296 ∧ 0 < V ∧ U / V < 4294967296 ∧ U / V ≤ T / v1 ∧ (∀ d r, d * v1 + r = T → r * 4294967296 + u2 < d * v2 → U / V < d) ∧ (∀ d r, d < 4294967296 → d * v1 + r = T → d * v2 ≤ r * 4294967296 + u2 → d ≤ U / V + 1) := by
 have hv1 : 2147483648 ≤ v1 := by
  have h1 : 2147483648 * 4294967296 * X < (v1 * 4294967296 + v2 + 1) * X := by rw [Nat.mul_assoc]; omega
  have h2 := Nat.lt_of_mul_lt_mul_right h1
  omega
 have hV0 : 0 < V := by
  have : 0 < (v1 * 4294967296 + v2) * X := Nat.mul_pos (by omega) hX
  omega
 refine ⟨hv1, ?_, hV0, ?_, ?_, ?_, ?_⟩
 ·have h1 : (T * 4294967296 + u2) * X < ((v1 * 4294967296 + v2 + 1) * 4294967296) * X := by
   rw [Nat.mul_right_comm _ 4294967296 X]
   omega
  have h2 := Nat.lt_of_mul_lt_mul_right h1
  omega
 ·rw [Nat.div_lt_iff_lt_mul hV0, Nat.mul_comm]; exact hpl
 ·refine guess_ge (X := 4294967296 * X) (by omega) ?_ ?_ (by omega)
  ·have h1 : (T * 4294967296 + u2 + 1) * X ≤ ((T + 1) * 4294967296) * X := Nat.mul_le_mul_right _ (by omega)
   rw [Nat.mul_assoc (T + 1)] at h1
   omega
  ·have h1 : (v1 * 4294967296) * X ≤ (v1 * 4294967296 + v2) * X := Nat.mul_le_mul_right _ (by omega)
   rw [Nat.mul_assoc v1] at h1
   omega
 ·intro d r hdr hx
  exact bdW hX hdr hU2 hV1 hx
 ·intro d r hd hdr hx
  exact biN hX hd hv1 hdr hU1 hV2 hV1 hx
theorem ayE {zs vs : List Nat} {j n : Nat} (hn : 2 ≤ n) (hz : Limbs zs) (hj : j + (n + 1) ≤ zs.length) (hvl : vs.length = n) (hv : Limbs vs) {A : Nat} {qs : List Nat} (hN : bkA vs n) (hO : aqI A (val vs) (j + 1) zs qs) :
  2147483648 ≤ vs.getD (n - 1) 0 ∧ zs.getD (j + n) 0 * 4294967296 + zs.getD (j + (n - 1)) 0 < (vs.getD (n - 1) 0 + 1) * 4294967296 ∧ 0 < val vs ∧ val ((zs.drop j).take (n + 1)) / val vs < 4294967296 ∧
  val ((zs.drop j).take (n + 1)) / val vs ≤ (zs.getD (j + n) 0 * 4294967296 + zs.getD (j + (n - 1)) 0) / vs.getD (n - 1) 0 ∧
  (∀ d r, d * vs.getD (n - 1) 0 + r = zs.getD (j + n) 0 * 4294967296 + zs.getD (j + (n - 1)) 0 → r * 4294967296 + zs.getD (j + (n - 2)) 0 < d * vs.getD (n - 2) 0 → val ((zs.drop j).take (n + 1)) / val vs < d) ∧
  (∀ d r, d < 4294967296 → d * vs.getD (n - 1) 0 + r = zs.getD (j + n) 0 * 4294967296 + zs.getD (j + (n - 1)) 0 → d * vs.getD (n - 2) 0 ≤ r * 4294967296 + zs.getD (j + (n - 2)) 0 → d ≤ val ((zs.drop j).take (n + 1)) / val vs + 1) := by
 obtain ⟨hV, hVn⟩ := hN
 obtain ⟨h, _⟩ := hO
 have hPl : ((zs.drop j).take (n + 1)).length = n + 1 := by simp; omega
 have hPL : Limbs ((zs.drop j).take (n + 1)) := (hz.drop _).take _
 obtain ⟨hU1, hU2⟩ := top3 hn hPl hPL
 obtain ⟨hV1, hV2⟩ := top2 hn hvl hv
 rw [aeU (by omega), aeU (by omega), aeU (by omega)] at hU1 hU2
 have hpl := piece_lt (j := j) hz hj hVn h
 have hu2 := Limbs.getD hz (j + (n - 2))
 have hv2 := Limbs.getD hv (n - 2)
 have hXe : 4294967296 ^ (n - 1) = 4294967296 * 4294967296 ^ (n - 2) := by rw [← Nat.pow_succ', show (n - 2).succ = n - 1 by omega]
 have hX : 0 < 4294967296 ^ (n - 2) := Nat.pow_pos (by decide)
 rw [hXe] at hV
 exact beI hU1 hU2 hV1 hV2 hpl hu2 hv2 hV hX
theorem ayU {zs ws : List Nat} {j n d b2 V : Nat} (hz : Limbs zs) (hj : j + (n + 1) ≤ zs.length) (hV : 0 < V) (hw : ws.length = n + 1) (hwL : Limbs ws) (hd1 : val ((zs.drop j).take (n + 1)) / V ≤ d) (hd2 : d ≤ val ((zs.drop j).take (n + 1)) / V + 1) (h : val ((zs.drop j).take (n + 1)) + 4294967296 ^ (n + 1) * b2 = val ws + d * V) (hb : b2 ≤ 1) :
  (b2 = 0 → d = val ((zs.drop j).take (n + 1)) / V ∧ val ws = val ((zs.drop j).take (n + 1)) % V) ∧ (b2 = 1 → d = val ((zs.drop j).take (n + 1)) / V + 1 ∧ (val ws + V) % 4294967296 ^ (n + 1) = val ((zs.drop j).take (n + 1)) % V) := by
 have hPl : ((zs.drop j).take (n + 1)).length = n + 1 := by simp; omega
 have hPL : Limbs ((zs.drop j).take (n + 1)) := (hz.drop _).take _
 have hU3 := aeC hPL
 have hwlt := aeC hwL
 rw [hPl] at hU3
 rw [hw] at hwlt
 exact bfO hV hwlt hd1 hd2 hU3 h hb
theorem bdN {zs ws qs vs : List Nat} {j n A : Nat} (hz : Limbs zs) (hj : j + (n + 1) ≤ zs.length) (hN : bkA vs n) (h0 : 0 < val vs) (hO : aqI A (val vs) (j + 1) zs qs) (hw : ws.length = n + 1) (hv : val ws = val ((zs.drop j).take (n + 1)) % val vs) (hq : j < qs.length) :
  aqI A (val vs) j (mid zs j ws) (qs.set j (val ((zs.drop j).take (n + 1)) / val vs)) := biA hz hj hN.2 h0 hO.1 hw hv hq hO.2
theorem biB {x y s : Nat} {vs zs qs : List Nat} (hV : val vs = y * 2 ^ s) (hO : aqI (x * 2 ^ s) (val vs) 0 zs qs) : val zs < val vs ∧ val qs = x / y ∧ val zs = x % y * 2 ^ s := by
 obtain ⟨h1, h2⟩ := hO
 rw [Nat.pow_zero, Nat.mul_one] at h1
 rw [Nat.pow_zero, Nat.mul_one, List.drop_zero] at h2
 obtain ⟨h3, h4⟩ := long_end hV h1 h2
 exact ⟨h1, h3, h4⟩
theorem bdP {x y s n m la : Nat} {vs us : List Nat} (hx : (zE x).length = la) (hy : 0 < y) (hs : s < 32) (hm : la = n + m) (hn : 0 < n) (h2 : 2147483648 * 4294967296 ^ (n - 1) ≤ y * 2 ^ s) (h3 : y * 2 ^ s < 4294967296 ^ n) (hv : val vs = val (zE y) * 2 ^ s % 4294967296 ^ n) (hu : val us = val (zE x) * 2 ^ s % 4294967296 ^ (la + 1)) :
  val vs = y * 2 ^ s ∧ bkA vs n ∧ aqI (x * 2 ^ s) (val vs) (m + 1) us (List.replicate (m + 1) 0) := by
 obtain ⟨hst1, hst2⟩ := bdM (qG.1 (Nat.le_of_eq hx)) hs hm hn h2
 have hV : val vs = y * 2 ^ s := by rw [hv, zM, Nat.mod_eq_of_lt h3]
 have hU : val us = x * 2 ^ s := by rw [hu, zM, Nat.mod_eq_of_lt hst2]
 refine ⟨hV, ⟨by rw [hV]; exact h2, by rw [hV]; exact h3⟩, by rw [hU, hV]; exact hst1, ?_⟩
 rw [List.drop_of_length_le (by simp), val, Nat.zero_mul, Nat.zero_mul, Nat.zero_add, hU]
theorem break_ok {d v1 T r : Nat} (ht : d * v1 + r = T) (hT : T < (v1 + 1) * 4294967296) (hr : r < 4294967296) (hb : 4294967296 ≤ r + v1) (hd : 0 < d) (hv : 0 < v1) : d - 1 < 4294967296 := by
 rcases Nat.lt_or_ge (d - 1) 4294967296 with h | h
 ·exact h
 ·exfalso
  have h1 : (4294967296 + 1) * v1 ≤ d * v1 := Nat.mul_le_mul_right _ (by omega)
  rw [Nat.add_mul] at h1 hT
  omega
theorem down_eq {d v1 r T : Nat} (hd : 0 < d) (h : d * v1 + r = T) : (d - 1) * v1 + (r + v1) = T := by
 obtain ⟨e, rfl⟩ : ∃ e, d = e + 1 := ⟨d - 1, by omega⟩
 rw [Nat.add_mul] at h
 rw [Nat.add_sub_cancel]; omega
theorem shr_take {zs : List Nat} {n s V : Nat} (hz : Limbs zs) (hs : s < 32) (hn : n ≤ zs.length) (hV : V < 4294967296 ^ n) (h : val zs < V) : val ((aqS s zs).take n) = val zs / 2 ^ s := by
 have h1 := aeD (xs := aqS s zs) (k := n) (by rw [akT]; exact hn)
 rw [aqR (by omega) hz] at h1
 have h2 : val zs / 2 ^ s ≤ val zs := Nat.div_le_self _ _
 have h3 : val ((aqS s zs).drop n) = 0 := by
  rcases Nat.eq_zero_or_pos (val ((aqS s zs).drop n)) with h | h
  ·exact h
  ·have : 4294967296 ^ n * 1 ≤ 4294967296 ^ n * val ((aqS s zs).drop n) := Nat.mul_le_mul_left _ h
   omega
 rw [h3] at h1
 omega

def long_J (s n m b38 b49 : Nat) (vs : List Nat) (A : Nat) (H : Heap) : Nat → Env → Heap → Prop := fun k env H1 => ∃ (i : Nat) (zs qs : List Nat), i ≤ m + 1 ∧ zs.length = n + m + 1 ∧ Limbs zs ∧ qs.length = m + 1 ∧ Limbs qs ∧ aqI A (val vs) (m + 1 - i) zs qs ∧ env = [(6, .int .i64 (s : Int)), (7, .int .i64 (n : Int)), (8, .int .i64 (m : Int)), (9, .slice 1 (U .u32 vs) .shared), (10, .mslice (some ⟨b38, 0, none⟩) (n + m + 1) (n + m + 1)), (11, .mslice (some ⟨b49, 0, none⟩) (m + 1) (m + 1)), (51, .int .i64 ((m : Int) + 1)), (52, .int .i64 (i : Int))] ∧ H1 = (H.set b38 (.box 112 (U .u32 zs))).set b49 (.box 112 (U .u32 qs)) ∧ k = m + 1 - i

def biD (s n m b38 b49 i T : Nat) (vs zs qs : List Nat) (H : Heap) : Nat → Env → Heap → Prop := fun k env H1 => ∃ (d r : Nat), d * vs.getD (n - 1) 0 + r = T ∧ r < 4294967296 ∧ (val ((zs.drop (m - i)).take (n + 1)) / val vs) ≤ d ∧ env = [(15, .int .u64 (d : Int)), (16, .int .u64 (r : Int)), (13, .int .i64 ((m - i : Nat) : Int)), (6, .int .i64 (s : Int)), (7, .int .i64 (n : Int)), (8, .int .i64 (m : Int)), (9, .slice 1 (U .u32 vs) .shared), (10, .mslice (some ⟨b38, 0, none⟩) (n + m + 1) (n + m + 1)), (11, .mslice (some ⟨b49, 0, none⟩) (m + 1) (m + 1)), (51, .int .i64 ((m : Int) + 1)), (52, .int .i64 (i : Int))] ∧ H1 = (H.set b38 (.box 112 (U .u32 zs))).set b49 (.box 112 (U .u32 qs)) ∧ k = d

def axV (s n m b38 b49 i : Nat) (vs zs qs : List Nat) (H : Heap) : Env → Heap → Prop := fun env H1 => ∃ d : Nat, d < 4294967296 ∧ (val ((zs.drop (m - i)).take (n + 1)) / val vs) ≤ d ∧ d ≤ (val ((zs.drop (m - i)).take (n + 1)) / val vs) + 1 ∧ env = [(15, .int .u64 (d : Int)), (13, .int .i64 ((m - i : Nat) : Int)), (6, .int .i64 (s : Int)), (7, .int .i64 (n : Int)), (8, .int .i64 (m : Int)), (9, .slice 1 (U .u32 vs) .shared), (10, .mslice (some ⟨b38, 0, none⟩) (n + m + 1) (n + m + 1)), (11, .mslice (some ⟨b49, 0, none⟩) (m + 1) (m + 1)), (51, .int .i64 ((m : Int) + 1)), (52, .int .i64 (i : Int))] ∧ H1 = (H.set b38 (.box 112 (U .u32 zs))).set b49 (.box 112 (U .u32 qs))
def axU (s n m b38 b49 i : Nat) (vs zs qs : List Nat) (H : Heap) : Env → Heap → Prop := fun env H1 => ∃ ws : List Nat, ws.length = n + 1 ∧ Limbs ws ∧ val ws = val ((zs.drop (m - i)).take (n + 1)) % val vs ∧ env = [(15, .int .u64 (((val ((zs.drop (m - i)).take (n + 1)) / val vs) : Nat) : Int)), (13, .int .i64 ((m - i : Nat) : Int)), (6, .int .i64 (s : Int)), (7, .int .i64 (n : Int)), (8, .int .i64 (m : Int)), (9, .slice 1 (U .u32 vs) .shared), (10, .mslice (some ⟨b38, 0, none⟩) (n + m + 1) (n + m + 1)), (11, .mslice (some ⟨b49, 0, none⟩) (m + 1) (m + 1)), (51, .int .i64 ((m : Int) + 1)), (52, .int .i64 (i : Int))] ∧ H1 = (H.set b38 (.box 112 (U .u32 (mid zs (m - i) ws)))).set b49 (.box 112 (U .u32 qs))

def biC (n s b157 : Nat) (zs : List Nat) (e : Env) (H : Heap) : Nat → Env → Heap → Prop := fun k env H1 => ∃ (i : Nat) (rs : List Nat), i ≤ n ∧ rs.length = n ∧ Limbs rs ∧ rs.take i = (aqS s zs).take i ∧ env = [(6, .int .i64 (s : Int)), (10, .slice 1 (U .u32 zs) .shared), (17, .mslice (some ⟨b157, 0, none⟩) n n), (158, .int .i64 (n : Int)), (159, .int .i64 (i : Int))] ++ e ∧ H1 = H.set b157 (.box 112 (U .u32 rs)) ∧ k = n - i

set_option maxRecDepth 100000 in
set_option maxHeartbeats 4000000 in
theorem bdO (x y : Nat) (hy : 2 ≤ (zE y).length) (hxy : y ≤ x) (hx : x < BIG) (H : Heap) : ACall Tryz.prog 210 [aaA x, aaA y] H (fun z H' => z = .tuple [aaA (x / y), aaA (x % y)] ∧ H' = H) := by
 have hy256 := yU (n := y) (by omega)
 have hx256 := yU hx
 have hxl := len_mono hxy
 have hy0 : 0 < y := by
  rcases Nat.eq_zero_or_pos y with h | h
  ·rw [h, qX] at hy; simp at hy
  ·exact h
 refine ACall.of_body Tryz.func210 rfl Tryz.ntmps210 Tryz.results210 rfl ?_
 iterate 2 refine AX ?_
 refine .p rfl (zC (qB (sz := 1) (tl := .shared))) ?_
 refine .p rfl (zC (qB (sz := 1) (tl := .shared))) ?_
 iterate 7 refine AX ?_
 refine .p rfl (zO (tm rfl) zF (by omega)) (.p rfl (zV ((zE y).length - 1) Tryz.underlying170 Tryz.sizeOf112 (tm rfl) (tm rfl) (by omega) (by omega)) ?_)
 refine AX ?_
 refine .cl rfl Tryz.call237 (evs1 rfl) (beU _ (Limbs.getD (zJ _) _) _) ?_
 iterate 3 refine AX ?_
 refine AWP.seqToL [(7, .int .i64 (((zE y).length : Nat) : Int)), (8, .int .i64 (((zE x).length - (zE y).length : Nat) : Int))] [0, 1, 4, 5, 6] ?_ ?_
 ·-- region 2
  iterate 7 refine AX ?_
  refine .p rfl (zO (tm rfl) (tm rfl) (by omega)) ?_
  iterate 3 refine AX ?_
  exact ⟨rfl, (zW rfl (by rfl) (zW rfl (by (congr 1; omega)) sX)), rfl⟩
 ·refine AWP.sub [(7, _), (8, _), (0, _), (1, _), (4, _), (5, _), (6, _)] sX ?_
  generalize hs : 32 - yI ((zE y).getD ((zE y).length - 1) 0) = s
  obtain ⟨hs1, hs2, hs3⟩ := norm_ok hy0 rfl hs
  generalize hn : (zE y).length = n at *
  generalize hmm : (zE x).length - n = m at *
  have hla : (zE x).length = n + m := by omega
  refine AWP.meet (fun env H1 => ∃ b34 b38 : Nat, b34 ≠ b38 ∧ H.objs b34 = none ∧ H.objs b38 = none ∧ env = [(0, aaA x), (1, aaA y), (6, .int .i64 (s : Int)), (7, .int .i64 (n : Int)), (8, .int .i64 (m : Int)), (9, .mslice (some ⟨b34, 0, none⟩) n n), (10, .mslice (some ⟨b38, 0, none⟩) (n + m + 1) (n + m + 1))] ∧ H1 = (H.set b34 (.box 112 (U .u32 (List.replicate n 0)))).set b38 (.box 112 (U .u32 (List.replicate (n + m + 1) 0)))) ?_ ?_
  ·-- region 3
   refine AWP.draw2 [(0, true), (2, true), (3, true), (4, true)] 1 5 [(6, true), (5, false), (7, true)] [(1, false), (6, true), (7, true)] rfl (by decide +kernel) ?_
   iterate 3 refine AX ?_
   refine .p rfl rfl (zK (tm rfl) zF (by omega)) ?_
   refine AX ?_
   refine ⟨?_, ?_⟩
   ·refine XTwo.s rfl rfl (yM (n) Tryz.underlying170 Tryz.typeInfo112 Tryz.sizeOf112 Tryz.zeroValue112 (tm rfl) (tm rfl) (by omega) (by omega) (by decide) (by omega)) ?_
    rintro _ _ ⟨b34, rfl, hb34, hH⟩
    obtain rfl := hH.symm
    refine AX ?_
    refine .s rfl rfl (yM (n + m + 1) Tryz.underlying170 Tryz.typeInfo112 Tryz.sizeOf112 Tryz.zeroValue112 (tm rfl) (tm rfl) (by omega) (by omega) (by decide) (by omega)) ?_
    rintro _ _ ⟨b38, rfl, hb38, hH⟩
    obtain rfl := hH.symm
    iterate 3 refine AX ?_
    refine Meets.mk (M := fun env H1 => ∃ b34 b38 : Nat, b34 ≠ b38 ∧ H.objs b34 = none ∧ H.objs b38 = none ∧ env = [(0, aaA x), (1, aaA y), (6, .int .i64 (s : Int)), (7, .int .i64 (n : Int)), (8, .int .i64 (m : Int)), (9, .mslice (some ⟨b34, 0, none⟩) n n), (10, .mslice (some ⟨b38, 0, none⟩) (n + m + 1) (n + m + 1))] ∧ H1 = (H.set b34 (.box 112 (U .u32 (List.replicate n 0)))).set b38 (.box 112 (U .u32 (List.replicate (n + m + 1) 0)))) ⟨b34, b38, Heap.fresh_ne hb38, hb34, Heap.fresh_inv hb38, rfl, rfl⟩ sX (Heap.le.refl _)
   ·refine XTwo.s rfl rfl (yM (n + m + 1) Tryz.underlying170 Tryz.typeInfo112 Tryz.sizeOf112 Tryz.zeroValue112 (tm rfl) (tm rfl) (by omega) (by omega) (by decide) (by omega)) ?_
    rintro _ _ ⟨b38, rfl, hb38, hH⟩
    obtain rfl := hH.symm
    refine .s rfl rfl (yM (n) Tryz.underlying170 Tryz.typeInfo112 Tryz.sizeOf112 Tryz.zeroValue112 (tm rfl) (tm rfl) (by omega) (by omega) (by decide) (by omega)) ?_
    rintro _ _ ⟨b34, rfl, hb34, hH⟩
    obtain rfl := hH.symm
    iterate 4 refine AX ?_
    refine Meets.mk (M := fun env H1 => ∃ b34 b38 : Nat, b34 ≠ b38 ∧ H.objs b34 = none ∧ H.objs b38 = none ∧ env = [(0, aaA x), (1, aaA y), (6, .int .i64 (s : Int)), (7, .int .i64 (n : Int)), (8, .int .i64 (m : Int)), (9, .mslice (some ⟨b34, 0, none⟩) n n), (10, .mslice (some ⟨b38, 0, none⟩) (n + m + 1) (n + m + 1))] ∧ H1 = (H.set b34 (.box 112 (U .u32 (List.replicate n 0)))).set b38 (.box 112 (U .u32 (List.replicate (n + m + 1) 0)))) ⟨b34, b38, (Heap.fresh_ne hb34).symm, Heap.fresh_inv hb34, hb38, rfl, Heap.set_comm (Heap.fresh_ne hb34) _ _⟩ sX (Heap.le.refl _)
  ·rintro _ _ ⟨b34, b38, hne, hb34, hb38, rfl, rfl⟩
   iterate 5 refine AX ?_
   refine .s rfl (zH Tryz.call207 (evs3 rfl rfl rfl) (ahN (zE y) .shared (zJ _) (by omega) b34 0 n n s (List.replicate n 0) (Limbs.rep (by omega)) (by simp) (by omega) (by omega) _ ((Heap.objs_set_ne _ _ hne).trans (Heap.objs_set_same _ _ _)))) ?_
   rintro _ _ ⟨vs, hvl, hvL, hvv, hH⟩
   obtain rfl := hH.symm
   rw [amZ (by simpa using hvl), Heap.set_swap hne]
   iterate 3 refine AX ?_
   refine AWP.frzU (t := 9) rfl ((Heap.objs_set_ne _ _ hne).trans hb34) (by omega) (Nat.le_refl _) (by simp only [zP]; omega) ?_
   rw [List.take_of_length_le (l := vs) (by omega)]
   iterate 4 refine AX ?_
   refine .s rfl (zH Tryz.call207 (evs3 rfl rfl rfl) (ahN (zE x) .shared (zJ _) (by omega) b38 0 (n + m + 1) (n + m + 1) s (List.replicate (n + m + 1) 0) (Limbs.rep (by omega)) (by simp) (by omega) (by omega) _ (Heap.objs_set_same _ _ _))) ?_
   rintro _ _ ⟨us, hul, huL, huv, hH⟩
   obtain rfl := hH.symm
   rw [amZ (by simpa using hul), Heap.set_set]
   iterate 5 refine AX ?_
   refine .p rfl (zK (tm rfl) zF (by omega)) (.s rfl (yM (m + 1) Tryz.underlying170 Tryz.typeInfo112 Tryz.sizeOf112 Tryz.zeroValue112 (tm rfl) (tm rfl) (by omega) (by omega) (by decide) (by omega)) ?_)
   rintro _ _ ⟨b49, rfl, hb49, hH⟩
   obtain rfl := hH.symm
   iterate 5 refine AX ?_
   have hne2 : b38 ≠ b49 := Heap.fresh_ne hb49
   have hb49n : H.objs b49 = none := Heap.fresh_inv hb49
   obtain ⟨hV, hNV, hO0⟩ := bdP (m := m) hla hy0 hs1 rfl (by omega) hs2 hs3 hvv huv
   clear hs2 hs3 hvv huv
   have hvv1 := Limbs.getD hvL (n - 1)
   have hvv2 := Limbs.getD hvL (n - 2)
   iterate 2 refine AX ?_
   refine .p rfl (zK (tm rfl) zF (by omega)) ?_
   iterate 4 refine AX ?_
   refine AWP.loopW (long_J s n m b38 b49 vs (x * 2 ^ s) H) (m + 1) ⟨0, us, List.replicate (m + 1) 0, Nat.zero_le _, hul, huL, by simp, Limbs.rep (by omega), hO0, rfl, rfl, rfl⟩ sX (Heap.le.refl _) ?_
   rintro _ _ _ ⟨i, zs, qs, hi, hzl, hzL, hql, hqL, hO, rfl, rfl, hk⟩
   iterate 6 refine AX ?_
   refine AWP.cx rfl (fun hc53 => ?_) (fun hc53 => ?_)
   ·have hji : m + 1 - i = m - i + 1 := by omega
    rw [hji] at hO
    have hjn : m - i + n + 1 - (m - i) = n + 1 := by omega
    obtain ⟨hD1, hD2, hVpos, hD4, hD5, hD6, hD7⟩ := ayE (j := m - i) hy hzL (by omega) hvl hvL hNV hO
    have hu0 := Limbs.getD hzL (m - i + n)
    have hu1 := Limbs.getD hzL (m - i + (n - 1))
    have hu2 := Limbs.getD hzL (m - i + (n - 2))
    have hu0s := ajK hu0
    have hu1s := big32 hu1
    have hu2s := big32 hu2
    have htop := top_big hu0 hu1
    have hD0 := Nat.lt_of_lt_of_le (by decide : 0 < 2147483648) hD1
    have hqm : (val ((zs.drop (m - i)).take (n + 1)) / val vs) % 2 ^ IntKind.u32.bits = (val ((zs.drop (m - i)).take (n + 1)) / val vs) := Nat.mod_eq_of_lt hD4
    iterate 10 refine AX ?_
    refine AWP.seqToL [(13, .int .i64 ((m - i : Nat) : Int))] [6, 7, 8, 9, 10, 11, 51, 52] ?_ ?_
    ·-- region 10
     iterate 3 refine AX ?_
     refine .p rfl (zO (tm rfl) (tm rfl) (by omega)) ?_
     iterate 2 refine AX ?_
     exact ⟨rfl, (zW rfl (by congr 1; omega) sX), rfl⟩
    ·refine AWP.sub [(13, _), (6, _), (7, _), (8, _), (9, _), (10, _), (11, _), (51, _), (52, _)] sX ?_
     refine AWP.seqToL [(14, .int .u64 (((zs.getD (m - i + n) 0 * 4294967296 + zs.getD (m - i + (n - 1)) 0) : Nat) : Int))] [13, 6, 7, 8, 9, 10, 11, 51, 52] ?_ ?_
     ·-- region 11
      refine AWP.draw2 [(0, true), (1, true), (2, true), (3, true), (4, true), (8, true), (9, true), (10, true), (11, true), (12, true), (13, true)] 5 14 [(6, true), (7, true), (14, false), (15, true), (16, true), (17, true)] [(15, true), (5, false), (6, true), (7, true), (16, true), (17, true)] rfl (by decide +kernel) ?_
      iterate 3 refine AX ?_
      refine .p rfl rfl (zK (tm rfl) (tm rfl) (by omega)) (.p rfl rfl (yO (m - i + n) Tryz.underlying170 Tryz.sizeOf112 (tm rfl) (tm rfl) (by omega) (by omega)) ?_)
      iterate 3 refine AX ?_
      refine .p rfl rfl (zK (tm rfl) (tm rfl) (by omega)) (.p rfl rfl (zO (tm rfl) zF (by omega)) (.p rfl rfl (yO (m - i + (n - 1)) Tryz.underlying170 Tryz.sizeOf112 (tm rfl) (tm rfl) (by omega) (by omega)) ?_))
      refine AX ?_
      refine ⟨?_, ?_⟩
      ·refine XTwo.s rfl rfl (qI Tryz.isAgg112 (tm rfl) ((Heap.objs_set_ne _ _ (by assumption)).trans (Heap.objs_set_same _ _ _)) (by omega)) ?_
       rintro _ _ ⟨rfl, hH⟩
       obtain rfl := hH.symm
       refine .p rfl rfl (zT Tryz.underlying112 Tryz.underlying30 (tm rfl) (wrapN64 (by omega))) (.p rfl rfl (qS (tm rfl) (zG 32) (by omega) (by exact hu0s)) (.s rfl rfl (qI Tryz.isAgg112 (tm rfl) ((Heap.objs_set_ne _ _ (by assumption)).trans (Heap.objs_set_same _ _ _)) (by omega)) ?_))
       rintro _ _ ⟨rfl, hH⟩
       obtain rfl := hH.symm
       refine .p rfl rfl (zT Tryz.underlying112 Tryz.underlying30 (tm rfl) (wrapN64 (by assumption))) (.p rfl rfl (qT (tm rfl) (tm rfl) (hu0s) (hu1s)) ?_)
       iterate 2 refine AX ?_
       exact ⟨rfl, (zW rfl (by rw [ahG (k := 32) (Nat.lt_of_lt_of_eq hu1 (by decide))]) sX), rfl⟩
      ·refine XTwo.s rfl rfl (qI Tryz.isAgg112 (tm rfl) ((Heap.objs_set_ne _ _ (by assumption)).trans (Heap.objs_set_same _ _ _)) (by omega)) ?_
       rintro _ _ ⟨rfl, hH⟩
       obtain rfl := hH.symm
       refine .p rfl rfl (zT Tryz.underlying112 Tryz.underlying30 (tm rfl) (wrapN64 (by assumption))) (.s rfl rfl (qI Tryz.isAgg112 (tm rfl) ((Heap.objs_set_ne _ _ (by assumption)).trans (Heap.objs_set_same _ _ _)) (by omega)) ?_)
       rintro _ _ ⟨rfl, hH⟩
       obtain rfl := hH.symm
       refine .p rfl rfl (zT Tryz.underlying112 Tryz.underlying30 (tm rfl) (wrapN64 (by omega))) (.p rfl rfl (qS (tm rfl) (zG 32) (by omega) (by exact hu0s)) (.p rfl rfl (qT (tm rfl) (tm rfl) (hu0s) (hu1s)) ?_))
       iterate 2 refine AX ?_
       exact ⟨rfl, (zW rfl (by rw [ahG (k := 32) (Nat.lt_of_lt_of_eq hu1 (by decide))]) sX), rfl⟩
     ·refine AWP.sub [(14, _), (13, _), (6, _), (7, _), (8, _), (9, _), (10, _), (11, _), (51, _), (52, _)] sX ?_
      refine AX ?_
      refine AWP.draw [(0, true), (1, true), (2, true), (3, true), (4, true), (5, true), (6, true), (7, true), (8, true), (9, true), (10, true), (11, true), (12, true), (13, true), (14, true), (15, true), (16, true), (17, true)] rfl (by decide +kernel) ?_
      iterate 3 refine AX ?_
      refine .p rfl rfl (zO (tm rfl) zF (by omega)) (.p rfl rfl (zV (n - 1) Tryz.underlying170 Tryz.sizeOf112 (tm rfl) (tm rfl) (by omega) (by omega)) ?_)
      refine AX ?_
      refine .p rfl rfl (zT Tryz.underlying112 Tryz.underlying30 (tm rfl) (wrapN64 (by omega))) (.p rfl rfl (apH (tm rfl) (tm rfl) (htop) (hD0)) ?_)
      iterate 3 refine AX ?_
      refine .p rfl rfl (zO (tm rfl) zF (by omega)) (.p rfl rfl (zV (n - 1) Tryz.underlying170 Tryz.sizeOf112 (tm rfl) (tm rfl) (by omega) (by omega)) ?_)
      refine AX ?_
      refine .p rfl rfl (zT Tryz.underlying112 Tryz.underlying30 (tm rfl) (wrapN64 (by omega))) (.p rfl rfl (abF (tm rfl) (tm rfl) (hD0)) ?_)
      iterate 4 refine AX ?_
      refine AWP.meet (axV s n m b38 b49 i vs zs qs H) ?_ ?_
      ·refine AX ?_
       refine AWP.loopW (biD s n m b38 b49 i (zs.getD (m - i + n) 0 * 4294967296 + zs.getD (m - i + (n - 1)) 0) vs zs qs H) ((zs.getD (m - i + n) 0 * 4294967296 + zs.getD (m - i + (n - 1)) 0) / vs.getD (n - 1) 0) ⟨_, _, Nat.div_add_mod' _ _, Nat.lt_trans (Nat.mod_lt _ (by omega)) hvv1, hD5, rfl, rfl, rfl⟩ sX (Heap.le.refl _) ?_
       rintro _ _ _ ⟨d, r, hdr, hr, hq, rfl, rfl, hk2⟩
       have hd64 := d_fits hdr htop hD0
       refine AX ?_
       refine AWP.seqTo 115 (.bool (decide (4294967296 ≤ d ∨ r * 4294967296 + zs.getD (m - i + (n - 2)) 0 < d * vs.getD (n - 2) 0))) [15, 16, 13, 6, 7, 8, 9, 10, 11, 51, 52] ?_ ?_
       ·-- region 13
        refine ayI (decide (((0 : Nat) : Int) < ((d / 2 ^ 32 : Nat) : Int))) (fun hg94 => ?_) (fun hg94 => ?_)
        ·have hdB : 4294967296 ≤ d := by simp at hg94; omega
         refine AWP.draw [(0, true), (1, true), (2, true), (3, true), (4, true), (5, true), (6, true), (7, true), (8, true), (9, true), (10, true), (11, true), (12, true), (13, true), (14, true), (15, true), (16, true), (17, true), (18, true), (19, true), (20, true), (21, true), (22, true), (23, true), (24, true)] rfl (by decide +kernel) ?_
         refine AX ?_
         refine .p rfl rfl (yG (tm rfl) (zG 32) (by exact hd64)) (.p rfl rfl (qK (tm rfl) (zG 0)) ?_)
         iterate 23 refine AX ?_
         exact ⟨rfl, zZ rfl (by (rw [eq_comm, decide_eq_true_eq]; omega)) sX, rfl⟩
        ·have hdB : d < 4294967296 := by simp at hg94; omega
         have hdv := arO hdB hvv2
         have hdvs : d * vs.getD (n - 2) 0 < 18446744073709551616 := Nat.lt_of_le_of_lt hdv (by decide)
         have hrs := ajK hr
         refine AWP.draw [(0, true), (1, true), (2, true), (3, true), (4, true), (5, true), (6, true), (7, true), (8, true), (9, true), (10, true), (11, true), (12, true), (13, true), (14, true), (15, true), (16, true), (17, true), (18, true), (19, true), (20, false), (21, true), (22, true), (23, true), (24, true)] rfl (by decide +kernel) ?_
         refine AX ?_
         refine .p rfl rfl (yG (tm rfl) (zG 32) (by exact hd64)) (.p rfl rfl (qK (tm rfl) (zG 0)) ?_)
         iterate 4 refine AX ?_
         refine .gp rfl rfl rfl rfl (by assumption) (zO (tm rfl) zF (by omega)) (.gp rfl rfl rfl rfl (by assumption) (zV (n - 2) Tryz.underlying170 Tryz.sizeOf112 (tm rfl) (tm rfl) (by omega) (by omega)) ?_)
         refine AX ?_
         refine .gp rfl rfl rfl rfl (by assumption) (zT Tryz.underlying112 Tryz.underlying30 (tm rfl) (wrapN64 (by omega))) (.gp rfl rfl rfl rfl (by assumption) (acO (tm rfl) (tm rfl) (by exact hdvs)) ?_)
         refine AX ?_
         refine .gp rfl rfl rfl rfl (by assumption) (qS (tm rfl) (zG 32) (by omega) (by exact hrs)) ?_
         iterate 3 refine AX ?_
         refine .gp rfl rfl rfl rfl (by assumption) (zK (tm rfl) (tm rfl) (by omega)) (.gp rfl rfl rfl rfl (by assumption) (zO (tm rfl) zF (by omega)) (.gp rfl rfl rfl rfl (by assumption) (yO (m - i + (n - 2)) Tryz.underlying170 Tryz.sizeOf112 (tm rfl) (tm rfl) (by omega) (by omega)) (.gs rfl rfl rfl rfl (by assumption) (qI Tryz.isAgg112 (tm rfl) ((Heap.objs_set_ne _ _ (by assumption)).trans (Heap.objs_set_same _ _ _)) (by omega)) ?_)))
         rintro _ _ ⟨rfl, hH⟩
         obtain rfl := hH.symm
         refine .gp rfl rfl rfl rfl (by assumption) (zT Tryz.underlying112 Tryz.underlying30 (tm rfl) (wrapN64 (by assumption))) (.gp rfl rfl rfl rfl (by assumption) (qT (tm rfl) (tm rfl) (hrs) (hu2s)) ?_)
         iterate 3 refine AX ?_
         exact ⟨rfl, zZ rfl (by (rw [ahG (k := 32) (Nat.lt_of_lt_of_eq hu2 (by decide)), show (2 : Nat) ^ 32 = 4294967296 by decide, decide_eq_decide]; omega)) sX, rfl⟩
       ·refine AWP.sub [(115, _), (15, _), (16, _), (13, _), (6, _), (7, _), (8, _), (9, _), (10, _), (11, _), (51, _), (52, _)] sX ?_
        refine AWP.cx rfl (fun hc115 => ?_) (fun hc115 => ?_)
        ·have hqd : (val ((zs.drop (m - i)).take (n + 1)) / val vs) < d := by
          rcases hc115 with h | h
          ·omega
          ·exact hD6 d r hdr h
         have hd1 : 1 ≤ d := Nat.lt_of_le_of_lt (Nat.zero_le _) hqd
         have hrv := rv_fits hr hvv1
         have hdn := down_eq hd1 hdr
         iterate 6 refine AX ?_
         refine .p rfl (adV (tm rfl) (zG 1) (hd1) (hd64)) ?_
         iterate 8 refine AX ?_
         refine .p rfl (zO (tm rfl) zF (by omega)) (.p rfl (zV (n - 1) Tryz.underlying170 Tryz.sizeOf112 (tm rfl) (tm rfl) (by omega) (by omega)) ?_)
         refine AX ?_
         refine .p rfl (zT Tryz.underlying112 Tryz.underlying30 (tm rfl) (wrapN64 (by omega))) (.p rfl (yD (tm rfl) (tm rfl) (by exact hrv)) ?_)
         iterate 6 refine AX ?_
         refine .p rfl (yG (tm rfl) (zG 32) (by exact hrv)) (.p rfl (qK (tm rfl) (zG 0)) ?_)
         iterate 2 refine AX ?_
         refine AWP.cx rfl (fun hc128 => ?_) (fun hc128 => ?_)
         ·have hbk := break_ok hdr hD2 hr (by omega) (by omega) (by omega)
          have hbv : (d - 1) * vs.getD (n - 2) 0 ≤ 18446744065119617025 := arO hbk hvv2
          iterate 5 refine AX ?_
          refine Meets.mk (M := axV s n m b38 b49 i vs zs qs H) ⟨d - 1, hbk, by omega, hD7 _ _ hbk hdn (by omega), rfl, rfl⟩ sX (Heap.le.refl _)
         ·iterate 3 refine AX ?_
          refine Round.mk (J := biD s n m b38 b49 i (zs.getD (m - i + n) 0 * 4294967296 + zs.getD (m - i + (n - 1)) 0) vs zs qs H) ⟨d - 1, r + vs.getD (n - 1) 0, hdn, by omega, by omega, rfl, rfl, rfl⟩ sX (Heap.le.refl _) (by omega)
        ·iterate 5 refine AX ?_
         refine Meets.mk (M := axV s n m b38 b49 i vs zs qs H) ⟨d, by omega, hq, hD7 _ _ (by omega) hdr (by omega), rfl, rfl⟩ sX (Heap.le.refl _)
      ·rintro _ _ ⟨d, hdB, hd1, hd2, rfl, rfl⟩
       refine AWP.meet (axU s n m b38 b49 i vs zs qs H) ?_ ?_
       ·iterate 6 refine AX ?_
        refine .p rfl (zK (tm rfl) (tm rfl) (by omega)) (.p rfl (zK (tm rfl) zF (by omega)) (.p rfl (aiJ (m - i) (m - i + n + 1) Tryz.underlying170 Tryz.sizeOf112 (tm rfl) (tm rfl) (tm rfl) (by omega) (by omega) (by omega) (by omega) (by omega)) ?_))
        iterate 2 refine AX ?_
        refine .s rfl (zH Tryz.call238 (evs3 rfl rfl rfl) (awE vs .shared hvL (by omega) b38 (0 + (m - i)) _ _ d hdB (by omega) zs hzL (by omega) (by omega) _ ((Heap.objs_set_ne _ _ hne2).trans (Heap.objs_set_same _ _ _)))) ?_
        rintro _ _ ⟨b2, ws, hb2, hwl, hwL, hval, rfl, hH⟩
        obtain rfl := hH.symm
        rw [Heap.set_under hne2]
        rw [Nat.zero_add, hjn] at hval
        rw [hjn] at hwl
        rw [Nat.zero_add]
        obtain ⟨hn0, hn1⟩ := ayU hzL (by omega) hVpos hwl hwL hd1 hd2 hval hb2
        clear hval
        iterate 2 refine AX ?_
        refine AWP.cx rfl (fun hc138 => ?_) (fun hc138 => ?_)
        ·obtain ⟨hdd, hww⟩ := hn1 (by omega)
         have hd1 : 1 ≤ d := by rw [hdd]; exact Nat.le_add_left _ _
         iterate 3 refine AX ?_
         refine .p rfl (adV (tm rfl) (zG 1) (hd1) (big32 hdB)) ?_
         iterate 8 refine AX ?_
         refine .p rfl (zK (tm rfl) (tm rfl) (by omega)) (.p rfl (zK (tm rfl) zF (by omega)) (.p rfl (aiJ (m - i) (m - i + n + 1) Tryz.underlying170 Tryz.sizeOf112 (tm rfl) (tm rfl) (tm rfl) (by omega) (by omega) (by omega) (by omega) (by omega)) ?_))
         refine AX ?_
         refine .s rfl (zH Tryz.call239 (evs2 rfl rfl) (ayD vs .shared hvL (by omega) b38 (0 + (m - i)) _ _ (by omega) (mid zs (m - i) ws) (acX hzL hwL) (by rw [adY hwl (by omega)]; omega) (by omega) _ ((Heap.objs_set_ne _ _ hne2).trans (Heap.objs_set_same _ _ _)))) ?_
         rintro _ _ ⟨ws2, hw2l, hw2L, hw2v, hH⟩
         obtain rfl := hH.symm
         rw [Heap.set_under hne2]
         rw [Nat.zero_add, hjn, auH hwl (by omega)] at hw2v
         rw [hjn] at hw2l
         rw [Nat.zero_add, mid_mid (by omega) (by omega)]
         iterate 2 refine AX ?_
         refine Meets.mk (M := axU s n m b38 b49 i vs zs qs H) ⟨ws2, hw2l, hw2L, hw2v.trans hww, rfl, rfl⟩ (zW rfl (by rw [hdd, Nat.add_sub_cancel]) sX) (Heap.le.refl _)
        ·obtain ⟨hdd, hww⟩ := hn0 (by omega)
         iterate 2 refine AX ?_
         refine Meets.mk (M := axU s n m b38 b49 i vs zs qs H) ⟨ws, hwl, hwL, hww, rfl, rfl⟩ (zW rfl (by rw [hdd]) sX) (Heap.le.refl _)
       ·rintro _ _ ⟨ws, hwl, hwL, hwv, rfl, rfl⟩
        iterate 4 refine AX ?_
        refine .p rfl (yL Tryz.underlying30 Tryz.underlying112 rfl (tm rfl)) (.p rfl (yO (m - i) Tryz.underlying170 Tryz.sizeOf112 (tm rfl) (tm rfl) (by omega) (by omega)) (.e0 (yZ Tryz.sizeOf112 (tm rfl) (tm rfl) (Heap.objs_set_same _ _ _) (by omega)) ?_))
        try first | rw [Heap.set_set] | rw [Heap.set_under (by assumption)]
        iterate 4 refine AX ?_
        refine .p rfl (zK (tm rfl) zF (by omega)) ?_
        iterate 3 refine AX ?_
        have hL := bdN hzL (by omega) hNV hVpos hO hwl hwv (by omega)
        rw [hqm]
        refine Round.mk (J := long_J s n m b38 b49 vs (x * 2 ^ s) H) ⟨i + 1, _, _, by omega, (adY hwl (by omega)).trans hzl, acX hzL hwL, by simpa using hql, Limbs.set hqL hD4, by rw [show m + 1 - (i + 1) = m - i by omega]; exact hL, rfl, rfl, rfl⟩ sX (Heap.le.refl _) (by omega)
   ·iterate 6 refine AX ?_
    have hi2 : i = m + 1 := by omega
    subst hi2
    rw [Nat.sub_self] at hO
    obtain ⟨hlt, hQ, hR⟩ := biB hV hO
    refine AWP.frzU (t := 11) rfl ((Heap.objs_set_ne _ _ hne2.symm).trans hb49n) (by omega) (Nat.le_refl _) (by simp only [zP]; omega) ?_
    rw [List.take_of_length_le (l := qs) (by omega)]
    refine AWP.frzU (t := 10) rfl hb38 (by omega) (Nat.le_refl _) (by simp only [zP]; omega) ?_
    rw [List.take_of_length_le (l := zs) (by omega)]
    iterate 2 refine AX ?_
    refine .s rfl (yM (n) Tryz.underlying170 Tryz.typeInfo112 Tryz.sizeOf112 Tryz.zeroValue112 (tm rfl) (tm rfl) (by omega) (by omega) (by decide) (by omega)) ?_
    rintro _ _ ⟨b157, rfl, hb157, hH⟩
    obtain rfl := hH.symm
    iterate 11 refine AX ?_
    refine AWP.loopW (biC n s b157 zs [(11, .slice 1 (U .u32 qs) .shared)] H) (n) ⟨0, List.replicate n 0, Nat.zero_le _, by simp, Limbs.rep (by omega), rfl, rfl, rfl, rfl⟩ sX (Heap.le.refl _) ?_
    rintro _ _ _ ⟨i, rs, hi, hrl, hrL, hrs, rfl, rfl, hk⟩
    iterate 6 refine AX ?_
    refine AWP.cx rfl (fun hc160 => ?_) (fun hc160 => ?_)
    ·have hz0 := Limbs.getD hzL i
     have hz1 := Limbs.getD hzL (i + 1)
     have hz1s := ajK hz1
     have hz0s := big32 hz0
     have hor := or_big hz1 hz0
     have hsg := azG s (xs := zs) (i := i) (by omega)
     iterate 10 refine AX ?_
     refine AWP.draw [(0, true), (1, true), (2, true), (3, true), (4, true), (5, true), (6, true), (7, true), (8, true), (9, true), (10, true), (11, true), (12, true), (13, true), (14, true), (15, true), (16, true), (17, true), (18, true), (19, false)] rfl (by decide +kernel) ?_
     iterate 4 refine AX ?_
     refine .p rfl rfl (zK (tm rfl) zF (by omega)) (.p rfl rfl (zV (i + 1) Tryz.underlying170 Tryz.sizeOf112 (tm rfl) (tm rfl) (by omega) (by omega)) ?_)
     refine AX ?_
     refine .p rfl rfl (zT Tryz.underlying112 Tryz.underlying30 (tm rfl) (wrapN64 (by omega))) (.p rfl rfl (qS (tm rfl) (zG 32) (by omega) (by exact hz1s)) ?_)
     iterate 2 refine AX ?_
     refine .p rfl rfl (zV (i) Tryz.underlying170 Tryz.sizeOf112 (tm rfl) (tm rfl) (by omega) (by omega)) ?_
     refine AX ?_
     refine .p rfl rfl (zT Tryz.underlying112 Tryz.underlying30 (tm rfl) (wrapN64 (by assumption))) (.p rfl rfl (qT (tm rfl) (tm rfl) (hz1s) (hz0s)) ?_)
     refine AX ?_
     refine .p rfl rfl (yG (tm rfl) (tm rfl) (by exact hor)) (.p rfl rfl (yL Tryz.underlying30 Tryz.underlying112 rfl (tm rfl)) (.p rfl rfl (yO (i) Tryz.underlying170 Tryz.sizeOf112 (tm rfl) (tm rfl) (by omega) (by omega)) (.s0 rfl (yZ Tryz.sizeOf112 (tm rfl) (tm rfl) (Heap.objs_set_same _ _ _) (by omega)) ?_)))
     rintro _ _ ⟨rfl, hH⟩
     obtain rfl := hH.symm
     try first | rw [Heap.set_set] | rw [Heap.set_under (by assumption)]
     iterate 4 refine AX ?_
     refine .p rfl (zK (tm rfl) zF (by omega)) ?_
     iterate 3 refine AX ?_
     refine Round.mk (J := biC n s b157 zs [(11, .slice 1 (U .u32 qs) .shared)] H) ⟨i + 1, _, by omega, by simpa using hrl, Limbs.set hrL (Nat.mod_lt _ (by decide)), bfP (by omega) (by rw [akT]; omega) hrs (by rw [hsg, ahG (k := 32) (Nat.lt_of_lt_of_eq hz0 (by decide)), Nat.add_comm]), rfl, rfl, rfl⟩ sX (Heap.le.refl _) (by omega)
    ·iterate 6 refine AX ?_
     have hi2 : i = n := by omega
     subst hi2
     refine AWP.frzU (t := 17) rfl hb157 (by omega) (Nat.le_refl _) (by simp only [zP]; omega) ?_
     rw [List.take_of_length_le (l := rs) (by omega)]
     rw [List.take_of_length_le (l := rs) (by omega)] at hrs
     have hRv : val rs = x % y := by
      rw [hrs, shr_take hzL hs1 (by omega) hNV.2 hlt, hR, Nat.mul_div_cancel _ (Nat.pow_pos (by decide))]
     iterate 2 refine AX ?_
     refine .cl rfl Tryz.call203 (evs1 rfl) (qN _ _ (by assumption) (by omega) _) ?_
     refine AX ?_
     refine .cl rfl Tryz.call203 (evs1 rfl) (qN _ _ (by assumption) (by omega) _) ?_
     iterate 5 refine AX ?_
     refine Ret.go (.cons (.tmp _ _ rfl) (.cons (.tmp _ _ rfl) .nil)) _ (Heap.le.refl _) ?_
     refine ⟨?_, rfl⟩
     rw [hQ, hRv]; rfl

end
section
open Go Go.RowKit

set_option maxRecDepth 100000 in
theorem akQ (a b : Nat) (hx : a < BIG) (hb0 : 0 < b) (hb : b < BIG) (H : Heap) : ACall Tryz.prog 162 [aaA a, aaA b] H (fun y H' => y = .tuple [aaA (a / b), aaA (a % b), .int .i64 0] ∧ H' = H) := by
 have ha256 := yU hx
 have hb256 := yU hb
 have hrb := afI b
 have hva := zM a
 have hvb := zM b
 have hbl : 0 < (zE b).length := by rw [qA hb0]; simp
 refine ACall.of_body Tryz.func162 rfl Tryz.ntmps162 Tryz.results162 rfl ?_
 iterate 2 refine AX ?_
 refine .p rfl (zC (qB (sz := 1) (tl := .shared))) ?_
 refine .p rfl (zC (qB (sz := 1) (tl := .shared))) ?_
 iterate 9 refine AX ?_
 refine .e rfl (agI Tryz.underlying272 Tryz.sizeOf170 Tryz.zeroValue170 rfl (tm rfl) (.inl rfl) ⟨rfl, rfl⟩ (tm rfl) (.inl rfl) ⟨rfl, rfl⟩) (.cl rfl Tryz.call202 (evs1 rfl) (ahU _ _ (zJ _) (by omega) _ _ _ (zJ _) (by omega) _) ?_)
 iterate 3 refine AX ?_
 refine AWP.cx rfl (fun hc11 => ?_) (fun hc11 => ?_)
 ·omega
 ·iterate 3 refine AX ?_
  refine .cl rfl Tryz.call206 (evs1 rfl) (abR _ _ (zJ _) (by omega) _) ?_
  iterate 4 refine AX ?_
  refine AWP.cx rfl (fun hc16 => ?_) (fun hc16 => ?_)
  ·omega
  ·iterate 4 refine AX ?_
   refine .cl rfl Tryz.call208 (evs2 rfl rfl) (cmpB _ _ hx (by omega) _) ?_
   iterate 4 refine AX ?_
   refine AWP.cx rfl (fun hc20 => ?_) (fun hc20 => ?_)
   ·have hlt := cmp_lt hc20
    iterate 3 refine AX ?_
    refine .cl rfl Tryz.call167 (evs1 rfl) (ajY _ _ (zJ _) (by omega) _) ?_
    refine .p rfl (zC (qB (sz := 1) (tl := .shared))) ?_
    iterate 7 refine AX ?_
    refine Ret.go (.cons (.tmp _ _ rfl) (.cons (.tmp _ _ rfl) (.cons (.tmp _ _ rfl) .nil))) _ (Heap.le.refl _) ?_
    refine ⟨?_, rfl⟩
    rw [Nat.div_eq_of_lt hlt, Nat.mod_eq_of_lt hlt, zM]; rfl
   ·have hge := cmp_ge (a := a) (b := b) (by omega)
    iterate 6 refine AX ?_
    refine .cl rfl Tryz.call203 (evs1 rfl) (cutB _ (by omega) _) ?_
    iterate 11 refine AX ?_
    refine AWP.cx rfl (fun hc31 => ?_) (fun hc31 => ?_)
    ·obtain ⟨hb1, _, hb2⟩ := len_one (b := b) (by omega)
     have hg : (zE b).getD 0 0 = b := by rw [hb1]; rfl
     have hml := Nat.mod_lt a hb0
     iterate 3 refine AX ?_
     refine .s rfl (zH Tryz.call167 (evs1 rfl) (bbK _ _ (zJ _) (by omega) _)) ?_
     rintro _ _ ⟨b33, hb33, rfl, hH⟩
     obtain rfl := hH.symm
     rw [zM]
     iterate 7 refine AX ?_
     refine .p rfl (zV (0) Tryz.underlying170 Tryz.sizeOf112 (tm rfl) zF (by omega) (by omega)) ?_
     refine AX ?_
     refine .s rfl (zH Tryz.call209 (evs2 rfl rfl) (alS b33 0 (zE a).length (zE a).length ((zE b).getD 0 0) (by omega) (by omega) (zE a) (zJ _) (by omega) (by omega) _ (Heap.objs_set_same _ _ _))) ?_
     rintro _ _ ⟨rfl, ws, hwl, hwL, hwv, hH⟩
     obtain rfl := hH.symm
     rw [amZ hwl, Heap.set_set]
     rw [List.drop_zero, List.take_of_length_le (by omega), hg, zM] at *
     iterate 4 refine AX ?_
     refine AWP.frzU (t := 7) rfl hb33 (by omega) (Nat.le_refl _) (by simp only [zP]; omega) ?_
     rw [List.take_of_length_le (l := ws) (by omega)]
     iterate 2 refine AX ?_
     refine .cl rfl Tryz.call203 (evs1 rfl) (qN ws .shared hwL (by omega) _) ?_
     refine AX ?_
     refine .p rfl (zT Tryz.underlying112 Tryz.underlying30 (tm rfl) (wrapN64 (by omega))) (.cl rfl Tryz.call122 (evs1 rfl) (alH _ (by omega) _) ?_)
     iterate 7 refine AX ?_
     refine Ret.go (.cons (.tmp _ _ rfl) (.cons (.tmp _ _ rfl) (.cons (.tmp _ _ rfl) .nil))) _ (Heap.le.refl _) ?_
     refine ⟨?_, rfl⟩
     rw [hwv]; rfl
    ·iterate 5 refine AX ?_
     refine .cl rfl Tryz.call203 (evs1 rfl) (cutB _ (by omega) _) ?_
     refine AX ?_
     refine .cl rfl Tryz.call210 (evs2 rfl rfl) (bdO _ _ (by omega) (by omega) (by omega) _) ?_
     iterate 17 refine AX ?_
     refine Ret.go (.cons (.tmp _ _ rfl) (.cons (.tmp _ _ rfl) (.cons (.tmp _ _ rfl) .nil))) _ (Heap.le.refl _) ?_
     exact ⟨rfl, rfl⟩

end
end Go.Proofs.YtfkeflcdadlmdaaGreatDoor
