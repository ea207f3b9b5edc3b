import Derived.Test.YtmmgbnolccpjoaaGreatDoorYd
import Derived.Test.YtmmgbnolccpjoaaGreatDoorN2
import Derived.Test.YtmmgbnolccpjoaaGreatDoorSsk
import Derived.Test.YtmmgbnolccpjoaaGreatDoorS6
namespace Go.Proofs.YtmmgbnolccpjoaaGreatDoor
theorem aqL (x : Nat) : x &&& 4294967295 = x % 4294967296 := Nat.and_two_pow_sub_one_eq_mod x 32
def amR (u low br : Nat) : Nat := ((u + (18446744073709551616 - low % 4294967296)) % 18446744073709551616 + (18446744073709551616 - br)) % 18446744073709551616
theorem arB {u low br : Nat} (hu : u < 4294967296) (hb : br ≤ 1) : amR u low br / 9223372036854775808 ≤ 1 ∧ u + 4294967296 * (amR u low br / 9223372036854775808) = amR u low br % 4294967296 + low % 4294967296 + br := by
 unfold amR
 have : low % 4294967296 < 4294967296 := Nat.mod_lt _ (by decide)
 generalize low % 4294967296 = l at *
 omega
theorem ayX {ws us vs : List Nat} {i c br d : Nat} (hi : i < ws.length) (hg : ws.getD i 0 = us.getD i 0) (hu : us.getD i 0 < 4294967296) (hb : br ≤ 1)
  (h : val (us.take i) + 4294967296 ^ i * (c + br) = val (ws.take i) + d * val (vs.take i)) :
  val (us.take (i + 1)) + 4294967296 ^ (i + 1) * ((d * vs.getD i 0 / 4294967296 + (d * vs.getD i 0 % 4294967296 + c) / 4294967296) + amR (us.getD i 0) (d * vs.getD i 0 % 4294967296 + c) br / 9223372036854775808)
   = val ((ws.set i (amR (us.getD i 0) (d * vs.getD i 0 % 4294967296 + c) br % 4294967296)).take (i + 1)) + d * val (vs.take (i + 1)) := by
 obtain ⟨_, e⟩ := arB (low := d * vs.getD i 0 % 4294967296 + c) hu hb
 rw [adJ hi, qG us, qG vs, Nat.mul_add d, Nat.mul_left_comm d, Nat.pow_succ]
 generalize amR (us.getD i 0) (d * vs.getD i 0 % 4294967296 + c) br / 9223372036854775808 = b2 at *
 generalize amR (us.getD i 0) (d * vs.getD i 0 % 4294967296 + c) br % 4294967296 = z at *
 generalize us.getD i 0 = u at *
 generalize d * vs.getD i 0 = p at *
 generalize d * val (vs.take i) = dv at *
 generalize 4294967296 ^ i = B at *
 have e2 : u + 4294967296 * (p / 4294967296 + (p % 4294967296 + c) / 4294967296 + b2) = z + p + (c + br) := by omega
 have e3 : B * (u + 4294967296 * (p / 4294967296 + (p % 4294967296 + c) / 4294967296 + b2)) = B * (z + p + (c + br)) := by rw [e2]
 rw [Nat.mul_add, Nat.mul_add B, Nat.mul_add B, ← Nat.mul_assoc] at e3
 omega
theorem auG {p c : Nat} (hp : p ≤ 18446744065119617025) (hc : c < 4294967296) : p / 4294967296 + (p % 4294967296 + c) / 4294967296 < 4294967296 := by omega
theorem apT {d y : Nat} (hd : d < 4294967296) (hy : y < 4294967296) : d * y ≤ 18446744065119617025 := by
 have : d * y ≤ 4294967295 * 4294967295 := Nat.mul_le_mul (by omega) (by omega)
 exact this
theorem guess_ge {U V T v1 X : Nat} (hX : 0 < X) (hU : U < (T + 1) * X) (hV : v1 * X ≤ V) (h1 : 0 < v1) : U / V ≤ T / v1 := by
 rw [Nat.le_div_iff_mul_le h1]
 have h2 : U / V * V ≤ U := Nat.div_mul_le_self U V
 have h3 : U / V * (v1 * X) ≤ U / V * V := Nat.mul_le_mul_left _ hV
 have h4 : U / V * v1 * X < (T + 1) * X := by rw [Nat.mul_assoc]; omega
 have h5 := Nat.lt_of_mul_lt_mul_right h4
 omega
theorem baS {U V d v1 v2 u2 r X T : Nat} (hX : 0 < X) (ht : d * v1 + r = T) (hU : U < ((T * 4294967296 + u2) + 1) * X) (hV : (v1 * 4294967296 + v2) * X ≤ V) (hx : r * 4294967296 + u2 < d * v2) : U / V < d := by
 have h2 : U / V * V ≤ U := Nat.div_mul_le_self U V
 have h3 : U / V * ((v1 * 4294967296 + v2) * X) ≤ U / V * V := Nat.mul_le_mul_left _ hV
 have h4 : U / V * (v1 * 4294967296 + v2) * X < ((T * 4294967296 + u2) + 1) * X := by rw [Nat.mul_assoc]; omega
 have h5 := Nat.lt_of_mul_lt_mul_right h4
 have h6 : T * 4294967296 + u2 < d * (v1 * 4294967296 + v2) := by
  rw [← ht, Nat.add_mul, Nat.mul_add, Nat.mul_assoc]; omega
 have h7 : U / V * (v1 * 4294967296 + v2) < d * (v1 * 4294967296 + v2) := by omega
 exact Nat.lt_of_mul_lt_mul_right h7
theorem bfR {U V d v1 v2 u2 r X T : Nat} (hX : 0 < X) (hd : d < 4294967296) (hv1 : 2147483648 ≤ v1) (ht : d * v1 + r = T) (hU : (T * 4294967296 + u2) * X ≤ U) (hV : V < ((v1 * 4294967296 + v2) + 1) * X) (hV2 : (v1 * 4294967296 + v2) * X ≤ V) (hx : d * v2 ≤ r * 4294967296 + u2) : d ≤ U / V + 1 := by
 have h1 : d * (v1 * 4294967296 + v2) ≤ T * 4294967296 + u2 := by
  rw [← ht, Nat.add_mul, Nat.mul_add, Nat.mul_assoc]; omega
 have h2 : d * (v1 * 4294967296 + v2) * X ≤ U := Nat.le_trans (Nat.mul_le_mul_right _ h1) hU
 have h3 : d * V ≤ d * (((v1 * 4294967296 + v2) + 1) * X) := Nat.mul_le_mul_left _ (by omega)
 have h4 : d * (((v1 * 4294967296 + v2) + 1) * X) = d * (v1 * 4294967296 + v2) * X + d * X := by
  rw [Nat.add_mul, Nat.mul_add, Nat.one_mul, Nat.mul_assoc]
 have h5 : d * X ≤ V := by
  have : d * X ≤ (v1 * 4294967296 + v2) * X := Nat.mul_le_mul_right _ (by omega)
  omega
 have hV0 : 0 < V := by
  have : 0 < (v1 * 4294967296 + v2) * X := Nat.mul_pos (by omega) hX
  omega
 have h6 : d * V ≤ U + V := by omega
 have h7 : (d - 1) * V ≤ U := by rw [Nat.sub_mul, Nat.one_mul]; omega
 have h8 := (Nat.le_div_iff_mul_le hV0).2 h7
 omega
theorem bcY {U V d w b2 N : Nat} (hV : 0 < V) (hw : w < N) (hd1 : U / V ≤ d) (hd2 : d ≤ U / V + 1) (hU : U < N) (h : U + N * b2 = w + d * V) (hb : b2 ≤ 1) :
  (b2 = 0 → d = U / V ∧ w = U % V) ∧ (b2 = 1 → d = U / V + 1 ∧ (w + V) % N = U % V) := by
 have e := Nat.div_add_mod U V
 have hm := Nat.mod_lt U hV
 rw [Nat.mul_comm] at e
 generalize U / V = q at *
 generalize U % V = m at *
 rcases Nat.lt_or_ge d (q + 1) with h1 | h1
 ·grind
 ·have : d = q + 1 := by omega
  subst this
  rw [Nat.add_mul, Nat.one_mul] at h
  refine ⟨fun h0 => ?_, fun h0 => ⟨rfl, ?_⟩⟩
  ·grind
  ·subst h0
   have : w + V = m + N := by omega
   rw [this, Nat.add_mod_right, Nat.mod_eq_of_lt (by omega)]
section
open Go Go.RowKit

def bcX (vs : List Nat) (tl : Tail) (b o n cp d : Nat) (zs : List Nat) (H : Heap) : Nat → Env → Heap → Prop := fun k env H1 => ∃ (i c br : Nat) (ws : List Nat), i ≤ n ∧ ws.length = n ∧ Limbs ws ∧ c < 4294967296 ∧ br ≤ 1 ∧ (∀ j, i ≤ j → ws.getD j 0 = ((zs.drop o).take n).getD j 0) ∧ val (((zs.drop o).take n).take i) + 4294967296 ^ i * (c + br) = val (ws.take i) + d * val (vs.take i) ∧ (vs.length < i → c = 0) ∧ env = [(0, .mslice (some ⟨b, o, none⟩) n cp), (1, .slice 1 (U .u32 vs) tl), (2, .int .u64 (d : Int)), (7, .int .u64 (c : Int)), (8, .int .u64 (br : Int)), (14, .int .i64 (n : Int)), (15, .int .i64 (i : Int))] ∧ H1 = H.set b (.box 166 (U .u32 (mid zs o ws))) ∧ k = n - i

set_option maxRecDepth 100000 in
theorem auH (vs : List Nat) (tl : Tail) (hv : Limbs vs) (hl : vs.length ≤ 1000000) (b o n cp d : Nat) (hd : d < 4294967296) (hvn : vs.length < n) (zs : List Nat) (hz : Limbs zs) (hn : o + n ≤ zs.length) (hn2 : n ≤ 1000000) (H : Heap) (hb : H.objs b = some (.box 166 (U .u32 zs))) : ACall Tryz.prog 341 [.mslice (some ⟨b, o, none⟩) n cp, .slice 1 (U .u32 vs) tl, .int .u64 (d : Int)] H (fun y H' => ∃ (b2 : Nat) (ws : List Nat), b2 ≤ 1 ∧ ws.length = n ∧ Limbs ws ∧ val ((zs.drop o).take n) + 4294967296 ^ n * b2 = val ws + d * val vs ∧ y = .bool (decide (0 < b2)) ∧ H' = H.set b (.box 166 (U .u32 (mid zs o ws)))) := by
 refine ACall.of_body Tryz.func341 rfl Tryz.ntmps341 Tryz.results341 rfl ?_
 iterate 7 refine AX ?_
 refine .p rfl (zD (zE 0)) (.p rfl (zD (zE 0)) ?_)
 iterate 11 refine AX ?_
 refine AWP.loopW (bcX vs tl b o n cp d zs H) (n) ⟨0, 0, 0, ((zs.drop o).take n), Nat.zero_le _, by simp; omega, (hz.drop _).take _, by omega, by omega, fun j _ => rfl, by simp [val], fun h => rfl, rfl, (Heap.set_self (by rw [ajU hn]; exact hb)).symm, rfl⟩ sX (Heap.le.refl _) ?_
 rintro _ _ _ ⟨i, c, br, ws, hi, hw, hwl, hc, hbr, hg, hval, hc0, rfl, rfl, hk⟩
 iterate 6 refine AX ?_
 refine AWP.cx rfl (fun hc16 => ?_) (fun hc16 => ?_)
 ·have hy := Limbs.getD hv i
  have hdy := apT hd hy
  have hal := aqL (d * vs.getD i 0)
  have hal2 := aqL (d * vs.getD i 0 % 4294967296 + c)
  have hcc := auG hdy hc
  have hu := Limbs.getD ((hz.drop o).take n) i
  have hml := acZ (o := o) hw hn
  have hgi := hg i (Nat.le_refl i)
  have hgm := (avL (zs := zs) (o := o) (i := i) (by omega) (by omega : i < ws.length)).trans hgi
  have hgz := Limbs.getD (acG (o := o) hz hwl) (o + i)
  obtain ⟨hx1, hx2⟩ := arB (low := (d * vs.getD i 0 % 4294967296 + c)) hu hbr
  have hst := ayX (by omega : i < ws.length) hgi hu hbr hval
  have hX : amR (((zs.drop o).take n).getD i 0) (d * vs.getD i 0 % 4294967296 + c) br < 18446744073709551616 := Nat.mod_lt _ (by decide)
  iterate 12 refine AX ?_
  refine .p rfl (zD (zE 0)) ?_
  iterate 2 refine AX ?_
  refine AWP.seqToL [(10, .int .u64 ((d * vs.getD i 0 : Nat) : Int))] [0, 1, 2, 7, 8, 14, 15, 9] ?_ ?_
  ·iterate 8 refine AX ?_
   refine AWP.cx rfl (fun hc21 => ?_) (fun hc21 => ?_)
   ·iterate 4 refine AX ?_
    refine .p rfl (zX (i) Tryz.underlying239 Tryz.sizeOf166 (tm rfl) (tm rfl) (by omega) (by omega)) ?_
    iterate 2 refine AX ?_
    refine .p rfl (qX (tm rfl) (tm rfl) (by omega)) ?_
    iterate 2 refine AX ?_
    exact ⟨rfl, (zZ rfl (by rfl) sX), rfl⟩
   ·refine AX ?_
    exact ⟨rfl, (zZ rfl (by (rw [aeS (by omega), Nat.mul_zero])) sX), rfl⟩
  ·refine AWP.sub [(10, _), (0, _), (1, _), (2, _), (7, _), (8, _), (14, _), (15, _), (9, _)] sX ?_
   refine AWP.seqToL [(11, .int .u64 (((d * vs.getD i 0 % 4294967296 + c) : Nat) : Int))] [10, 0, 1, 2, 7, 8, 14, 15, 9] ?_ ?_
   ·-- region 8
    iterate 2 refine AX ?_
    refine .p rfl (qQ (tm rfl) (zE 4294967295) (by omega) (by omega)) ?_
    iterate 4 refine AX ?_
    exact ⟨rfl, (zZ rfl (by rw [aqL]) sX), rfl⟩
   ·refine AWP.sub [(11, _), (10, _), (0, _), (1, _), (2, _), (7, _), (8, _), (14, _), (15, _), (9, _)] sX ?_
    refine AWP.seqToL [(7, .int .u64 ((d * vs.getD i 0 / 4294967296 + (d * vs.getD i 0 % 4294967296 + c) / 4294967296 : Nat) : Int))] [11, 0, 1, 2, 8, 14, 15, 9] ?_ ?_
    ·-- region 9
     iterate 2 refine AX ?_
     refine .p rfl (zW (tm rfl) (zE 32) (by omega)) ?_
     refine AX ?_
     refine .p rfl (zW (tm rfl) (zE 32) (by omega)) ?_
     iterate 3 refine AX ?_
     exact ⟨rfl, (zZ rfl (by rfl) sX), rfl⟩
    ·refine AWP.sub [(7, _), (11, _), (0, _), (1, _), (2, _), (8, _), (14, _), (15, _), (9, _)] sX ?_
     refine AWP.seqToL [(12, .int .u64 ((amR (((zs.drop o).take n).getD i 0) (d * vs.getD i 0 % 4294967296 + c) br : Nat) : Int))] [7, 0, 1, 2, 8, 14, 15, 9] ?_ ?_
     ·-- region 10
      iterate 3 refine AX ?_
      refine .p rfl (aaR (i) Tryz.underlying239 Tryz.sizeOf166 (tm rfl) (tm rfl) (by omega) (by omega)) (.e rfl (qN Tryz.isAgg166 (tm rfl) (Heap.objs_set_same _ _ _) (by omega)) ?_)
      iterate 2 refine AX ?_
      refine .p rfl (qQ (tm rfl) (zE 4294967295) (by omega) (by omega)) ?_
      iterate 5 refine AX ?_
      exact ⟨rfl, (zZ rfl (by rw [hgm, aqL]; rfl) sX), rfl⟩
     ·refine AWP.sub [(12, _), (7, _), (0, _), (1, _), (2, _), (8, _), (14, _), (15, _), (9, _)] sX ?_
      iterate 6 refine AX ?_
      refine .p rfl (zW (tm rfl) (zE 63) (by assumption)) (.p rfl (aaR (i) Tryz.underlying239 Tryz.sizeOf166 (tm rfl) (tm rfl) (by omega) (by omega)) (.e0 (qS Tryz.sizeOf166 (tm rfl) (tm rfl) (Heap.objs_set_same _ _ _) (by omega)) ?_))
      try first | rw [Heap.set_set] | rw [Heap.set_under (by assumption)]
      iterate 9 refine AX ?_
      refine Round.mk (J := bcX vs tl b o n cp d zs H) ⟨i + 1, _, _, _, by omega, by simpa using hw, Limbs.set hwl (Nat.mod_lt _ (by decide)), hcc, hx1, fun j hj => by rw [getD_set_ne (by omega)]; exact hg j (by omega), hst, fun h => by rw [aeS (by omega), Nat.mul_zero]; omega, rfl, by rw [apV (by omega) (by omega)]; rfl, rfl⟩ sX (Heap.le.refl _) (by omega)
 ·iterate 8 refine AX ?_
  refine .p rfl (yQ (tm rfl) (zE 0)) ?_
  iterate 4 refine AX ?_
  refine Ret.go (.cons (.tmp _ _ rfl) .nil) _ (Heap.le.refl _) ?_
  have hin : i = n := by omega
  subst hin
  rw [hc0 hvn, Nat.zero_add, List.take_of_length_le (by simp; omega), List.take_of_length_le (l := ws) (by omega), List.take_of_length_le (l := vs) (by omega)] at hval
  exact ⟨br, ws, hbr, hw, hwl, hval, by simp [zU], rfl⟩

def bfU (vs : List Nat) (tl : Tail) (b o n cp : Nat) (zs : List Nat) (H : Heap) : Nat → Env → Heap → Prop := fun k env H1 => ∃ (i c : Nat) (ws : List Nat), i ≤ n ∧ ws.length = n ∧ Limbs ws ∧ c ≤ 1 ∧ (∀ j, i ≤ j → ws.getD j 0 = ((zs.drop o).take n).getD j 0) ∧ val (ws.take i) + 4294967296 ^ i * c = val (((zs.drop o).take n).take i) + val (vs.take i) ∧ env = [(0, .mslice (some ⟨b, o, none⟩) n cp), (1, .slice 1 (U .u32 vs) tl), (4, .int .u32 (c : Int)), (8, .int .i64 (n : Int)), (9, .int .i64 (i : Int))] ∧ H1 = H.set b (.box 166 (U .u32 (mid zs o ws))) ∧ k = n - i

set_option maxRecDepth 100000 in
theorem avT (vs : List Nat) (tl : Tail) (hv : Limbs vs) (hl : vs.length ≤ 1000000) (b o n cp : Nat) (hvn : vs.length < n) (zs : List Nat) (hz : Limbs zs) (hn : o + n ≤ zs.length) (hn2 : n ≤ 1000000) (H : Heap) (hb : H.objs b = some (.box 166 (U .u32 zs))) : ACall Tryz.prog 342 [.mslice (some ⟨b, o, none⟩) n cp, .slice 1 (U .u32 vs) tl] H (fun _ H' => ∃ (ws : List Nat), ws.length = n ∧ Limbs ws ∧ val ws = (val ((zs.drop o).take n) + val vs) % 4294967296 ^ n ∧ H' = H.set b (.box 166 (U .u32 (mid zs o ws)))) := by
 refine ACall.of_body Tryz.func342 rfl Tryz.ntmps342 Tryz.results342 rfl ?_
 iterate 2 refine AX ?_
 refine .p rfl (zD (zE 0)) ?_
 iterate 10 refine AX ?_
 refine AWP.loopW (bfU vs tl b o n cp zs H) (n) ⟨0, 0, ((zs.drop o).take n), Nat.zero_le _, by simp; omega, (hz.drop _).take _, by omega, fun j _ => rfl, by simp [val], rfl, (Heap.set_self (by rw [ajU hn]; exact hb)).symm, rfl⟩ sX (Heap.le.refl _) ?_
 rintro _ _ _ ⟨i, c, ws, hi, hw, hwl, hc, hg, hval, rfl, rfl, hk⟩
 iterate 6 refine AX ?_
 refine AWP.cx rfl (fun hc10 => ?_) (fun hc10 => ?_)
 ·have hy := Limbs.getD hv i
  have hu := Limbs.getD ((hz.drop o).take n) i
  have hml := acZ (o := o) hw hn
  have hgi := hg i (Nat.le_refl i)
  have hgm := (avL (zs := zs) (o := o) (i := i) (by omega) (by omega : i < ws.length)).trans hgi
  have hgz := Limbs.getD (acG (o := o) hz hwl) (o + i)
  iterate 12 refine AX ?_
  refine .p rfl (zD (zE 0)) ?_
  iterate 2 refine AX ?_
  refine AWP.seqToL [(6, .int .u32 ((vs.getD i 0 : Nat) : Int))] [0, 1, 4, 8, 9, 5] ?_ ?_
  ·iterate 8 refine AX ?_
   refine AWP.cx rfl (fun hc15 => ?_) (fun hc15 => ?_)
   ·iterate 3 refine AX ?_
    refine .p rfl (zX (i) Tryz.underlying239 Tryz.sizeOf166 (tm rfl) (tm rfl) (by omega) (by omega)) ?_
    iterate 3 refine AX ?_
    exact ⟨rfl, (zZ rfl (by rfl) sX), rfl⟩
   ·refine AX ?_
    exact ⟨rfl, (zZ rfl (by (rw [aeS (by omega)] <;> rfl)) sX), rfl⟩
  ·refine AWP.sub [(6, _), (0, _), (1, _), (4, _), (8, _), (9, _), (5, _)] sX ?_
   iterate 5 refine AX ?_
   refine .p rfl (aaR (i) Tryz.underlying239 Tryz.sizeOf166 (tm rfl) (tm rfl) (by omega) (by omega)) (.e rfl (qN Tryz.isAgg166 (tm rfl) (Heap.objs_set_same _ _ _) (by omega)) ?_)
   iterate 2 refine AX ?_
   refine .cl rfl Tryz.call339 (evs3 rfl rfl rfl) (amQ _ _ _ (by assumption) (by assumption) (by omega) _) ?_
   iterate 3 refine AX ?_
   refine .p rfl (aaR (i) Tryz.underlying239 Tryz.sizeOf166 (tm rfl) (tm rfl) (by omega) (by omega)) (.e0 (qS Tryz.sizeOf166 (tm rfl) (tm rfl) (Heap.objs_set_same _ _ _) (by omega)) ?_)
   try first | rw [Heap.set_set] | rw [Heap.set_under (by assumption)]
   iterate 9 refine AX ?_
   rw [hgm]
   refine Round.mk (J := bfU vs tl b o n cp zs H) ⟨i + 1, _, _, by omega, by simpa using hw, Limbs.set hwl (Nat.mod_lt _ (by decide)), by omega, fun j hj => by rw [getD_set_ne (by omega)]; exact hg j (by omega), ayK (by omega) hval, rfl, by rw [apV (by omega) (by omega)], rfl⟩ sX (Heap.le.refl _) (by omega)
 ·iterate 4 refine AX ?_
  refine Ret.go' .nil _ (Heap.le.refl _) ?_
  have hin : i = n := by omega
  subst hin
  rw [List.take_of_length_le (l := ((zs.drop o).take i)) (by simp; omega), List.take_of_length_le (l := vs) (by omega)] at hval
  exact ⟨ws, hw, hwl, awV hwl hw hval, rfl⟩

end
theorem aeF {zs : List Nat} {k : Nat} (h : k < zs.length) : val (zs.drop k) = zs.getD k 0 + 4294967296 * val (zs.drop (k + 1)) := by
 rw [List.drop_eq_getElem_cons h, val, List.getD_eq_getElem?_getD, List.getElem?_eq_getElem h]; rfl
theorem mid_mid {zs ws xs : List Nat} {o : Nat} (hl : ws.length = xs.length) (ho : o ≤ zs.length) : mid (mid zs o ws) o xs = mid zs o xs := by
 have e : (zs.take o).length = o := by rw [List.length_take]; omega
 unfold mid
 congr 1
 ·grind
 ·rw [List.drop_append, List.drop_of_length_le (by simp; omega), List.nil_append, List.drop_drop, hl]
  congr 1
  simp; omega
theorem val_mid {zs ws : List Nat} {o : Nat} (ho : o ≤ zs.length) : val (mid zs o ws) = val (zs.take o) + 4294967296 ^ o * (val ws + 4294967296 ^ ws.length * val (zs.drop (o + ws.length))) := by
 unfold mid
 rw [List.append_assoc, aaJ, aaJ, List.length_take, Nat.min_eq_left ho]
theorem aqY {l M X : Nat} (h : l < X) : M * X ≤ l + X * M ∧ l + X * M < (M + 1) * X := by
 grind
theorem top2 {vs : List Nat} {n : Nat} (hn : 2 ≤ n) (hv : vs.length = n) (hl : Limbs vs) :
  (vs.getD (n - 1) 0 * 4294967296 + vs.getD (n - 2) 0) * 4294967296 ^ (n - 2) ≤ val vs ∧ val vs < (vs.getD (n - 1) 0 * 4294967296 + vs.getD (n - 2) 0 + 1) * 4294967296 ^ (n - 2) := by
 have h1 := adL (xs := vs) (k := n - 2) (by omega)
 have h2 := aiB hl (k := n - 2) (by omega)
 have h3 := aeF (zs := vs) (k := n - 2) (by omega)
 have h4 := aeF (zs := vs) (k := n - 2 + 1) (by omega)
 rw [show n - 2 + 1 = n - 1 by omega] at *
 rw [List.drop_of_length_le (i := n - 1 + 1) (by omega), val] at h4
 rw [h3, h4] at h1
 generalize 4294967296 ^ (n - 2) = X at *
 generalize vs.getD (n - 1) 0 = a at *
 generalize vs.getD (n - 2) 0 = b at *
 rw [show b + 4294967296 * (a + 4294967296 * 0) = a * 4294967296 + b by omega] at h1
 rw [h1]
 exact aqY h2
theorem top3 {us : List Nat} {n : Nat} (hn : 2 ≤ n) (hv : us.length = n + 1) (hl : Limbs us) :
  ((us.getD n 0 * 4294967296 + us.getD (n - 1) 0) * 4294967296 + us.getD (n - 2) 0) * 4294967296 ^ (n - 2) ≤ val us ∧ val us < ((us.getD n 0 * 4294967296 + us.getD (n - 1) 0) * 4294967296 + us.getD (n - 2) 0 + 1) * 4294967296 ^ (n - 2) := by
 have h1 := adL (xs := us) (k := n - 2) (by omega)
 have h2 := aiB hl (k := n - 2) (by omega)
 have h3 := aeF (zs := us) (k := n - 2) (by omega)
 have h4 := aeF (zs := us) (k := n - 2 + 1) (by omega)
 have h5 := aeF (zs := us) (k := n - 2 + 1 + 1) (by omega)
 rw [List.drop_of_length_le (i := n - 2 + 1 + 1 + 1) (by omega), val] at h5
 rw [h3, h4, h5] at h1
 rw [show n - 2 + 1 + 1 = n by omega, show n - 2 + 1 = n - 1 by omega] at h1
 generalize 4294967296 ^ (n - 2) = X at *
 generalize us.getD n 0 = c at *
 generalize us.getD (n - 1) 0 = a at *
 generalize us.getD (n - 2) 0 = b at *
 rw [show b + 4294967296 * (a + 4294967296 * (c + 4294967296 * 0)) = (c * 4294967296 + a) * 4294967296 + b by omega] at h1
 rw [h1]
 exact aqY h2
theorem arL {zs : List Nat} {j n V : Nat} (hz : Limbs zs) (hj : j + (n + 1) ≤ zs.length) (hV : V < 4294967296 ^ n) (h : val zs < V * 4294967296 ^ (j + 1)) :
  val (zs.drop (j + (n + 1))) = 0 ∧ val zs = val (zs.take j) + 4294967296 ^ j * val ((zs.drop j).take (n + 1)) := by
 have h1 := adL (xs := zs) (k := j) (by omega)
 have h2 := adL (xs := zs.drop j) (k := n + 1) (by simp; omega)
 rw [List.drop_drop] at h2
 have h3 : V * 4294967296 ^ (j + 1) ≤ 4294967296 ^ j * 4294967296 ^ (n + 1) := by
  rw [Nat.pow_succ, Nat.pow_succ, Nat.mul_comm V, Nat.mul_assoc, Nat.mul_comm 4294967296 V]
  exact Nat.mul_le_mul_left _ (Nat.mul_le_mul_right _ (Nat.le_of_lt hV))
 have h0 : val (zs.drop (j + (n + 1))) = 0 := by
  rcases Nat.eq_zero_or_pos (val (zs.drop (j + (n + 1)))) with h4 | h4
  ·exact h4
  ·exfalso
   have h5 : 4294967296 ^ (n + 1) * 1 ≤ 4294967296 ^ (n + 1) * val (zs.drop (j + (n + 1))) := Nat.mul_le_mul_left _ h4
   have h6 : 4294967296 ^ j * 4294967296 ^ (n + 1) ≤ 4294967296 ^ j * val (zs.drop j) := Nat.mul_le_mul_left _ (by omega)
   omega
 rw [h0, Nat.mul_zero, Nat.add_zero] at h2
 exact ⟨h0, by rw [h1, h2]⟩
theorem beZ {zs ws qs : List Nat} {j n V A : Nat} (hz : Limbs zs) (hj : j + (n + 1) ≤ zs.length) (hV : V < 4294967296 ^ n) (h0 : 0 < V) (h : val zs < V * 4294967296 ^ (j + 1)) (hw : ws.length = n + 1) (hv : val ws = val ((zs.drop j).take (n + 1)) % V)
  (hq : j < qs.length) (hA : A = val (qs.drop (j + 1)) * V * 4294967296 ^ (j + 1) + val zs) :
  val (mid zs j ws) < V * 4294967296 ^ j ∧ A = val ((qs.set j (val ((zs.drop j).take (n + 1)) / V)).drop j) * V * 4294967296 ^ j + val (mid zs j ws) := by
 obtain ⟨hr, he⟩ := arL hz hj hV h
 have ht := aiB hz (k := j) (by omega)
 rw [val_mid (by omega), hw, hr, Nat.mul_zero, Nat.add_zero, hv]
 have hq2 : val ((qs.set j (val ((zs.drop j).take (n + 1)) / V)).drop j) = val ((zs.drop j).take (n + 1)) / V + 4294967296 * val (qs.drop (j + 1)) := by
  rw [aeF (by simpa using hq), apZ hq, List.drop_set_of_lt (by omega)]
 rw [hq2]
 generalize val ((zs.drop j).take (n + 1)) = U at *
 have hm := Nat.mod_lt U h0
 have hd := Nat.div_add_mod U V
 constructor
 ·have : 4294967296 ^ j * (U % V + 1) ≤ 4294967296 ^ j * V := Nat.mul_le_mul_left _ hm
  rw [Nat.mul_add, Nat.mul_one] at this
  rw [Nat.mul_comm V]
  omega
 ·grind
theorem piece_lt {zs : List Nat} {j n V : Nat} (hz : Limbs zs) (hj : j + (n + 1) ≤ zs.length) (hV : V < 4294967296 ^ n) (h : val zs < V * 4294967296 ^ (j + 1)) : val ((zs.drop j).take (n + 1)) < V * 4294967296 := by
 obtain ⟨_, he⟩ := arL hz hj hV h
 have : 4294967296 ^ j * val ((zs.drop j).take (n + 1)) < 4294967296 ^ j * (V * 4294967296) := by
  rw [Nat.pow_succ, ← Nat.mul_assoc, Nat.mul_comm V, Nat.mul_assoc] at h
  omega
 exact Nat.lt_of_mul_lt_mul_left this
section
open Go Go.RowKit

def aoR (A V j : Nat) (zs qs : List Nat) : Prop := val zs < V * 4294967296 ^ j ∧ A = val (qs.drop j) * V * 4294967296 ^ j + val zs
def bhB (vs : List Nat) (n : Nat) : Prop := 2147483648 * 4294967296 ^ (n - 1) ≤ val vs ∧ val vs < 4294967296 ^ n
theorem aiD {x : Nat} (h : x < 4294967296) : x * 2 ^ 32 < 18446744073709551616 := by
 rw [show (2 : Nat) ^ 32 = 4294967296 by decide]; omega
theorem d_fits {d v r T : Nat} (h : d * v + r = T) (hT : T < 18446744073709551616) (hv : 0 < v) : d < 18446744073709551616 := by
 have : d * 1 ≤ d * v := Nat.mul_le_mul_left _ hv
 omega
theorem rv_fits {r v : Nat} (h : r < 4294967296) (k : v < 4294967296) : r + v < 18446744073709551616 := by omega
theorem or_big {x y : Nat} (h : x < 4294967296) (k : y < 4294967296) : x * 2 ^ 32 ||| y < 18446744073709551616 := by
 rw [afE (k := 32) (Nat.lt_of_lt_of_eq k (by decide)), show (2 : Nat) ^ 32 = 4294967296 by decide]; omega
theorem big32 {x : Nat} (h : x < 4294967296) : x < 18446744073709551616 := by omega
theorem top_big {x y : Nat} (h : x < 4294967296) (k : y < 4294967296) : x * 4294967296 + y < 18446744073709551616 := by omega
theorem norm_ok {y n s : Nat} (hy : 0 < y) (hn : (zF y).length = n) (hs : 32 - yE ((zF y).getD (n - 1) 0) = s) : s < 32 ∧ 2147483648 * 4294967296 ^ (n - 1) ≤ y * 2 ^ s ∧ y * 2 ^ s < 4294967296 ^ n := by
 have h1 := aiP hy
 rw [hn] at h1
 have h2 : 0 < yE y := by rw [blen_pos hy]; omega
 have h3 := (yW (n := (zF y).getD (n - 1) 0) (k := 32)).2 (Limbs.getD (zK y) _)
 have hn0 : 0 < n := by rw [← hn, qE hy]; simp
 have h4 : y < 2 ^ yE y := yW.1 (Nat.le_refl _)
 have h5 : 2 ^ (yE y - 1) ≤ y := by
  rcases Nat.lt_or_ge y (2 ^ (yE y - 1)) with h | h
  ·have := yW.2 h; omega
  ·exact h
 have h6 : 0 < yE ((zF y).getD (n - 1) 0) := by
  rcases Nat.eq_zero_or_pos (yE ((zF y).getD (n - 1) 0)) with h | h
  ·exfalso
   have h7 := yW.1 (Nat.le_of_eq h)
   have h8 : (zF y).getD (n - 1) 0 = 0 := by simpa using h7
   have h9 := adW (xs := zF y) (k := n - 1) (by omega)
   rw [if_pos h8, List.take_of_length_le (by omega), aeR, hn] at h9
   have h10 := aaF ((zF y).take (n - 1))
   rw [← h9, List.length_take] at h10
   omega
  ·exact h
 have e1 : (4294967296 : Nat) ^ n = 2 ^ (yE y + s) := by rw [show (4294967296 : Nat) = 2 ^ 32 by decide, ← Nat.pow_mul]; congr 1; omega
 have e2 : 2147483648 * 4294967296 ^ (n - 1) = 2 ^ (yE y - 1 + s) := by rw [show (4294967296 : Nat) = 2 ^ 32 by decide, show (2147483648 : Nat) = 2 ^ 31 by decide, ← Nat.pow_mul, ← Nat.pow_add]; congr 1; omega
 refine ⟨by omega, ?_, ?_⟩
 ·rw [e2, Nat.pow_add]; exact Nat.mul_le_mul_right _ h5
 ·rw [e1, Nat.pow_add]; exact Nat.mul_lt_mul_of_pos_right h4 (Nat.pow_pos (by decide))
theorem baL {x y s n m la : Nat} (hx : x < 4294967296 ^ la) (hs : s < 32) (hm : la = n + m) (hn : 0 < n) (hV : 2147483648 * 4294967296 ^ (n - 1) ≤ y * 2 ^ s) : x * 2 ^ s < y * 2 ^ s * 4294967296 ^ (m + 1) ∧ x * 2 ^ s < 4294967296 ^ (la + 1) := by
 have h1 : 2 ^ s ≤ 2 ^ 31 := Nat.pow_le_pow_right (by decide) (by omega)
 have h2 : x * 2 ^ s < 4294967296 ^ la * 2147483648 := Nat.mul_lt_mul_of_lt_of_le hx h1 (by decide)
 constructor
 ·have h3 : 4294967296 ^ la * 2147483648 ≤ y * 2 ^ s * 4294967296 ^ (m + 1) := by
   rw [show 4294967296 ^ la = 4294967296 ^ (n - 1) * 4294967296 ^ (m + 1) by rw [← Nat.pow_add]; congr 1; omega, Nat.mul_right_comm]
   exact Nat.mul_le_mul_right _ (by rw [Nat.mul_comm]; exact hV)
  exact Nat.lt_of_lt_of_le h2 h3
 ·rw [Nat.pow_succ]
  exact Nat.lt_of_lt_of_le h2 (Nat.mul_le_mul_left _ (by decide))
theorem len_mono {x y : Nat} (h : y ≤ x) : (zF y).length ≤ (zF x).length := qK.2 (Nat.lt_of_le_of_lt h (qK.1 (Nat.le_refl _)))
theorem long_end {x y s V Q R : Nat} (hV : V = y * 2 ^ s) (hlt : R < V) (hA : x * 2 ^ s = Q * V + R) : Q = x / y ∧ R = x % y * 2 ^ s := by
 have h1 : x * 2 ^ s / V = Q := by rw [hA, Nat.mul_comm, Nat.mul_add_div (by omega), Nat.div_eq_of_lt hlt, Nat.add_zero]
 have h2 : x * 2 ^ s % V = R := by rw [hA, Nat.mul_comm, Nat.mul_add_mod, Nat.mod_eq_of_lt hlt]
 rw [hV, Nat.mul_div_mul_right _ _ (Nat.pow_pos (by decide))] at h1
 rw [hV, Nat.mul_mod_mul_right] at h2
 exact ⟨h1.symm, h2.symm⟩
theorem Heap.fresh_inv {H : Heap} {b c : Nat} {x : AObj} (h : (H.set b x).objs c = none) : H.objs c = none := by
 rwa [Heap.objs_set_ne _ _ (Ne.symm (Heap.fresh_ne h))] at h
theorem bcZ {rs A : List Nat} {i v : Nat} (hi : i < rs.length) (hA : i < A.length) (h : rs.take i = A.take i) (hv : v = A.getD i 0) : (rs.set i v).take (i + 1) = A.take (i + 1) := by
 subst hv
 have h1 : i < (rs.set i (A.getD i 0)).length := by simpa using hi
 rw [← List.take_append_getElem h1, ← List.take_append_getElem hA, List.take_set_of_le (Nat.le_refl _), h, List.getElem_set_self, List.getD_eq_getElem?_getD, List.getElem?_eq_getElem hA]; rfl
theorem bbJ {U V T u2 v1 v2 X : Nat} (hU1 : (T * 4294967296 + u2) * X ≤ U) (hU2 : U < (T * 4294967296 + u2 + 1) * X) (hV1 : (v1 * 4294967296 + v2) * X ≤ V) (hV2 : V < (v1 * 4294967296 + v2 + 1) * X) (hpl : U < V * 4294967296)
  (hu2 : u2 < 4294967296) (hv2 : v2 < 4294967296) (hV : 2147483648 * (4294967296 * X) ≤ V) (hX : 0 < X) :
  2147483648 ≤ v1 ∧ T < (v1 + 1) * 4294967296 ∧ 0 < V ∧ U / V < 4294967296 ∧ U / V ≤ T / v1 ∧ (∀ d r, d * v1 + r = T → r * 4294967296 + u2 < d * v2 → U / V < d) ∧ (∀ d r, d < 4294967296 → d * v1 + r = T → d * v2 ≤ r * 4294967296 + u2 → d ≤ U / V + 1) := by
 have hv1 : 2147483648 ≤ v1 := by
  have h1 : 2147483648 * 4294967296 * X < (v1 * 4294967296 + v2 + 1) * X := by rw [Nat.mul_assoc]; omega
  have h2 := Nat.lt_of_mul_lt_mul_right h1
  omega
 have hV0 : 0 < V := by
  have : 0 < (v1 * 4294967296 + v2) * X := Nat.mul_pos (by omega) hX
  omega
 refine ⟨hv1, ?_, hV0, ?_, ?_, ?_, ?_⟩
 ·have h1 : (T * 4294967296 + u2) * X < ((v1 * 4294967296 + v2 + 1) * 4294967296) * X := by
   rw [Nat.mul_right_comm _ 4294967296 X]
   omega
  have h2 := Nat.lt_of_mul_lt_mul_right h1
  omega
 ·rw [Nat.div_lt_iff_lt_mul hV0, Nat.mul_comm]; exact hpl
 ·refine guess_ge (X := 4294967296 * X) (by omega) ?_ ?_ (by omega)
  ·have h1 : (T * 4294967296 + u2 + 1) * X ≤ ((T + 1) * 4294967296) * X := Nat.mul_le_mul_right _ (by omega)
   rw [Nat.mul_assoc (T + 1)] at h1
   omega
  ·have h1 : (v1 * 4294967296) * X ≤ (v1 * 4294967296 + v2) * X := Nat.mul_le_mul_right _ (by omega)
   rw [Nat.mul_assoc v1] at h1
   omega
 ·intro d r hdr hx
  exact baS hX hdr hU2 hV1 hx
 ·intro d r hd hdr hx
  exact bfR hX hd hv1 hdr hU1 hV2 hV1 hx
theorem avX {zs vs : List Nat} {j n : Nat} (hn : 2 ≤ n) (hz : Limbs zs) (hj : j + (n + 1) ≤ zs.length) (hvl : vs.length = n) (hv : Limbs vs) {A : Nat} {qs : List Nat} (hN : bhB vs n) (hO : aoR A (val vs) (j + 1) zs qs) :
  2147483648 ≤ vs.getD (n - 1) 0 ∧ zs.getD (j + n) 0 * 4294967296 + zs.getD (j + (n - 1)) 0 < (vs.getD (n - 1) 0 + 1) * 4294967296 ∧ 0 < val vs ∧ val ((zs.drop j).take (n + 1)) / val vs < 4294967296 ∧
  val ((zs.drop j).take (n + 1)) / val vs ≤ (zs.getD (j + n) 0 * 4294967296 + zs.getD (j + (n - 1)) 0) / vs.getD (n - 1) 0 ∧
  (∀ d r, d * vs.getD (n - 1) 0 + r = zs.getD (j + n) 0 * 4294967296 + zs.getD (j + (n - 1)) 0 → r * 4294967296 + zs.getD (j + (n - 2)) 0 < d * vs.getD (n - 2) 0 → val ((zs.drop j).take (n + 1)) / val vs < d) ∧
  (∀ d r, d < 4294967296 → d * vs.getD (n - 1) 0 + r = zs.getD (j + n) 0 * 4294967296 + zs.getD (j + (n - 1)) 0 → d * vs.getD (n - 2) 0 ≤ r * 4294967296 + zs.getD (j + (n - 2)) 0 → d ≤ val ((zs.drop j).take (n + 1)) / val vs + 1) := by
 obtain ⟨hV, hVn⟩ := hN
 obtain ⟨h, _⟩ := hO
 have hPl : ((zs.drop j).take (n + 1)).length = n + 1 := by simp; omega
 have hPL : Limbs ((zs.drop j).take (n + 1)) := (hz.drop _).take _
 obtain ⟨hU1, hU2⟩ := top3 hn hPl hPL
 obtain ⟨hV1, hV2⟩ := top2 hn hvl hv
 rw [aeC (by omega), aeC (by omega), aeC (by omega)] at hU1 hU2
 have hpl := piece_lt (j := j) hz hj hVn h
 have hu2 := Limbs.getD hz (j + (n - 2))
 have hv2 := Limbs.getD hv (n - 2)
 have hXe : 4294967296 ^ (n - 1) = 4294967296 * 4294967296 ^ (n - 2) := by rw [← Nat.pow_succ', show (n - 2).succ = n - 1 by omega]
 have hX : 0 < 4294967296 ^ (n - 2) := Nat.pow_pos (by decide)
 rw [hXe] at hV
 exact bbJ hU1 hU2 hV1 hV2 hpl hu2 hv2 hV hX
theorem awK {zs ws : List Nat} {j n d b2 V : Nat} (hz : Limbs zs) (hj : j + (n + 1) ≤ zs.length) (hV : 0 < V) (hw : ws.length = n + 1) (hwL : Limbs ws) (hd1 : val ((zs.drop j).take (n + 1)) / V ≤ d) (hd2 : d ≤ val ((zs.drop j).take (n + 1)) / V + 1) (h : val ((zs.drop j).take (n + 1)) + 4294967296 ^ (n + 1) * b2 = val ws + d * V) (hb : b2 ≤ 1) :
  (b2 = 0 → d = val ((zs.drop j).take (n + 1)) / V ∧ val ws = val ((zs.drop j).take (n + 1)) % V) ∧ (b2 = 1 → d = val ((zs.drop j).take (n + 1)) / V + 1 ∧ (val ws + V) % 4294967296 ^ (n + 1) = val ((zs.drop j).take (n + 1)) % V) := by
 have hPl : ((zs.drop j).take (n + 1)).length = n + 1 := by simp; omega
 have hPL : Limbs ((zs.drop j).take (n + 1)) := (hz.drop _).take _
 have hU3 := akA hPL
 have hwlt := akA hwL
 rw [hPl] at hU3
 rw [hw] at hwlt
 exact bcY hV hwlt hd1 hd2 hU3 h hb
theorem baM {zs ws qs vs : List Nat} {j n A : Nat} (hz : Limbs zs) (hj : j + (n + 1) ≤ zs.length) (hN : bhB vs n) (h0 : 0 < val vs) (hO : aoR A (val vs) (j + 1) zs qs) (hw : ws.length = n + 1) (hv : val ws = val ((zs.drop j).take (n + 1)) % val vs) (hq : j < qs.length) :
  aoR A (val vs) j (mid zs j ws) (qs.set j (val ((zs.drop j).take (n + 1)) / val vs)) := beZ hz hj hN.2 h0 hO.1 hw hv hq hO.2
theorem bfB {x y s : Nat} {vs zs qs : List Nat} (hV : val vs = y * 2 ^ s) (hO : aoR (x * 2 ^ s) (val vs) 0 zs qs) : val zs < val vs ∧ val qs = x / y ∧ val zs = x % y * 2 ^ s := by
 obtain ⟨h1, h2⟩ := hO
 rw [Nat.pow_zero, Nat.mul_one] at h1
 rw [Nat.pow_zero, Nat.mul_one, List.drop_zero] at h2
 obtain ⟨h3, h4⟩ := long_end hV h1 h2
 exact ⟨h1, h3, h4⟩
theorem baO {x y s n m la : Nat} {vs us : List Nat} (hx : (zF x).length = la) (hy : 0 < y) (hs : s < 32) (hm : la = n + m) (hn : 0 < n) (h2 : 2147483648 * 4294967296 ^ (n - 1) ≤ y * 2 ^ s) (h3 : y * 2 ^ s < 4294967296 ^ n) (hv : val vs = val (zF y) * 2 ^ s % 4294967296 ^ n) (hu : val us = val (zF x) * 2 ^ s % 4294967296 ^ (la + 1)) :
  val vs = y * 2 ^ s ∧ bhB vs n ∧ aoR (x * 2 ^ s) (val vs) (m + 1) us (List.replicate (m + 1) 0) := by
 obtain ⟨hst1, hst2⟩ := baL (qK.1 (Nat.le_of_eq hx)) hs hm hn h2
 have hV : val vs = y * 2 ^ s := by rw [hv, zR, Nat.mod_eq_of_lt h3]
 have hU : val us = x * 2 ^ s := by rw [hu, zR, Nat.mod_eq_of_lt hst2]
 refine ⟨hV, ⟨by rw [hV]; exact h2, by rw [hV]; exact h3⟩, by rw [hU, hV]; exact hst1, ?_⟩
 rw [List.drop_of_length_le (by simp), val, Nat.zero_mul, Nat.zero_mul, Nat.zero_add, hU]
theorem break_ok {d v1 T r : Nat} (ht : d * v1 + r = T) (hT : T < (v1 + 1) * 4294967296) (hr : r < 4294967296) (hb : 4294967296 ≤ r + v1) (hd : 0 < d) (hv : 0 < v1) : d - 1 < 4294967296 := by
 rcases Nat.lt_or_ge (d - 1) 4294967296 with h | h
 ·exact h
 ·exfalso
  have h1 : (4294967296 + 1) * v1 ≤ d * v1 := Nat.mul_le_mul_right _ (by omega)
  rw [Nat.add_mul] at h1 hT
  omega
theorem down_eq {d v1 r T : Nat} (hd : 0 < d) (h : d * v1 + r = T) : (d - 1) * v1 + (r + v1) = T := by
 obtain ⟨e, rfl⟩ : ∃ e, d = e + 1 := ⟨d - 1, by omega⟩
 rw [Nat.add_mul] at h
 rw [Nat.add_sub_cancel]; omega
theorem shr_take {zs : List Nat} {n s V : Nat} (hz : Limbs zs) (hs : s < 32) (hn : n ≤ zs.length) (hV : V < 4294967296 ^ n) (h : val zs < V) : val ((aoZ s zs).take n) = val zs / 2 ^ s := by
 have h1 := adL (xs := aoZ s zs) (k := n) (by rw [ajQ]; exact hn)
 rw [aoY (by omega) hz] at h1
 have h2 : val zs / 2 ^ s ≤ val zs := Nat.div_le_self _ _
 have h3 : val ((aoZ s zs).drop n) = 0 := by
  rcases Nat.eq_zero_or_pos (val ((aoZ s zs).drop n)) with h | h
  ·exact h
  ·have : 4294967296 ^ n * 1 ≤ 4294967296 ^ n * val ((aoZ s zs).drop n) := Nat.mul_le_mul_left _ h
   omega
 rw [h3] at h1
 omega

def long_J (s n m b38 b49 : Nat) (vs : List Nat) (A : Nat) (H : Heap) : Nat → Env → Heap → Prop := fun k env H1 => ∃ (i : Nat) (zs qs : List Nat), i ≤ m + 1 ∧ zs.length = n + m + 1 ∧ Limbs zs ∧ qs.length = m + 1 ∧ Limbs qs ∧ aoR A (val vs) (m + 1 - i) zs qs ∧ env = [(6, .int .i64 (s : Int)), (7, .int .i64 (n : Int)), (8, .int .i64 (m : Int)), (9, .slice 1 (U .u32 vs) .shared), (10, .mslice (some ⟨b38, 0, none⟩) (n + m + 1) (n + m + 1)), (11, .mslice (some ⟨b49, 0, none⟩) (m + 1) (m + 1)), (51, .int .i64 ((m : Int) + 1)), (52, .int .i64 (i : Int))] ∧ H1 = (H.set b38 (.box 166 (U .u32 zs))).set b49 (.box 166 (U .u32 qs)) ∧ k = m + 1 - i

def bfD (s n m b38 b49 i T : Nat) (vs zs qs : List Nat) (H : Heap) : Nat → Env → Heap → Prop := fun k env H1 => ∃ (d r : Nat), d * vs.getD (n - 1) 0 + r = T ∧ r < 4294967296 ∧ (val ((zs.drop (m - i)).take (n + 1)) / val vs) ≤ d ∧ env = [(15, .int .u64 (d : Int)), (16, .int .u64 (r : Int)), (13, .int .i64 ((m - i : Nat) : Int)), (6, .int .i64 (s : Int)), (7, .int .i64 (n : Int)), (8, .int .i64 (m : Int)), (9, .slice 1 (U .u32 vs) .shared), (10, .mslice (some ⟨b38, 0, none⟩) (n + m + 1) (n + m + 1)), (11, .mslice (some ⟨b49, 0, none⟩) (m + 1) (m + 1)), (51, .int .i64 ((m : Int) + 1)), (52, .int .i64 (i : Int))] ∧ H1 = (H.set b38 (.box 166 (U .u32 zs))).set b49 (.box 166 (U .u32 qs)) ∧ k = d

def avP (s n m b38 b49 i : Nat) (vs zs qs : List Nat) (H : Heap) : Env → Heap → Prop := fun env H1 => ∃ d : Nat, d < 4294967296 ∧ (val ((zs.drop (m - i)).take (n + 1)) / val vs) ≤ d ∧ d ≤ (val ((zs.drop (m - i)).take (n + 1)) / val vs) + 1 ∧ env = [(15, .int .u64 (d : Int)), (13, .int .i64 ((m - i : Nat) : Int)), (6, .int .i64 (s : Int)), (7, .int .i64 (n : Int)), (8, .int .i64 (m : Int)), (9, .slice 1 (U .u32 vs) .shared), (10, .mslice (some ⟨b38, 0, none⟩) (n + m + 1) (n + m + 1)), (11, .mslice (some ⟨b49, 0, none⟩) (m + 1) (m + 1)), (51, .int .i64 ((m : Int) + 1)), (52, .int .i64 (i : Int))] ∧ H1 = (H.set b38 (.box 166 (U .u32 zs))).set b49 (.box 166 (U .u32 qs))
def avO (s n m b38 b49 i : Nat) (vs zs qs : List Nat) (H : Heap) : Env → Heap → Prop := fun env H1 => ∃ ws : List Nat, ws.length = n + 1 ∧ Limbs ws ∧ val ws = val ((zs.drop (m - i)).take (n + 1)) % val vs ∧ env = [(15, .int .u64 (((val ((zs.drop (m - i)).take (n + 1)) / val vs) : Nat) : Int)), (13, .int .i64 ((m - i : Nat) : Int)), (6, .int .i64 (s : Int)), (7, .int .i64 (n : Int)), (8, .int .i64 (m : Int)), (9, .slice 1 (U .u32 vs) .shared), (10, .mslice (some ⟨b38, 0, none⟩) (n + m + 1) (n + m + 1)), (11, .mslice (some ⟨b49, 0, none⟩) (m + 1) (m + 1)), (51, .int .i64 ((m : Int) + 1)), (52, .int .i64 (i : Int))] ∧ H1 = (H.set b38 (.box 166 (U .u32 (mid zs (m - i) ws)))).set b49 (.box 166 (U .u32 qs))

def bfC (n s b157 : Nat) (zs : List Nat) (e : Env) (H : Heap) : Nat → Env → Heap → Prop := fun k env H1 => ∃ (i : Nat) (rs : List Nat), i ≤ n ∧ rs.length = n ∧ Limbs rs ∧ rs.take i = (aoZ s zs).take i ∧ env = [(6, .int .i64 (s : Int)), (10, .slice 1 (U .u32 zs) .shared), (17, .mslice (some ⟨b157, 0, none⟩) n n), (158, .int .i64 (n : Int)), (159, .int .i64 (i : Int))] ++ e ∧ H1 = H.set b157 (.box 166 (U .u32 rs)) ∧ k = n - i

set_option maxRecDepth 100000 in
set_option maxHeartbeats 4000000 in
theorem baN (x y : Nat) (hy : 2 ≤ (zF y).length) (hxy : y ≤ x) (hx : x < BIG) (H : Heap) : ACall Tryz.prog 318 [aaP x, aaP y] H (fun z H' => z = .tuple [aaP (x / y), aaP (x % y)] ∧ H' = H) := by
 have hy256 := aaC (n := y) (by omega)
 have hx256 := aaC hx
 have hxl := len_mono hxy
 have hy0 : 0 < y := by
  rcases Nat.eq_zero_or_pos y with h | h
  ·rw [h, qV] at hy; simp at hy
  ·exact h
 refine ACall.of_body Tryz.func318 rfl Tryz.ntmps318 Tryz.results318 rfl ?_
 iterate 2 refine AX ?_
 refine .p rfl (zD (aaO (sz := 1) (tl := .shared))) ?_
 refine .p rfl (zD (aaO (sz := 1) (tl := .shared))) ?_
 iterate 8 refine AX ?_
 refine .p rfl (zX ((zF y).length - 1) Tryz.underlying239 Tryz.sizeOf166 (tm rfl) (tm rfl) (by omega) (by omega)) ?_
 refine AX ?_
 refine .cl rfl Tryz.call340 (evs1 rfl) (bcE _ (Limbs.getD (zK _) _) _) ?_
 iterate 3 refine AX ?_
 refine AWP.seqToL [(7, .int .i64 (((zF y).length : Nat) : Int)), (8, .int .i64 (((zF x).length - (zF y).length : Nat) : Int))] [0, 1, 4, 5, 6] ?_ ?_
 ·-- region 2
  iterate 11 refine AX ?_
  exact ⟨rfl, (zZ rfl (by rfl) (zZ rfl (by (congr 1; omega)) sX)), rfl⟩
 ·refine AWP.sub [(7, _), (8, _), (0, _), (1, _), (4, _), (5, _), (6, _)] sX ?_
  generalize hs : 32 - yE ((zF y).getD ((zF y).length - 1) 0) = s
  obtain ⟨hs1, hs2, hs3⟩ := norm_ok hy0 rfl hs
  generalize hn : (zF y).length = n at *
  generalize hmm : (zF x).length - n = m at *
  have hla : (zF x).length = n + m := by omega
  refine AWP.meet (fun env H1 => ∃ b34 b38 : Nat, b34 ≠ b38 ∧ H.objs b34 = none ∧ H.objs b38 = none ∧ env = [(0, aaP x), (1, aaP y), (6, .int .i64 (s : Int)), (7, .int .i64 (n : Int)), (8, .int .i64 (m : Int)), (9, .mslice (some ⟨b34, 0, none⟩) n n), (10, .mslice (some ⟨b38, 0, none⟩) (n + m + 1) (n + m + 1))] ∧ H1 = (H.set b34 (.box 166 (U .u32 (List.replicate n 0)))).set b38 (.box 166 (U .u32 (List.replicate (n + m + 1) 0)))) ?_ ?_
  ·-- region 3
   refine AWP.draw2 [(0, true), (2, true), (3, true), (4, true)] 1 5 [(6, true), (5, false), (7, true)] [(1, false), (6, true), (7, true)] rfl (by decide +kernel) ?_
   iterate 5 refine AX ?_
   refine ⟨?_, ?_⟩
   ·refine XTwo.s rfl rfl (yI (n) Tryz.underlying239 Tryz.typeInfo166 Tryz.sizeOf166 Tryz.zeroValue166 (tm rfl) (tm rfl) (by omega) (by omega) (by decide) (by omega)) ?_
    rintro _ _ ⟨b34, rfl, hb34, hH⟩
    obtain rfl := hH.symm
    refine AX ?_
    refine .s rfl rfl (yI (n + m + 1) Tryz.underlying239 Tryz.typeInfo166 Tryz.sizeOf166 Tryz.zeroValue166 (tm rfl) (tm rfl) (by omega) (by omega) (by decide) (by omega)) ?_
    rintro _ _ ⟨b38, rfl, hb38, hH⟩
    obtain rfl := hH.symm
    iterate 3 refine AX ?_
    refine Meets.mk (M := fun env H1 => ∃ b34 b38 : Nat, b34 ≠ b38 ∧ H.objs b34 = none ∧ H.objs b38 = none ∧ env = [(0, aaP x), (1, aaP y), (6, .int .i64 (s : Int)), (7, .int .i64 (n : Int)), (8, .int .i64 (m : Int)), (9, .mslice (some ⟨b34, 0, none⟩) n n), (10, .mslice (some ⟨b38, 0, none⟩) (n + m + 1) (n + m + 1))] ∧ H1 = (H.set b34 (.box 166 (U .u32 (List.replicate n 0)))).set b38 (.box 166 (U .u32 (List.replicate (n + m + 1) 0)))) ⟨b34, b38, Heap.fresh_ne hb38, hb34, Heap.fresh_inv hb38, rfl, rfl⟩ sX (Heap.le.refl _)
   ·refine XTwo.s rfl rfl (yI (n + m + 1) Tryz.underlying239 Tryz.typeInfo166 Tryz.sizeOf166 Tryz.zeroValue166 (tm rfl) (tm rfl) (by omega) (by omega) (by decide) (by omega)) ?_
    rintro _ _ ⟨b38, rfl, hb38, hH⟩
    obtain rfl := hH.symm
    refine .s rfl rfl (yI (n) Tryz.underlying239 Tryz.typeInfo166 Tryz.sizeOf166 Tryz.zeroValue166 (tm rfl) (tm rfl) (by omega) (by omega) (by decide) (by omega)) ?_
    rintro _ _ ⟨b34, rfl, hb34, hH⟩
    obtain rfl := hH.symm
    iterate 4 refine AX ?_
    refine Meets.mk (M := fun env H1 => ∃ b34 b38 : Nat, b34 ≠ b38 ∧ H.objs b34 = none ∧ H.objs b38 = none ∧ env = [(0, aaP x), (1, aaP y), (6, .int .i64 (s : Int)), (7, .int .i64 (n : Int)), (8, .int .i64 (m : Int)), (9, .mslice (some ⟨b34, 0, none⟩) n n), (10, .mslice (some ⟨b38, 0, none⟩) (n + m + 1) (n + m + 1))] ∧ H1 = (H.set b34 (.box 166 (U .u32 (List.replicate n 0)))).set b38 (.box 166 (U .u32 (List.replicate (n + m + 1) 0)))) ⟨b34, b38, (Heap.fresh_ne hb34).symm, Heap.fresh_inv hb34, hb38, rfl, Heap.set_comm (Heap.fresh_ne hb34) _ _⟩ sX (Heap.le.refl _)
  ·rintro _ _ ⟨b34, b38, hne, hb34, hb38, rfl, rfl⟩
   iterate 5 refine AX ?_
   refine .s rfl (zC Tryz.call315 (evs3 rfl rfl rfl) (agI (zF y) .shared (zK _) (by omega) b34 0 n n s (List.replicate n 0) (Limbs.rep (by omega)) (by simp) (by omega) (by omega) _ ((Heap.objs_set_ne _ _ hne).trans (Heap.objs_set_same _ _ _)))) ?_
   rintro _ _ ⟨vs, hvl, hvL, hvv, hH⟩
   obtain rfl := hH.symm
   rw [alM (by simpa using hvl), Heap.set_swap hne]
   iterate 3 refine AX ?_
   refine AWP.frzU (t := 9) rfl ((Heap.objs_set_ne _ _ hne).trans hb34) (by omega) (Nat.le_refl _) (by simp only [zN]; omega) ?_
   rw [List.take_of_length_le (l := vs) (by omega)]
   iterate 4 refine AX ?_
   refine .s rfl (zC Tryz.call315 (evs3 rfl rfl rfl) (agI (zF x) .shared (zK _) (by omega) b38 0 (n + m + 1) (n + m + 1) s (List.replicate (n + m + 1) 0) (Limbs.rep (by omega)) (by simp) (by omega) (by omega) _ (Heap.objs_set_same _ _ _))) ?_
   rintro _ _ ⟨us, hul, huL, huv, hH⟩
   obtain rfl := hH.symm
   rw [alM (by simpa using hul), Heap.set_set]
   iterate 6 refine AX ?_
   refine .s rfl (yI (m + 1) Tryz.underlying239 Tryz.typeInfo166 Tryz.sizeOf166 Tryz.zeroValue166 (tm rfl) (tm rfl) (by omega) (by omega) (by decide) (by omega)) ?_
   rintro _ _ ⟨b49, rfl, hb49, hH⟩
   obtain rfl := hH.symm
   iterate 5 refine AX ?_
   have hne2 : b38 ≠ b49 := Heap.fresh_ne hb49
   have hb49n : H.objs b49 = none := Heap.fresh_inv hb49
   obtain ⟨hV, hNV, hO0⟩ := baO (m := m) hla hy0 hs1 rfl (by omega) hs2 hs3 hvv huv
   clear hs2 hs3 hvv huv
   have hvv1 := Limbs.getD hvL (n - 1)
   have hvv2 := Limbs.getD hvL (n - 2)
   iterate 7 refine AX ?_
   refine AWP.loopW (long_J s n m b38 b49 vs (x * 2 ^ s) H) (m + 1) ⟨0, us, List.replicate (m + 1) 0, Nat.zero_le _, hul, huL, by simp, Limbs.rep (by omega), hO0, rfl, rfl, rfl⟩ sX (Heap.le.refl _) ?_
   rintro _ _ _ ⟨i, zs, qs, hi, hzl, hzL, hql, hqL, hO, rfl, rfl, hk⟩
   iterate 6 refine AX ?_
   refine AWP.cx rfl (fun hc53 => ?_) (fun hc53 => ?_)
   ·have hji : m + 1 - i = m - i + 1 := by omega
    rw [hji] at hO
    have hjn : m - i + n + 1 - (m - i) = n + 1 := by omega
    obtain ⟨hD1, hD2, hVpos, hD4, hD5, hD6, hD7⟩ := avX (j := m - i) hy hzL (by omega) hvl hvL hNV hO
    have hu0 := Limbs.getD hzL (m - i + n)
    have hu1 := Limbs.getD hzL (m - i + (n - 1))
    have hu2 := Limbs.getD hzL (m - i + (n - 2))
    have hu0s := aiD hu0
    have hu1s := big32 hu1
    have hu2s := big32 hu2
    have htop := top_big hu0 hu1
    have hD0 := Nat.lt_of_lt_of_le (by decide : 0 < 2147483648) hD1
    have hqm : (val ((zs.drop (m - i)).take (n + 1)) / val vs) % 2 ^ IntKind.u32.bits = (val ((zs.drop (m - i)).take (n + 1)) / val vs) := Nat.mod_eq_of_lt hD4
    iterate 10 refine AX ?_
    refine AWP.seqToL [(13, .int .i64 ((m - i : Nat) : Int))] [6, 7, 8, 9, 10, 11, 51, 52] ?_ ?_
    ·-- region 10
     iterate 6 refine AX ?_
     exact ⟨rfl, (zZ rfl (by congr 1; omega) sX), rfl⟩
    ·refine AWP.sub [(13, _), (6, _), (7, _), (8, _), (9, _), (10, _), (11, _), (51, _), (52, _)] sX ?_
     refine AWP.seqToL [(14, .int .u64 (((zs.getD (m - i + n) 0 * 4294967296 + zs.getD (m - i + (n - 1)) 0) : Nat) : Int))] [13, 6, 7, 8, 9, 10, 11, 51, 52] ?_ ?_
     ·-- region 11
      refine AWP.draw2 [(0, true), (1, true), (2, true), (3, true), (4, true), (8, true), (9, true), (10, true), (11, true), (12, true), (13, true)] 5 14 [(6, true), (7, true), (14, false), (15, true), (16, true), (17, true)] [(15, true), (5, false), (6, true), (7, true), (16, true), (17, true)] rfl (by decide +kernel) ?_
      iterate 4 refine AX ?_
      refine .p rfl rfl (yR (m - i + n) Tryz.underlying239 Tryz.sizeOf166 (tm rfl) (tm rfl) (by omega) (by omega)) ?_
      iterate 5 refine AX ?_
      refine .p rfl rfl (yR (m - i + (n - 1)) Tryz.underlying239 Tryz.sizeOf166 (tm rfl) (tm rfl) (by omega) (by omega)) ?_
      refine AX ?_
      refine ⟨?_, ?_⟩
      ·refine XTwo.s rfl rfl (qN Tryz.isAgg166 (tm rfl) ((Heap.objs_set_ne _ _ (by assumption)).trans (Heap.objs_set_same _ _ _)) (by omega)) ?_
       rintro _ _ ⟨rfl, hH⟩
       obtain rfl := hH.symm
       refine AX ?_
       refine .p rfl rfl (yV (tm rfl) (zE 32) (by omega) (by exact hu0s)) (.s rfl rfl (qN Tryz.isAgg166 (tm rfl) ((Heap.objs_set_ne _ _ (by assumption)).trans (Heap.objs_set_same _ _ _)) (by omega)) ?_)
       rintro _ _ ⟨rfl, hH⟩
       obtain rfl := hH.symm
       refine .p rfl rfl (qP Tryz.underlying166 Tryz.underlying22 (tm rfl) (wrapN64 (by assumption))) (.p rfl rfl (qW (tm rfl) (tm rfl) (hu0s) (hu1s)) ?_)
       iterate 2 refine AX ?_
       exact ⟨rfl, (zZ rfl (by rw [afE (k := 32) (Nat.lt_of_lt_of_eq hu1 (by decide))]) sX), rfl⟩
      ·refine XTwo.s rfl rfl (qN Tryz.isAgg166 (tm rfl) ((Heap.objs_set_ne _ _ (by assumption)).trans (Heap.objs_set_same _ _ _)) (by omega)) ?_
       rintro _ _ ⟨rfl, hH⟩
       obtain rfl := hH.symm
       refine .p rfl rfl (qP Tryz.underlying166 Tryz.underlying22 (tm rfl) (wrapN64 (by assumption))) (.s rfl rfl (qN Tryz.isAgg166 (tm rfl) ((Heap.objs_set_ne _ _ (by assumption)).trans (Heap.objs_set_same _ _ _)) (by omega)) ?_)
       rintro _ _ ⟨rfl, hH⟩
       obtain rfl := hH.symm
       refine AX ?_
       refine .p rfl rfl (yV (tm rfl) (zE 32) (by omega) (by exact hu0s)) (.p rfl rfl (qW (tm rfl) (tm rfl) (hu0s) (hu1s)) ?_)
       iterate 2 refine AX ?_
       exact ⟨rfl, (zZ rfl (by rw [afE (k := 32) (Nat.lt_of_lt_of_eq hu1 (by decide))]) sX), rfl⟩
     ·refine AWP.sub [(14, _), (13, _), (6, _), (7, _), (8, _), (9, _), (10, _), (11, _), (51, _), (52, _)] sX ?_
      refine AX ?_
      refine AWP.draw [(0, true), (1, true), (2, true), (3, true), (4, true), (5, true), (6, true), (7, true), (8, true), (9, true), (10, true), (11, true), (12, true), (13, true), (14, true), (15, true), (16, true), (17, true)] rfl (by decide +kernel) ?_
      iterate 4 refine AX ?_
      refine .p rfl rfl (zX (n - 1) Tryz.underlying239 Tryz.sizeOf166 (tm rfl) (tm rfl) (by omega) (by omega)) ?_
      iterate 2 refine AX ?_
      refine .p rfl rfl (adX (tm rfl) (tm rfl) (htop) (hD0)) ?_
      iterate 4 refine AX ?_
      refine .p rfl rfl (zX (n - 1) Tryz.underlying239 Tryz.sizeOf166 (tm rfl) (tm rfl) (by omega) (by omega)) ?_
      iterate 2 refine AX ?_
      refine .p rfl rfl (afS (tm rfl) (tm rfl) (hD0)) ?_
      iterate 4 refine AX ?_
      refine AWP.meet (avP s n m b38 b49 i vs zs qs H) ?_ ?_
      ·refine AX ?_
       refine AWP.loopW (bfD s n m b38 b49 i (zs.getD (m - i + n) 0 * 4294967296 + zs.getD (m - i + (n - 1)) 0) vs zs qs H) ((zs.getD (m - i + n) 0 * 4294967296 + zs.getD (m - i + (n - 1)) 0) / vs.getD (n - 1) 0) ⟨_, _, Nat.div_add_mod' _ _, Nat.lt_trans (Nat.mod_lt _ (by omega)) hvv1, hD5, rfl, rfl, rfl⟩ sX (Heap.le.refl _) ?_
       rintro _ _ _ ⟨d, r, hdr, hr, hq, rfl, rfl, hk2⟩
       have hd64 := d_fits hdr htop hD0
       refine AX ?_
       refine AWP.seqTo 115 (.bool (decide (4294967296 ≤ d ∨ r * 4294967296 + zs.getD (m - i + (n - 2)) 0 < d * vs.getD (n - 2) 0))) [15, 16, 13, 6, 7, 8, 9, 10, 11, 51, 52] ?_ ?_
       ·-- region 13
        refine awF (decide (((0 : Nat) : Int) < ((d / 2 ^ 32 : Nat) : Int))) (fun hg94 => ?_) (fun hg94 => ?_)
        ·have hdB : 4294967296 ≤ d := by simp at hg94; omega
         refine AWP.draw [(0, true), (1, true), (2, true), (3, true), (4, true), (5, true), (6, true), (7, true), (8, true), (9, true), (10, true), (11, true), (12, true), (13, true), (14, true), (15, true), (16, true), (17, true), (18, true), (19, true), (20, true), (21, true), (22, true), (23, true), (24, true)] rfl (by decide +kernel) ?_
         refine AX ?_
         refine .p rfl rfl (zW (tm rfl) (zE 32) (by exact hd64)) (.p rfl rfl (yQ (tm rfl) (zE 0)) ?_)
         iterate 23 refine AX ?_
         exact ⟨rfl, zS rfl (by (rw [eq_comm, decide_eq_true_eq]; omega)) sX, rfl⟩
        ·have hdB : d < 4294967296 := by simp at hg94; omega
         have hdv := apT hdB hvv2
         have hdvs : d * vs.getD (n - 2) 0 < 18446744073709551616 := Nat.lt_of_le_of_lt hdv (by decide)
         have hrs := aiD hr
         refine AWP.draw [(0, true), (1, true), (2, true), (3, true), (4, true), (5, true), (6, true), (7, true), (8, true), (9, true), (10, true), (11, true), (12, true), (13, true), (14, true), (15, true), (16, true), (17, true), (18, true), (19, true), (20, false), (21, true), (22, true), (23, true), (24, true)] rfl (by decide +kernel) ?_
         refine AX ?_
         refine .p rfl rfl (zW (tm rfl) (zE 32) (by exact hd64)) (.p rfl rfl (yQ (tm rfl) (zE 0)) ?_)
         iterate 5 refine AX ?_
         refine .gp rfl rfl rfl rfl (by assumption) (zX (n - 2) Tryz.underlying239 Tryz.sizeOf166 (tm rfl) (tm rfl) (by omega) (by omega)) ?_
         iterate 2 refine AX ?_
         refine .gp rfl rfl rfl rfl (by assumption) (qX (tm rfl) (tm rfl) (by exact hdvs)) ?_
         refine AX ?_
         refine .gp rfl rfl rfl rfl (by assumption) (yV (tm rfl) (zE 32) (by omega) (by exact hrs)) ?_
         iterate 5 refine AX ?_
         refine .gp rfl rfl rfl rfl (by assumption) (yR (m - i + (n - 2)) Tryz.underlying239 Tryz.sizeOf166 (tm rfl) (tm rfl) (by omega) (by omega)) (.gs rfl rfl rfl rfl (by assumption) (qN Tryz.isAgg166 (tm rfl) ((Heap.objs_set_ne _ _ (by assumption)).trans (Heap.objs_set_same _ _ _)) (by omega)) ?_)
         rintro _ _ ⟨rfl, hH⟩
         obtain rfl := hH.symm
         refine .gp rfl rfl rfl rfl (by assumption) (qP Tryz.underlying166 Tryz.underlying22 (tm rfl) (wrapN64 (by assumption))) (.gp rfl rfl rfl rfl (by assumption) (qW (tm rfl) (tm rfl) (hrs) (hu2s)) ?_)
         iterate 3 refine AX ?_
         exact ⟨rfl, zS rfl (by (rw [afE (k := 32) (Nat.lt_of_lt_of_eq hu2 (by decide)), show (2 : Nat) ^ 32 = 4294967296 by decide, decide_eq_decide]; omega)) sX, rfl⟩
       ·refine AWP.sub [(115, _), (15, _), (16, _), (13, _), (6, _), (7, _), (8, _), (9, _), (10, _), (11, _), (51, _), (52, _)] sX ?_
        refine AWP.cx rfl (fun hc115 => ?_) (fun hc115 => ?_)
        ·have hqd : (val ((zs.drop (m - i)).take (n + 1)) / val vs) < d := by
          rcases hc115 with h | h
          ·omega
          ·exact hD6 d r hdr h
         have hd1 : 1 ≤ d := Nat.lt_of_le_of_lt (Nat.zero_le _) hqd
         have hrv := rv_fits hr hvv1
         have hdn := down_eq hd1 hdr
         iterate 6 refine AX ?_
         refine .p rfl (aaQ (tm rfl) (zE 1) (hd1) (hd64)) ?_
         iterate 9 refine AX ?_
         refine .p rfl (zX (n - 1) Tryz.underlying239 Tryz.sizeOf166 (tm rfl) (tm rfl) (by omega) (by omega)) ?_
         iterate 2 refine AX ?_
         refine .p rfl (qB (tm rfl) (tm rfl) (by exact hrv)) ?_
         iterate 6 refine AX ?_
         refine .p rfl (zW (tm rfl) (zE 32) (by exact hrv)) (.p rfl (yQ (tm rfl) (zE 0)) ?_)
         iterate 2 refine AX ?_
         refine AWP.cx rfl (fun hc128 => ?_) (fun hc128 => ?_)
         ·have hbk := break_ok hdr hD2 hr (by omega) (by omega) (by omega)
          have hbv : (d - 1) * vs.getD (n - 2) 0 ≤ 18446744065119617025 := apT hbk hvv2
          iterate 5 refine AX ?_
          refine Meets.mk (M := avP s n m b38 b49 i vs zs qs H) ⟨d - 1, hbk, by omega, hD7 _ _ hbk hdn (by omega), rfl, rfl⟩ sX (Heap.le.refl _)
         ·iterate 3 refine AX ?_
          refine Round.mk (J := bfD s n m b38 b49 i (zs.getD (m - i + n) 0 * 4294967296 + zs.getD (m - i + (n - 1)) 0) vs zs qs H) ⟨d - 1, r + vs.getD (n - 1) 0, hdn, by omega, by omega, rfl, rfl, rfl⟩ sX (Heap.le.refl _) (by omega)
        ·iterate 5 refine AX ?_
         refine Meets.mk (M := avP s n m b38 b49 i vs zs qs H) ⟨d, by omega, hq, hD7 _ _ (by omega) hdr (by omega), rfl, rfl⟩ sX (Heap.le.refl _)
      ·rintro _ _ ⟨d, hdB, hd1, hd2, rfl, rfl⟩
       refine AWP.meet (avO s n m b38 b49 i vs zs qs H) ?_ ?_
       ·iterate 8 refine AX ?_
        refine .p rfl (ahC (m - i) (m - i + n + 1) Tryz.underlying239 Tryz.sizeOf166 (tm rfl) (tm rfl) (tm rfl) (by omega) (by omega) (by omega) (by omega) (by omega)) ?_
        iterate 2 refine AX ?_
        refine .s rfl (zC Tryz.call341 (evs3 rfl rfl rfl) (auH vs .shared hvL (by omega) b38 (0 + (m - i)) _ _ d hdB (by omega) zs hzL (by omega) (by omega) _ ((Heap.objs_set_ne _ _ hne2).trans (Heap.objs_set_same _ _ _)))) ?_
        rintro _ _ ⟨b2, ws, hb2, hwl, hwL, hval, rfl, hH⟩
        obtain rfl := hH.symm
        rw [Heap.set_under hne2]
        rw [Nat.zero_add, hjn] at hval
        rw [hjn] at hwl
        rw [Nat.zero_add]
        obtain ⟨hn0, hn1⟩ := awK hzL (by omega) hVpos hwl hwL hd1 hd2 hval hb2
        clear hval
        iterate 2 refine AX ?_
        refine AWP.cx rfl (fun hc138 => ?_) (fun hc138 => ?_)
        ·obtain ⟨hdd, hww⟩ := hn1 (by omega)
         have hd1 : 1 ≤ d := by rw [hdd]; exact Nat.le_add_left _ _
         iterate 3 refine AX ?_
         refine .p rfl (aaQ (tm rfl) (zE 1) (hd1) (big32 hdB)) ?_
         iterate 10 refine AX ?_
         refine .p rfl (ahC (m - i) (m - i + n + 1) Tryz.underlying239 Tryz.sizeOf166 (tm rfl) (tm rfl) (tm rfl) (by omega) (by omega) (by omega) (by omega) (by omega)) ?_
         refine AX ?_
         refine .s rfl (zC Tryz.call342 (evs2 rfl rfl) (avT vs .shared hvL (by omega) b38 (0 + (m - i)) _ _ (by omega) (mid zs (m - i) ws) (acG hzL hwL) (by rw [acZ hwl (by omega)]; omega) (by omega) _ ((Heap.objs_set_ne _ _ hne2).trans (Heap.objs_set_same _ _ _)))) ?_
         rintro _ _ ⟨ws2, hw2l, hw2L, hw2v, hH⟩
         obtain rfl := hH.symm
         rw [Heap.set_under hne2]
         rw [Nat.zero_add, hjn, asJ hwl (by omega)] at hw2v
         rw [hjn] at hw2l
         rw [Nat.zero_add, mid_mid (by omega) (by omega)]
         iterate 2 refine AX ?_
         refine Meets.mk (M := avO s n m b38 b49 i vs zs qs H) ⟨ws2, hw2l, hw2L, hw2v.trans hww, rfl, rfl⟩ (zZ rfl (by rw [hdd, Nat.add_sub_cancel]) sX) (Heap.le.refl _)
        ·obtain ⟨hdd, hww⟩ := hn0 (by omega)
         iterate 2 refine AX ?_
         refine Meets.mk (M := avO s n m b38 b49 i vs zs qs H) ⟨ws, hwl, hwL, hww, rfl, rfl⟩ (zZ rfl (by rw [hdd]) sX) (Heap.le.refl _)
       ·rintro _ _ ⟨ws, hwl, hwL, hwv, rfl, rfl⟩
        iterate 5 refine AX ?_
        refine .p rfl (yR (m - i) Tryz.underlying239 Tryz.sizeOf166 (tm rfl) (tm rfl) (by omega) (by omega)) (.e0 (qS Tryz.sizeOf166 (tm rfl) (tm rfl) (Heap.objs_set_same _ _ _) (by omega)) ?_)
        try first | rw [Heap.set_set] | rw [Heap.set_under (by assumption)]
        iterate 8 refine AX ?_
        have hL := baM hzL (by omega) hNV hVpos hO hwl hwv (by omega)
        rw [hqm]
        refine Round.mk (J := long_J s n m b38 b49 vs (x * 2 ^ s) H) ⟨i + 1, _, _, by omega, (acZ hwl (by omega)).trans hzl, acG hzL hwL, by simpa using hql, Limbs.set hqL hD4, by rw [show m + 1 - (i + 1) = m - i by omega]; exact hL, rfl, rfl, rfl⟩ sX (Heap.le.refl _) (by omega)
   ·iterate 6 refine AX ?_
    have hi2 : i = m + 1 := by omega
    subst hi2
    rw [Nat.sub_self] at hO
    obtain ⟨hlt, hQ, hR⟩ := bfB hV hO
    refine AWP.frzU (t := 11) rfl ((Heap.objs_set_ne _ _ hne2.symm).trans hb49n) (by omega) (Nat.le_refl _) (by simp only [zN]; omega) ?_
    rw [List.take_of_length_le (l := qs) (by omega)]
    refine AWP.frzU (t := 10) rfl hb38 (by omega) (Nat.le_refl _) (by simp only [zN]; omega) ?_
    rw [List.take_of_length_le (l := zs) (by omega)]
    iterate 2 refine AX ?_
    refine .s rfl (yI (n) Tryz.underlying239 Tryz.typeInfo166 Tryz.sizeOf166 Tryz.zeroValue166 (tm rfl) (tm rfl) (by omega) (by omega) (by decide) (by omega)) ?_
    rintro _ _ ⟨b157, rfl, hb157, hH⟩
    obtain rfl := hH.symm
    iterate 11 refine AX ?_
    refine AWP.loopW (bfC n s b157 zs [(11, .slice 1 (U .u32 qs) .shared)] H) (n) ⟨0, List.replicate n 0, Nat.zero_le _, by simp, Limbs.rep (by omega), rfl, rfl, rfl, rfl⟩ sX (Heap.le.refl _) ?_
    rintro _ _ _ ⟨i, rs, hi, hrl, hrL, hrs, rfl, rfl, hk⟩
    iterate 6 refine AX ?_
    refine AWP.cx rfl (fun hc160 => ?_) (fun hc160 => ?_)
    ·have hz0 := Limbs.getD hzL i
     have hz1 := Limbs.getD hzL (i + 1)
     have hz1s := aiD hz1
     have hz0s := big32 hz0
     have hor := or_big hz1 hz0
     have hsg := axB s (xs := zs) (i := i) (by omega)
     iterate 10 refine AX ?_
     refine AWP.draw [(0, true), (1, true), (2, true), (3, true), (4, true), (5, true), (6, true), (7, true), (8, true), (9, true), (10, true), (11, true), (12, true), (13, true), (14, true), (15, true), (16, true), (17, true), (18, true), (19, false)] rfl (by decide +kernel) ?_
     iterate 5 refine AX ?_
     refine .p rfl rfl (zX (i + 1) Tryz.underlying239 Tryz.sizeOf166 (tm rfl) (tm rfl) (by omega) (by omega)) ?_
     iterate 2 refine AX ?_
     refine .p rfl rfl (yV (tm rfl) (zE 32) (by omega) (by exact hz1s)) ?_
     iterate 2 refine AX ?_
     refine .p rfl rfl (zX (i) Tryz.underlying239 Tryz.sizeOf166 (tm rfl) (tm rfl) (by omega) (by omega)) ?_
     refine AX ?_
     refine .p rfl rfl (qP Tryz.underlying166 Tryz.underlying22 (tm rfl) (wrapN64 (by assumption))) (.p rfl rfl (qW (tm rfl) (tm rfl) (hz1s) (hz0s)) ?_)
     refine AX ?_
     refine .p rfl rfl (zW (tm rfl) (tm rfl) (by exact hor)) ?_
     refine AX ?_
     refine .p rfl rfl (yR (i) Tryz.underlying239 Tryz.sizeOf166 (tm rfl) (tm rfl) (by omega) (by omega)) (.s0 rfl (qS Tryz.sizeOf166 (tm rfl) (tm rfl) (Heap.objs_set_same _ _ _) (by omega)) ?_)
     rintro _ _ ⟨rfl, hH⟩
     obtain rfl := hH.symm
     try first | rw [Heap.set_set] | rw [Heap.set_under (by assumption)]
     iterate 8 refine AX ?_
     refine Round.mk (J := bfC n s b157 zs [(11, .slice 1 (U .u32 qs) .shared)] H) ⟨i + 1, _, by omega, by simpa using hrl, Limbs.set hrL (Nat.mod_lt _ (by decide)), bcZ (by omega) (by rw [ajQ]; omega) hrs (by rw [hsg, afE (k := 32) (Nat.lt_of_lt_of_eq hz0 (by decide)), Nat.add_comm]), rfl, rfl, rfl⟩ sX (Heap.le.refl _) (by omega)
    ·iterate 6 refine AX ?_
     have hi2 : i = n := by omega
     subst hi2
     refine AWP.frzU (t := 17) rfl hb157 (by omega) (Nat.le_refl _) (by simp only [zN]; omega) ?_
     rw [List.take_of_length_le (l := rs) (by omega)]
     rw [List.take_of_length_le (l := rs) (by omega)] at hrs
     have hRv : val rs = x % y := by
      rw [hrs, shr_take hzL hs1 (by omega) hNV.2 hlt, hR, Nat.mul_div_cancel _ (Nat.pow_pos (by decide))]
     iterate 2 refine AX ?_
     refine .cl rfl Tryz.call311 (evs1 rfl) (qF _ _ (by assumption) (by omega) _) ?_
     refine AX ?_
     refine .cl rfl Tryz.call311 (evs1 rfl) (qF _ _ (by assumption) (by omega) _) ?_
     iterate 5 refine AX ?_
     refine Ret.go (.cons (.tmp _ _ rfl) (.cons (.tmp _ _ rfl) .nil)) _ (Heap.le.refl _) ?_
     refine ⟨?_, rfl⟩
     rw [hQ, hRv]; rfl

end
section
open Go Go.RowKit

set_option maxRecDepth 100000 in
theorem ajI (a b : Nat) (hx : a < BIG) (hb0 : 0 < b) (hb : b < BIG) (H : Heap) : ACall Tryz.prog 273 [aaP a, aaP b] H (fun y H' => y = .tuple [aaP (a / b), aaP (a % b), .int .i64 0] ∧ H' = H) := by
 have ha256 := aaC hx
 have hb256 := aaC hb
 have hrb := aeR b
 have hva := zR a
 have hvb := zR b
 have hbl : 0 < (zF b).length := by rw [qE hb0]; simp
 refine ACall.of_body Tryz.func273 rfl Tryz.ntmps273 Tryz.results273 rfl ?_
 iterate 2 refine AX ?_
 refine .p rfl (zD (aaO (sz := 1) (tl := .shared))) ?_
 refine .p rfl (zD (aaO (sz := 1) (tl := .shared))) ?_
 iterate 9 refine AX ?_
 refine .e rfl (afO Tryz.underlying327 Tryz.sizeOf239 Tryz.zeroValue239 rfl (tm rfl) (.inl rfl) ⟨rfl, rfl⟩ (tm rfl) (.inl rfl) ⟨rfl, rfl⟩) (.cl rfl Tryz.call310 (evs1 rfl) (agQ _ _ (zK _) (by omega) _ _ _ (zK _) (by omega) _) ?_)
 iterate 3 refine AX ?_
 refine AWP.cx rfl (fun hc11 => ?_) (fun hc11 => ?_)
 ·omega
 ·iterate 3 refine AX ?_
  refine .cl rfl Tryz.call314 (evs1 rfl) (abG _ _ (zK _) (by omega) _) ?_
  iterate 4 refine AX ?_
  refine AWP.cx rfl (fun hc16 => ?_) (fun hc16 => ?_)
  ·omega
  ·iterate 4 refine AX ?_
   refine .cl rfl Tryz.call316 (evs2 rfl rfl) (cmpB _ _ hx (by omega) _) ?_
   iterate 4 refine AX ?_
   refine AWP.cx rfl (fun hc20 => ?_) (fun hc20 => ?_)
   ·have hlt := cmp_lt hc20
    iterate 3 refine AX ?_
    refine .cl rfl Tryz.call278 (evs1 rfl) (aiS _ _ (zK _) (by omega) _) ?_
    refine .p rfl (zD (aaO (sz := 1) (tl := .shared))) ?_
    iterate 7 refine AX ?_
    refine Ret.go (.cons (.tmp _ _ rfl) (.cons (.tmp _ _ rfl) (.cons (.tmp _ _ rfl) .nil))) _ (Heap.le.refl _) ?_
    refine ⟨?_, rfl⟩
    rw [Nat.div_eq_of_lt hlt, Nat.mod_eq_of_lt hlt, zR]; rfl
   ·have hge := cmp_ge (a := a) (b := b) (by omega)
    iterate 6 refine AX ?_
    refine .cl rfl Tryz.call311 (evs1 rfl) (cutB _ (by omega) _) ?_
    iterate 11 refine AX ?_
    refine AWP.cx rfl (fun hc31 => ?_) (fun hc31 => ?_)
    ·obtain ⟨hb1, _, hb2⟩ := len_one (b := b) (by omega)
     have hg : (zF b).getD 0 0 = b := by rw [hb1]; rfl
     have hml := Nat.mod_lt a hb0
     iterate 3 refine AX ?_
     refine .s rfl (zC Tryz.call278 (evs1 rfl) (ayL _ _ (zK _) (by omega) _)) ?_
     rintro _ _ ⟨b33, hb33, rfl, hH⟩
     obtain rfl := hH.symm
     rw [zR]
     iterate 7 refine AX ?_
     refine .p rfl (zX (0) Tryz.underlying239 Tryz.sizeOf166 (tm rfl) zI (by omega) (by omega)) ?_
     refine AX ?_
     refine .s rfl (zC Tryz.call317 (evs2 rfl rfl) (akM b33 0 (zF a).length (zF a).length ((zF b).getD 0 0) (by omega) (by omega) (zF a) (zK _) (by omega) (by omega) _ (Heap.objs_set_same _ _ _))) ?_
     rintro _ _ ⟨rfl, ws, hwl, hwL, hwv, hH⟩
     obtain rfl := hH.symm
     rw [alM hwl, Heap.set_set]
     rw [List.drop_zero, List.take_of_length_le (by omega), hg, zR] at *
     iterate 4 refine AX ?_
     refine AWP.frzU (t := 7) rfl hb33 (by omega) (Nat.le_refl _) (by simp only [zN]; omega) ?_
     rw [List.take_of_length_le (l := ws) (by omega)]
     iterate 2 refine AX ?_
     refine .cl rfl Tryz.call311 (evs1 rfl) (qF ws .shared hwL (by omega) _) ?_
     iterate 2 refine AX ?_
     refine .cl rfl Tryz.call230 (evs1 rfl) (ajY _ (by omega) _) ?_
     iterate 7 refine AX ?_
     refine Ret.go (.cons (.tmp _ _ rfl) (.cons (.tmp _ _ rfl) (.cons (.tmp _ _ rfl) .nil))) _ (Heap.le.refl _) ?_
     refine ⟨?_, rfl⟩
     rw [hwv]; rfl
    ·iterate 5 refine AX ?_
     refine .cl rfl Tryz.call311 (evs1 rfl) (cutB _ (by omega) _) ?_
     refine AX ?_
     refine .cl rfl Tryz.call318 (evs2 rfl rfl) (baN _ _ (by omega) (by omega) (by omega) _) ?_
     iterate 17 refine AX ?_
     refine Ret.go (.cons (.tmp _ _ rfl) (.cons (.tmp _ _ rfl) (.cons (.tmp _ _ rfl) .nil))) _ (Heap.le.refl _) ?_
     exact ⟨rfl, rfl⟩

end
end Go.Proofs.YtmmgbnolccpjoaaGreatDoor
