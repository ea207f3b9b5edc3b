import Derived.Test.YtmmgbnolccpjoaaGreatDoorQ1
import Derived.Test.YtmmgbnolccpjoaaGreatDoorD1
set_option maxHeartbeats 1000000
namespace Go.Proofs.YtmmgbnolccpjoaaGreatDoor
open Go.Proofs.Tryz
open Go Go.RowKit
section
set_option maxRecDepth 100000

theorem zr251 : ZR 251 [.int .i64 0, .int .i64 0, .int .i64 0, .int .i64 0] := ZRi zeroValue251
theorem zr252 : ZR 252 [.int .i64 0, .int .i64 0, .int .i64 0, .int .i64 0, .int .i64 0, .int .i64 0, .int .i64 0, .int .i64 0, .int .i64 0, .int .i64 0, .int .i64 0, .int .i64 0, .int .i64 0, .int .i64 0, .int .i64 0, .int .i64 0] := ZRi zeroValue252
theorem zr291 : ZR 291 [.int .i64 0, .int .i64 0, .int .i64 0, .int .i64 0, .int .i64 0] := ZRi zeroValue291

def ajW (k : Nat) : Nat := if k = 0 then 0 else if k ≤ 2 then 1 else if k = 3 then 2 else 3
theorem aoX (k : Nat) : ajW k < 4 := by
 unfold ajW; repeat' split
 all_goals omega
theorem bxI {k : Nat} (h : k ≤ 4) : ([.int .i64 0, .int .i64 1, .int .i64 1, .int .i64 2, .int .i64 3] : List AV)[((k : Nat) : Int).toNat]? = some (.int .i64 ((ajW k : Nat) : Int)) := by
 rcases (by omega : k = 0 ∨ k = 1 ∨ k = 2 ∨ k = 3 ∨ k = 4) with rfl | rfl | rfl | rfl | rfl <;> rfl
def blM (p q : Nat) : Int := (([[6, 6, 1, 1], [6, 0, 5, 1], [1, 5, 5, 1], [1, 1, 1, 1]] : List (List Int)).getD p []).getD q 0
theorem bwO {p q : Nat} (hp : p < 4) (hq : q < 4) : ((([.int .i64 6, .int .i64 6, .int .i64 1, .int .i64 1, .int .i64 6, .int .i64 0, .int .i64 5, .int .i64 1, .int .i64 1, .int .i64 5, .int .i64 5, .int .i64 1, .int .i64 1, .int .i64 1, .int .i64 1, .int .i64 1] : List AV).drop (((p : Nat) : Int).toNat * 4)).drop (((q : Nat) : Int).toNat * 1))[0]? = some (.int .i64 (blM p q)) := by
 rcases (by omega : p = 0 ∨ p = 1 ∨ p = 2 ∨ p = 3) with rfl | rfl | rfl | rfl <;> rcases (by omega : q = 0 ∨ q = 1 ∨ q = 2 ∨ q = 3) with rfl | rfl | rfl | rfl <;> rfl
def alW (a b : Nat) : Bool := decide (((a / 2 ^ 63 : Nat) : Int) ≠ ((b / 2 ^ 63 : Nat) : Int))
def aeQ (a b : Nat) : Nat :=
 if blM (ajW (zV a)) (ajW (zV b)) = 1 then 9221120237041090560
 else if blM (ajW (zV a)) (ajW (zV b)) = 5 then (if alW a b = true then 18442240474082181120 else 9218868437227405312)
 else zX (alW a b) (yX a * yX b) (yU a + yU b) false
section
variable {P : Program} {env : Env} {H : Heap} {dst : Option Tmp} {ty : TypeId} {pos : String} {af : Array Edge} {gd : Option (Nat × Bool)}
theorem auL {T : TypeId} {x : Operand} {cs : List AV} {c : AV} (ha : ∀ w, (isAgg T).run P w = .ok false w) (hx : Ev env x (.iptr cs)) (hc : cs[0]? = some c) : APure P ⟨dst, .load T x, ty, pos, af, gd⟩ env c := by
 match cs, hc with
 | d :: ds, hc =>
  obtain rfl : d = c := by simpa using hc
  exact zY ha hx
end

theorem ahX (x : Nat) (hx : x < 18446744073709551616) : Fn 242 [.int .u64 (x : Int)] (.int .i64 ((ajW (zV x) : Nat) : Int)) := by
 intro H
 have hk := ajM x
 refine .of_body func242 rfl ntmps242 results242 rfl ?_
 iterate 7 refine AX ?_
 refine .p rfl (adK underlying291 Z3 zr291 (.cons zH (.inl rfl) (.cons zH (.inl rfl) (.cons zH (.inl rfl) (.cons zH (.inl rfl) (.cons zH (.inl rfl) .nil))))) rfl) ?_
 refine AX ?_
 refine .cl rfl C89 (evs1 rfl) (qU _ aB _) (.p rfl (beF underlying291 G3 Z3 (tm rfl) (tm rfl) aA aA (bxI hk)) ?_)
 iterate 5 refine AX ?_
 exact ⟨rfl, rfl⟩

theorem blL (a b : Nat) (ha : a < 18446744073709551616) (hb : b < 18446744073709551616) : Fn 192 [.int .u64 (a : Int), .int .u64 (b : Int)] (.int .i64 (blM (ajW (zV a)) (ajW (zV b)))) := by
 intro H
 have hka := aoX (zV a)
 have hkb := aoX (zV b)
 refine .of_body func192 rfl ntmps192 results192 rfl ?_
 iterate 7 refine AX ?_
 refine .p rfl (adK U251 Z3 zr251 (.cons zH (.inl rfl) (.cons zH (.inl rfl) (.cons zH (.inl rfl) (.cons zH (.inl rfl) .nil)))) rfl) (.p rfl (adK U251 Z3 zr251 (.cons zH (.inl rfl) (.cons zH (.inl rfl) (.cons zH (.inl rfl) (.cons zH (.inl rfl) .nil)))) rfl) (.p rfl (adK U251 Z3 zr251 (.cons zH (.inl rfl) (.cons zH (.inl rfl) (.cons zH (.inl rfl) (.cons zH (.inl rfl) .nil)))) rfl) (.p rfl (adK U251 Z3 zr251 (.cons zH (.inl rfl) (.cons zH (.inl rfl) (.cons zH (.inl rfl) (.cons zH (.inl rfl) .nil)))) rfl) (.p rfl (adK U252 Z251 zr252 (.cons (tm rfl) (.inr ⟨_, rfl⟩) (.cons (tm rfl) (.inr ⟨_, rfl⟩) (.cons (tm rfl) (.inr ⟨_, rfl⟩) (.cons (tm rfl) (.inr ⟨_, rfl⟩) .nil)))) rfl) ?_))))
 refine .al zr252 (fun b5 hb5 => ?_)
 iterate 3 refine AX ?_
 refine .frz (t := 5) rfl (hb5) ?_
 refine AX ?_
 refine .draw [(0, true), (1, true), (2, true), (3, true), (4, true), (5, true), (6, true), (7, true)] rfl aE ?_
 refine AX ?_
 refine .f rfl rfl (fun _ => zB C242 (evs1 rfl) (ahX _ aB _)) ?_
 refine AX ?_
 refine .f rfl rfl (fun _ => zB C242 (evs1 rfl) (ahX _ aB _)) ?_
 iterate 2 refine AX ?_
 refine .p rfl rfl (auL G3 (tm rfl) (bwO hka hkb)) ?_
 iterate 5 refine AX ?_
 exact ⟨rfl, rfl⟩

theorem wMul2 (x y : Nat) (hx : x < 18446744073709551616) (hy : y < 18446744073709551616) (H : Heap) : ACall prog 193 [.int .u64 (x : Int), .int .u64 (y : Int)] H (fun z H' => z = u2 (x * y) ∧ H' = H) := amQ x y hx hy H
theorem bwD {a b : Nat} : yX a * yX b < M2 := by
 have h1 := acG a
 have h2 := acG b
 have h3 : yX a * yX b ≤ 18014398509481984 * 18014398509481984 := eE aA aA
 exact aV h3 aE

theorem ahA (a b : Nat) (ha : a < 18446744073709551616) (hb : b < 18446744073709551616) : Fn 133 [.int .u64 (a : Int), .int .u64 (b : Int)] (.int .u64 ((aeQ a b : Nat) : Int)) := by
 intro H
 have hpa := aaM a
 have hpb := aaM b
 have hma := acG a
 have hmb := acG b
 refine .of_body func133 rfl ntmps133 results133 rfl ?_
 iterate 20 refine AM ?_
 refine .cl rfl call192 (evs2 rfl rfl) (blL _ _ aB aB _) ?_
 iterate 9 refine AX ?_
 refine .cx rfl (fun hc20 => ?_) (fun hc20 => ?_)
 ·iterate 9 refine AM ?_
  refine ⟨?_, rfl⟩
  unfold aeQ
  rw [aN hc20]; rfl
 iterate 6 refine AX ?_
 refine .cx rfl (fun hc22 => ?_) (fun hc22 => ?_)
 ·iterate 6 refine AX ?_
  refine .cx rfl (fun hc24 => ?_) (fun hc24 => ?_)
  ·iterate 10 refine AM ?_
   refine ⟨?_, rfl⟩
   have hmn : alW a b = true := bG hc24
   unfold aeQ
   rw [aL hc20, aN hc22, aN hmn]; rfl
  iterate 11 refine AM ?_
  refine ⟨?_, rfl⟩
  unfold aeQ
  rw [aL hc20, aN hc22, aL (by unfold alW; simpa using hc24)]; rfl
 iterate 6 refine AX ?_
 refine .cl rfl C181 (evs1 rfl) (acA a ha _) ?_
 iterate 12 refine AX ?_
 refine .cl rfl C181 (evs1 rfl) (acA b hb _) ?_
 iterate 14 refine AX ?_
 refine .cl rfl C193 (evs2 rfl rfl) (wMul2 _ _ aA aA _) ?_
 iterate 3 refine AX ?_
 refine .cl rfl C122 (.cons (tm rfl) (.cons (tm rfl) (.cons (tm rfl) (.cons yH .nil)))) (adE (alW a b) (yX a * yX b) bwD _ (by constructor <;> omega) false _) ?_
 iterate 5 refine AX ?_
 refine ⟨?_, rfl⟩
 unfold aeQ
 rw [aL hc20, aL hc22]; rfl

theorem bjY (v : Nat) (hv : v < 9223372036854775808) : Fn 123 [.int .i64 (v : Int)] (.int .u64 (v : Int)) := by
 intro H
 refine .of_body func123 rfl ntmps123 results123 rfl ?_
 iterate 9 refine AM ?_
 iterate 3 refine AX ?_
 refine .cond_false (tm rfl) (by exact bD aA) ?_
 iterate 11 refine AX ?_
 exact ⟨rfl, rfl⟩

theorem afA (v : Nat) (hv : v < 9223372036854775808) : Fn 55 [.int .i64 (v : Int)] (.int .u64 ((zX false v 0 false : Nat) : Int)) := by
 intro H
 refine .of_body func55 rfl ntmps55 results55 rfl ?_
 iterate 8 refine AM ?_
 iterate 2 refine AX ?_
 refine .cl rfl call123 (evs1 rfl) (bjY v hv _) (.p rfl (yB zr149 pl149 (.cons (tm rfl) (.inl rfl) .nil) rfl) ?_)
 refine .cl rfl C122 (.cons (tm rfl) (.cons (tm rfl) (.cons zH (.cons yH .nil)))) ((by have h := fun H => adE (decide ((v : Int) < 0)) v (dI hv aE) 0 aC false H; rw [alC (dI hv aE)] at h; exact h _)) ?_
 iterate 5 refine AX ?_
 refine ⟨?_, rfl⟩
 rw [show decide ((v : Int) < 0) = false from bD aA]; rfl

end
section
open Go Go.RowKit
set_option maxRecDepth 100000

theorem ccA {m a K : Nat} (hm : m < 2 ^ a) (h : a + K ≤ 8191) : m * 2 ^ K < BIG := by
 obtain ⟨Q, hQ, hB⟩ : ∃ K, K = 8192 ∧ BIG = 2 ^ K := ⟨32 * 256, rfl, asT _ rfl⟩
 rw [hB]
 refine bQ (Nat.mul_lt_mul_of_pos_right hm (bN aC)) ?_
 rw [← bI]
 exact aZ aC aA
theorem bxE (r : Nat) : decide ((0 : Int) < ((zE r).length : Int)) = decide (r ≠ 0) := by
 refine aY.2 ⟨fun h q => ?_, fun h => ?_⟩
 ·subst q; rw [aaR] at h; simp at h
 rw [qJ (eR h)]; simp only [aU]; omega
theorem bwL {ds : List UInt8} (hd : Digs ds) (hl : ds.length ≤ 1100) : yG (num ds) ≤ 3669 ∧ num ds < BIG := by
 have h1 := agY hd
 have h2 := (aeP (j := ds.length) (n := 0) aA aC).2.1
 refine ⟨?_, dI h1 h2⟩
 have h3 := ahE (dS h1)
 have h4 := ajY ds.length
 omega
theorem ccQ {ds : List UInt8} (hd : Digs ds) {j : Nat} (h : ds.length + j ≤ 400) : num ds * 10 ^ j < BIG ∧ 10 ^ j < BIG := by
 have h1 := agY hd
 refine ⟨aV ?_ (aeP (j := ds.length + j) (n := 0) aA aC).2.1, (aeP (j := j) (n := 0) aA aC).2.1⟩
 rw [bI]
 exact bC _ (dS h1)
theorem boU (m : Nat) (e : Int) : baZ 0 ((yG (10 ^ (-e).toNat) : Int) - (yG m : Int) + 66) = ((avZ m e : Nat) : Int) := by
 unfold avZ
 simp only [baZ]
 split <;> omega

theorem atV (neg : Bool) (ds : List UInt8) (e : Int) (hr : yZ ds e = true) (hne : ds ≠ []) (hp : -330 ≤ ds.length + e ∧ ds.length + e ≤ 310) : Fn 225 [dA neg ds e] (.int .u64 ((apQ (num ds) e : Nat) : Int)) := by
 intro H
 have hd := qC hr
 have hrl := qM hr
 have hlp := bP.2 hne
 obtain ⟨hmb, hmB⟩ := bwL hd hrl.1
 refine .of_body func225 rfl ntmps225 results225 rfl ?_
 iterate 8 refine AM ?_
 refine .p rfl (zA U58 rfl Z9 (tm rfl)) ?_
 refine AX ?_
 refine .cl rfl call267 (evs1 rfl) (bgL ds hne hd aA _) ?_
 iterate 10 refine AX ?_
 refine .p rfl (zA U58 rfl Z3 (tm rfl)) ?_
 iterate 4 refine AX ?_
 refine .cx rfl (fun hc21 => ?_) (fun hc21 => ?_)
 ·have hq := ccQ hd (j := e.toNat) aA
  iterate 2 refine AX ?_
  refine .p rfl (zA U58 rfl Z3 (tm rfl)) ?_
  refine AX ?_
  refine .cl rfl C268 (.cons zH (evs1 rfl)) (pow10Z e.toNat e aA aA _) ?_
  iterate 11 refine AX ?_
  refine .cl rfl C269 (evs2 rfl rfl) (mulB _ _ hmB hq.2 hq.1 _) ?_
  iterate 9 refine AX ?_
  refine .cl rfl call270 (.cons yH (.cons (tm rfl) (.cons zH (.cons yH .nil)))) (roundB _ hq.1 0 aC false _) ?_
  iterate 6 refine AX ?_
  refine ⟨?_, rfl⟩
  unfold apQ
  rw [aJ]; rfl
 have htB := (aeP (j := (-e).toNat) (n := 0) aA aC).2.1
 have htb := ajY (-e).toNat
 have hkd : avZ (num ds) e = yG (10 ^ (-e).toNat) + 66 - yG (num ds) := rfl
 have hsB := ccA (m := (num ds)) (a := yG (num ds)) (K := avZ (num ds) e) (agD _) aA
 iterate 4 refine AX ?_
 refine .p rfl (zA U58 rfl Z3 (tm rfl)) ?_
 iterate 2 refine AX ?_
 refine .cl rfl C268 (.cons zH (evs1 rfl)) (pow10Z (-e).toNat (-e) aA aA _) ?_
 iterate 10 refine AX ?_
 refine .cl rfl C271 (evs1 rfl) (lenB _ htB _) ?_
 refine AX ?_
 refine .cl rfl C271 (evs1 rfl) (lenB _ hmB _) ?_
 iterate 7 refine AX ?_
 rw [boU]
 iterate 3 refine AX ?_
 refine .cl rfl C272 (evs2 rfl rfl) (shlQ _ (avZ (num ds) e) _ rfl hsB aA _) ?_
 iterate 10 refine AX ?_
 refine .cl rfl call273 (evs2 rfl rfl) (aoL _ _ hsB (acL _) htB _) ?_
 iterate 17 refine AX ?_
 refine .cl rfl call270 (.cons yH (evs3 rfl rfl rfl)) (roundB _ (aV (dF _ _) hsB) _ (by constructor <;> omega) _ _) ?_
 iterate 5 refine AX ?_
 refine ⟨?_, rfl⟩
 rw [bxE]
 unfold apQ azP
 rw [aI]; rfl

end
end Go.Proofs.YtmmgbnolccpjoaaGreatDoor
