import Derived.Test.YtmmgbnolccpjoaaGreatDoorQ1
import Derived.Test.YtmmgbnolccpjoaaGreatDoorD1
namespace Go.Proofs.YtmmgbnolccpjoaaGreatDoor
open Go Go.RowKit
section
set_option maxRecDepth 100000

theorem zr251 : ZR 251 [.int .i64 0, .int .i64 0, .int .i64 0, .int .i64 0] := ZRi Tryz.zeroValue251
theorem zr252 : ZR 252 [.int .i64 0, .int .i64 0, .int .i64 0, .int .i64 0, .int .i64 0, .int .i64 0, .int .i64 0, .int .i64 0, .int .i64 0, .int .i64 0, .int .i64 0, .int .i64 0, .int .i64 0, .int .i64 0, .int .i64 0, .int .i64 0] := ZRi Tryz.zeroValue252
theorem zr291 : ZR 291 [.int .i64 0, .int .i64 0, .int .i64 0, .int .i64 0, .int .i64 0] := ZRi Tryz.zeroValue291

def aiJ (k : Nat) : Nat := if k = 0 then 0 else if k ≤ 2 then 1 else if k = 3 then 2 else 3
theorem amI (k : Nat) : aiJ k < 4 := by
 unfold aiJ; repeat' split
 all_goals omega
theorem kind_tab {k : Nat} (h : k ≤ 4) : ([.int .i64 0, .int .i64 1, .int .i64 1, .int .i64 2, .int .i64 3] : List AV)[((k : Nat) : Int).toNat]? = some (.int .i64 ((aiJ k : Nat) : Int)) := by
 rcases (by omega : k = 0 ∨ k = 1 ∨ k = 2 ∨ k = 3 ∨ k = 4) with rfl | rfl | rfl | rfl | rfl <;> rfl
def bfT (p q : Nat) : Int := (([[6, 6, 1, 1], [6, 0, 5, 1], [1, 5, 5, 1], [1, 1, 1, 1]] : List (List Int)).getD p []).getD q 0
theorem muls_tab {p q : Nat} (hp : p < 4) (hq : q < 4) : ((([.int .i64 6, .int .i64 6, .int .i64 1, .int .i64 1, .int .i64 6, .int .i64 0, .int .i64 5, .int .i64 1, .int .i64 1, .int .i64 5, .int .i64 5, .int .i64 1, .int .i64 1, .int .i64 1, .int .i64 1, .int .i64 1] : List AV).drop (((p : Nat) : Int).toNat * 4)).drop (((q : Nat) : Int).toNat * 1))[0]? = some (.int .i64 (bfT p q)) := by
 rcases (by omega : p = 0 ∨ p = 1 ∨ p = 2 ∨ p = 3) with rfl | rfl | rfl | rfl <;> rcases (by omega : q = 0 ∨ q = 1 ∨ q = 2 ∨ q = 3) with rfl | rfl | rfl | rfl <;> rfl
def ajS (a b : Nat) : Bool := decide (((a / 2 ^ 63 : Nat) : Int) ≠ ((b / 2 ^ 63 : Nat) : Int))
def aeA (a b : Nat) : Nat :=
 if bfT (aiJ (yD a)) (aiJ (yD b)) = 1 then 9221120237041090560
 else if bfT (aiJ (yD a)) (aiJ (yD b)) = 5 then (if ajS a b = true then 18442240474082181120 else 9218868437227405312)
 else yB (ajS a b) (qI a * qI b) (qF a + qF b) false
section
variable {P : Program} {env : Env} {H : Heap} {dst : Option Tmp} {ty : TypeId} {pos : String} {af : Array Edge} {gd : Option (Nat × Bool)}
theorem arB {T : TypeId} {x : Operand} {cs : List AV} {c : AV} (ha : ∀ w, (isAgg T).run P w = .ok false w) (hx : Ev env x (.iptr cs)) (hc : cs[0]? = some c) : APure P ⟨dst, .load T x, ty, pos, af, gd⟩ env c := by
 match cs, hc with
 | d :: ds, hc =>
  obtain rfl : d = c := by simpa using hc
  exact zH ha hx
end

theorem agW (x : Nat) (hx : x < 18446744073709551616) (H : Heap) : ACall Tryz.prog 242 [.int .u64 (x : Int)] H (fun y H' => y = .int .i64 ((aiJ (yD x) : Nat) : Int) ∧ H' = H) := by
 have hk := aiB x
 refine ACall.of_body Tryz.func242 rfl Tryz.ntmps242 Tryz.results242 rfl ?_
 refine .sr (.p rfl (zA zE) (.nr (.p rfl (acU Tryz.underlying291 Z3 zr291 (.cons zE (.inl rfl) (.cons zE (.inl rfl) (.cons zE (.inl rfl) (.cons zE (.inl rfl) (.cons zE (.inl rfl) .nil))))) rfl) (.mv rfl rfl (.cl rfl C89 (evs1 rfl) (aaE _ (by assumption) _) (.p rfl (azC Tryz.underlying291 G3 Z3 (tm rfl) (tm rfl) (by omega) (by omega) (kind_tab hk)) (.as rfl rfl (.ng ?_))))))))
 refine .ret ?_
 refine Ret.go (.cons (.tmp _ _ rfl) .nil) _ (hRa _) ?_
 exact ⟨rfl, rfl⟩

theorem bfS (a b : Nat) (ha : a < 18446744073709551616) (hb : b < 18446744073709551616) (H : Heap) : ACall Tryz.prog 192 [.int .u64 (a : Int), .int .u64 (b : Int)] H (fun y H' => y = .int .i64 (bfT (aiJ (yD a)) (aiJ (yD b))) ∧ H' = H) := by
 have hka := amI (yD a)
 have hkb := amI (yD b)
 refine ACall.of_body Tryz.func192 rfl Tryz.ntmps192 Tryz.results192 rfl ?_
 refine .sr (.p rfl (zA zE) (.nr (.p rfl (acU U251 Z3 zr251 (.cons zE (.inl rfl) (.cons zE (.inl rfl) (.cons zE (.inl rfl) (.cons zE (.inl rfl) .nil)))) rfl) (.p rfl (acU U251 Z3 zr251 (.cons zE (.inl rfl) (.cons zE (.inl rfl) (.cons zE (.inl rfl) (.cons zE (.inl rfl) .nil)))) rfl) (.p rfl (acU U251 Z3 zr251 (.cons zE (.inl rfl) (.cons zE (.inl rfl) (.cons zE (.inl rfl) (.cons zE (.inl rfl) .nil)))) rfl) (.p rfl (acU U251 Z3 zr251 (.cons zE (.inl rfl) (.cons zE (.inl rfl) (.cons zE (.inl rfl) (.cons zE (.inl rfl) .nil)))) rfl) (.p rfl (acU U252 Z251 zr252 (.cons (tm rfl) (.inr ⟨_, rfl⟩) (.cons (tm rfl) (.inr ⟨_, rfl⟩) (.cons (tm rfl) (.inr ⟨_, rfl⟩) (.cons (tm rfl) (.inr ⟨_, rfl⟩) .nil)))) rfl) ?_)))))))
 refine .al zr252 (fun b5 hb5 => ?_)
 refine .e0 (zG Z252 (tm rfl) (tm rfl) rfl rfl (.inr ⟨_, rfl⟩) (oS _ _ _) (lB rfl)) ?_
 try first | rw [sS] | rw [sU (by assumption)]
 refine .ng ?_
 refine AWP.frz (t := 5) rfl (hb5) ?_
 refine .seq ?_
 refine AWP.draw [(0, true), (1, true), (2, true), (3, true), (4, true), (5, true), (6, true), (7, true)] rfl (by decide +kernel) ?_
 refine .p rfl rfl (zJ (tm rfl)) ?_
 refine APlan.f rfl rfl (fun _ => zF C242 (evs1 rfl) (agW _ (by assumption) _)) ?_
 refine .p rfl rfl (zJ (tm rfl)) ?_
 refine APlan.f rfl rfl (fun _ => zF C242 (evs1 rfl) (agW _ (by assumption) _)) ?_
 refine .p rfl rfl (aeT U252 Z251 (tm rfl) (tm rfl) (by omega) (by omega)) (.p rfl rfl (aeT U251 Z3 (tm rfl) (tm rfl) (by omega) (by omega)) (.p rfl rfl (arB G3 (tm rfl) (muls_tab hka hkb)) (.p rfl rfl (zA (tm rfl)) (.nil ?_))))
 refine Next.go ?_
 refine .ret ?_
 refine Ret.go (.cons (.tmp _ _ rfl) .nil) _ (hRa _) ?_
 exact ⟨rfl, rfl⟩

theorem wMul2 (x y : Nat) (hx : x < 18446744073709551616) (hy : y < 18446744073709551616) (H : Heap) : ACall Tryz.prog 193 [.int .u64 (x : Int), .int .u64 (y : Int)] H (fun z H' => z = u2 (x * y) ∧ H' = H) := akI x y hx hy H
theorem part_mul {a b : Nat} : qI a * qI b < M2 := by
 have h1 := acB a
 have h2 := acB b
 have h3 : qI a * qI b ≤ 18014398509481984 * 18014398509481984 := dZ (by omega) (by omega)
 exact aR h3 (by decide +kernel)

theorem agB (a b : Nat) (ha : a < 18446744073709551616) (hb : b < 18446744073709551616) (H : Heap) : ACall Tryz.prog 133 [.int .u64 (a : Int), .int .u64 (b : Int)] H (fun y H' => y = .int .u64 ((aeA a b : Nat) : Int) ∧ H' = H) := by
 have hpa := aaS a
 have hpb := aaS b
 have hma := acB a
 have hmb := acB b
 refine ACall.of_body Tryz.func133 rfl Tryz.ntmps133 Tryz.results133 rfl ?_
 refine .sr (.p rfl (zA (zI 0)) (.nr (.mv rfl rfl (.p rfl (yF (tm rfl) (zI 63) (by assumption)) (.mv rfl rfl (.p rfl (yF (tm rfl) (zI 63) (by assumption)) (.p rfl (qA (tm rfl) (tm rfl)) (.as rfl rfl ?_))))))))
 refine .ng (.seq (.sr (.mv rfl rfl (.mv rfl rfl (.cl rfl Tryz.call192 (evs2 rfl rfl) (bfS _ _ (by assumption) (by assumption) _) (.ng (.block (.sr ?_))))))))
 refine .p rfl (zR (tm rfl) zE) (.as rfl rfl (.ng ?_))
 refine AWP.cond (tm rfl) (fun hc20 => ?_) (fun hc20 => ?_)
 ·try simp only [aM] at hc20
  refine .sr (.p rfl (zA (zI 9221120237041090560)) (.ng (.ret ?_)))
  refine Block.rt ?_
  refine Next.rt ?_
  refine Ret.go (.cons (.tmp _ _ rfl) .nil) _ (hRa _) ?_
  refine ⟨?_, rfl⟩
  unfold aeA
  rw [aO hc20]; rfl
 try simp only [aL] at hc20
 refine .sr (.p rfl (zR (tm rfl) zE) (.as rfl rfl (.ng ?_)))
 refine AWP.cond (tm rfl) (fun hc22 => ?_) (fun hc22 => ?_)
 ·try simp only [aM] at hc22
  refine .seq (.sr (.mv rfl rfl (.ng ?_)))
  refine AWP.cond (tm rfl) (fun hc24 => ?_) (fun hc24 => ?_)
  ·try simp only [aM, ne_eq] at hc24
   refine .sr (.p rfl (zA (zI 18442240474082181120)) (.ng (.ret ?_)))
   refine Next.rt ?_
   refine Block.rt ?_
   refine Next.rt ?_
   refine Ret.go (.cons (.tmp _ _ rfl) .nil) _ (hRa _) ?_
   refine ⟨?_, rfl⟩
   have hmn : ajS a b = true := bH hc24
   unfold aeA
   rw [aN hc20, aO hc22, aO hmn]; rfl
  try simp only [aL, ne_eq, cG] at hc24
  refine .skip ?_
  refine Next.go ?_
  refine .sr (.p rfl (zA (zI 9218868437227405312)) (.ng (.ret ?_)))
  refine Block.rt ?_
  refine Next.rt ?_
  refine Ret.go (.cons (.tmp _ _ rfl) .nil) _ (hRa _) ?_
  refine ⟨?_, rfl⟩
  unfold aeA
  rw [aN hc20, aO hc22, aN (by unfold ajS; simpa using hc24)]; rfl
 try simp only [aL] at hc22
 refine .skip ?_
 refine Block.go ?_
 refine Next.go ?_
 refine .sr (.mv rfl rfl (.cl rfl C181 (evs1 rfl) (abY a ha _) (.mv rfl rfl (.p rfl (zB (tm rfl) rfl) (.p rfl (zB (tm rfl) rfl) (.p rfl (zB (tm rfl) rfl) (.as rfl rfl (.as rfl rfl ?_))))))))
 refine .as rfl rfl (.nr (.mv rfl rfl (.cl rfl C181 (evs1 rfl) (abY b hb _) (.mv rfl rfl (.p rfl (zB (tm rfl) rfl) (.p rfl (zB (tm rfl) rfl) (.p rfl (zB (tm rfl) rfl) (.as rfl rfl ?_))))))))
 refine .as rfl rfl (.as rfl rfl (.nr (.mv rfl rfl (.mv rfl rfl (.mv rfl rfl (.cl rfl C193 (evs2 rfl rfl) (wMul2 _ _ (by omega) (by omega) _) (.mv rfl rfl (.mv rfl rfl ?_))))))))
 refine .p rfl (yT (tm rfl) (tm rfl) (by omega)) (.cl rfl C122 (.cons (tm rfl) (.cons (tm rfl) (.cons (tm rfl) (.cons zM .nil)))) (acP (ajS a b) (qI a * qI b) part_mul _ (by constructor <;> omega) false _) (.as rfl rfl (.ng (.ret ?_))))
 refine Ret.go (.cons (.tmp _ _ rfl) .nil) _ (hRa _) ?_
 refine ⟨?_, rfl⟩
 unfold aeA
 rw [aN hc20, aN hc22]; rfl

theorem beG (v : Nat) (hv : v < 9223372036854775808) (H : Heap) : ACall Tryz.prog 123 [.int .i64 (v : Int)] H (fun y H' => y = .int .u64 (v : Int) ∧ H' = H) := by
 refine ACall.of_body Tryz.func123 rfl Tryz.ntmps123 Tryz.results123 rfl ?_
 refine .sr (.p rfl (zA (zI 0)) (.ng (.seq (.sr (.mv rfl rfl (.p rfl (yN (tm rfl) zE) (.ng ?_)))))))
 refine AWP.cond_false (tm rfl) (by exact bG (by omega)) ?_
 refine .skip ?_
 refine Next.go ?_
 refine .sr (.mv rfl rfl (.p rfl (qM U3 U22 (tm rfl) (wrapN64 (by omega))) (.as rfl rfl (.ng (.ret ?_)))))
 refine Ret.go (.cons (.tmp _ _ rfl) .nil) _ (hRa _) ?_
 exact ⟨rfl, rfl⟩

theorem aeH (v : Nat) (hv : v < 9223372036854775808) (H : Heap) : ACall Tryz.prog 55 [.int .i64 (v : Int)] H (fun y H' => y = .int .u64 ((yB false v 0 false : Nat) : Int) ∧ H' = H) := by
 refine ACall.of_body Tryz.func55 rfl Tryz.ntmps55 Tryz.results55 rfl ?_
 refine .sr (.p rfl (zA (zI 0)) (.nr (.mv rfl rfl (.p rfl (yN (tm rfl) zE) (.mv rfl rfl (.cl rfl Tryz.call123 (evs1 rfl) (beG v hv _) (.p rfl (yK zr149 pl149 (.cons (tm rfl) (.inl rfl) .nil) rfl) ?_)))))))
 refine .cl rfl C122 (.cons (tm rfl) (.cons (tm rfl) (.cons zE (.cons zM .nil)))) ((by have h := fun H => acP (decide ((v : Int) < 0)) v (cX hv (by decide +kernel)) 0 (by decide) false H; rw [ajG (cX hv (by decide +kernel))] at h; exact h _)) ?_
 refine .as rfl rfl (.ng (.ret ?_))
 refine Ret.go (.cons (.tmp _ _ rfl) .nil) _ (hRa _) ?_
 refine ⟨?_, rfl⟩
 rw [show decide ((v : Int) < 0) = false from bG (by omega)]; rfl

end
section
open Go Go.RowKit
set_option maxRecDepth 100000

theorem shl_BIG {m a K : Nat} (hm : m < 2 ^ a) (h : a + K ≤ 8191) : m * 2 ^ K < BIG := by
 obtain ⟨Q, hQ, hB⟩ : ∃ K, K = 8192 ∧ BIG = 2 ^ K := ⟨32 * 256, rfl, apO _ rfl⟩
 rw [hB]
 refine bM (Nat.mul_lt_mul_of_pos_right hm (bI (by decide))) ?_
 rw [← bB]
 exact aT (by decide) (by omega)
theorem len_more (r : Nat) : decide ((0 : Int) < ((zK r).length : Int)) = decide (r ≠ 0) := by
 refine bA.2 ⟨fun h q => ?_, fun h => ?_⟩
 ·subst q; rw [aaZ] at h; simp at h
 rw [qV (eI h)]; simp only [bE]; omega
theorem num_blen {ds : List UInt8} (hd : Digs ds) (hl : ds.length ≤ 1100) : yJ (num ds) ≤ 3669 ∧ num ds < BIG := by
 have h1 := afX hd
 have h2 := (adZ (j := ds.length) (n := 0) (by omega) (by decide)).2.1
 refine ⟨?_, cX h1 h2⟩
 have h3 := agF (dG h1)
 have h4 := aiK ds.length
 omega
theorem num_ten {ds : List UInt8} (hd : Digs ds) {j : Nat} (h : ds.length + j ≤ 400) : num ds * 10 ^ j < BIG ∧ 10 ^ j < BIG := by
 have h1 := afX hd
 refine ⟨aR ?_ (adZ (j := ds.length + j) (n := 0) (by omega) (by decide)).2.1, (adZ (j := j) (n := 0) (by omega) (by decide)).2.1⟩
 rw [bB]
 exact aV _ (dG h1)
theorem biU (m : Nat) (e : Int) : awK 0 ((yJ (10 ^ (-e).toNat) : Int) - (yJ m : Int) + 66) = ((asK m e : Nat) : Int) := by
 unfold asK
 simp only [awK]
 split <;> omega

theorem aqM (neg : Bool) (ds : List UInt8) (e : Int) (hr : qE ds e = true) (hne : ds ≠ []) (hp : -330 ≤ ds.length + e ∧ ds.length + e ≤ 310) (H : Heap) : ACall Tryz.prog 225 [dA neg ds e] H (fun y H' => y = .int .u64 ((amZ (num ds) e : Nat) : Int) ∧ H' = H) := by
 have hd := qQ hr
 have hrl := aaY hr
 have hlp := cI.2 hne
 obtain ⟨hmb, hmB⟩ := num_blen hd hrl.1
 refine ACall.of_body Tryz.func225 rfl Tryz.ntmps225 Tryz.results225 rfl ?_
 refine .sr (.e rfl (zZ (tm rfl) (.inr ⟨_, rfl⟩)) (.p rfl (zA (zI 0)) (.nr (.p rfl (zD U58 rfl Z9 (tm rfl)) (.p rfl (zH G9 (tm rfl)) (.cl rfl Tryz.call267 (evs1 rfl) (bbA ds hne hd (by omega) _) (.mv rfl rfl (.p rfl (zB (tm rfl) rfl) ?_))))))))
 refine .p rfl (zB (tm rfl) rfl) (.as rfl rfl (.as rfl rfl (.ng (.seq (.sr (.p rfl (zD U58 rfl Z3 (tm rfl)) (.p rfl (zH G3 (tm rfl)) (.p rfl (yS (tm rfl) zE) ?_))))))))
 refine .ng ?_
 refine AWP.cond (tm rfl) (fun hc21 => ?_) (fun hc21 => ?_)
 ·try simp only [aM] at hc21
  have hq := num_ten hd (j := e.toNat) (by omega)
  refine .sr (.p rfl (zD U58 rfl Z3 (tm rfl)) (.p rfl (zH G3 (tm rfl)) (.cl rfl C268 (.cons zE (evs1 rfl)) (pow10Z e.toNat e (by omega) (by omega) _) (.mv rfl rfl (.p rfl (zB (tm rfl) rfl) (.p rfl (zB (tm rfl) rfl) (.as rfl rfl (.as rfl rfl ?_))))))))
  refine .nr (.mv rfl rfl (.mv rfl rfl (.cl rfl C269 (evs2 rfl rfl) (mulB _ _ hmB hq.2 hq.1 _) (.mv rfl rfl (.p rfl (zB (tm rfl) rfl) (.p rfl (zB (tm rfl) rfl) (.as rfl rfl (.nr ?_))))))))
  refine .mv rfl rfl (.cl rfl Tryz.call270 (.cons zM (.cons (tm rfl) (.cons zE (.cons zM .nil)))) (roundB _ hq.1 0 (by decide) false _) (.as rfl rfl (.ng (.ret ?_))))
  refine Next.rt ?_
  refine Ret.go (.cons (.tmp _ _ rfl) .nil) _ (hRa _) ?_
  refine ⟨?_, rfl⟩
  unfold amZ
  rw [aO (by omega)]; rfl
 try simp only [aL, cA] at hc21
 have htB := (adZ (j := (-e).toNat) (n := 0) (by omega) (by decide)).2.1
 have htb := aiK (-e).toNat
 have hkd : asK (num ds) e = yJ (10 ^ (-e).toNat) + 66 - yJ (num ds) := rfl
 have hsB := shl_BIG (m := (num ds)) (a := yJ (num ds)) (K := asK (num ds) e) (afM _) (by omega)
 refine .skip ?_
 refine Next.go ?_
 refine .sr (.p rfl (zD U58 rfl Z3 (tm rfl)) (.p rfl (zH G3 (tm rfl)) (.p rfl (abR (tm rfl) (by omega)) (.cl rfl C268 (.cons zE (evs1 rfl)) (pow10Z (-e).toNat (-e) (by omega) (by omega) _) (.mv rfl rfl (.p rfl (zB (tm rfl) rfl) (.p rfl (zB (tm rfl) rfl) (.as rfl rfl ?_))))))))
 refine .as rfl rfl (.nr (.mv rfl rfl (.cl rfl C271 (evs1 rfl) (lenB _ htB _) (.mv rfl rfl (.cl rfl C271 (evs1 rfl) (lenB _ hmB _) (.p rfl (yG (tm rfl) (tm rfl) (by omega)) (.p rfl (yT (tm rfl) zE (by omega)) (.p rfl (aeS zE (tm rfl)) ?_))))))))
 refine .as rfl rfl (.ng (.seq ?_))
 rw [biU]
 refine .region (.mv rfl rfl (.mv rfl rfl (.cl rfl C272 (evs2 rfl rfl) (shlQ _ (asK (num ds) e) _ rfl hsB (by omega) _) (.mv rfl rfl (.p rfl (zB (tm rfl) rfl) (.p rfl (zB (tm rfl) rfl) (.as rfl rfl (.nr ?_))))))))
 refine .mv rfl rfl (.mv rfl rfl (.cl rfl Tryz.call273 (evs2 rfl rfl) (alV _ _ hsB (acF _) htB _) (.mv rfl rfl (.p rfl (zB (tm rfl) rfl) (.p rfl (zB (tm rfl) rfl) (.p rfl (zB (tm rfl) rfl) (.as rfl rfl (.as rfl rfl ?_))))))))
 refine .as rfl rfl (.nr (.mv rfl rfl (.mv rfl rfl (.p rfl (abR (tm rfl) (by omega)) (.mv rfl rfl (.p rfl (abD U239 (tm rfl)) (.p rfl (yC (tm rfl) zE) (.cl rfl Tryz.call270 (.cons zM (evs3 rfl rfl rfl)) (roundB _ (aR (cU _ _) hsB) _ (by constructor <;> omega) _ _) ?_))))))))
 refine .as rfl rfl (.ng (.ret ?_))
 refine Ret.go (.cons (.tmp _ _ rfl) .nil) _ (hRa _) ?_
 refine ⟨?_, rfl⟩
 rw [len_more]
 unfold amZ avK
 rw [aN (by omega)]; rfl

end
end Go.Proofs.YtmmgbnolccpjoaaGreatDoor
