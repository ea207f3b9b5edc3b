import Derived.Test.YtmmgbnolccpjoaaGreatDoorX1
import Derived.Test.YtmmgbnolccpjoaaGreatDoorR1
namespace Go.Proofs.YtmmgbnolccpjoaaGreatDoor
open Go Go.RowKit
variable {ds : List UInt8} {i j n : Nat} {ks ts : List Nat}
section
set_option maxRecDepth 100000

theorem zr58 : ZR 58 [.bool false, .str [], .int .i64 0] := ZRi Tryz.zeroValue58
theorem pl58 : PL 58 [(0, 1), (1, 1), (2, 1)] := PLi U58

theorem bmS {s : List UInt8} {p : Nat} (h : p < s.length) (ha : (s.getD p 0).toNat < 128) : Utf8.decode ⟨s.toArray⟩ p = ((s.getD p 0).toNat, 1) := by
 have hb : (⟨s.toArray⟩ : ByteArray).get! (p + 0) = s.getD p 0 := by
  rw [cC, aP, bF h]
  show s.toArray[p]! = _
  simp [h]
 unfold Utf8.decode
 simp only [hb]
 rw [aO ha]
theorem Digs.at {s : List UInt8} (hd : Digs s) {p : Nat} (h : p < s.length) : 48 ≤ (s.getD p 0).toNat ∧ (s.getD p 0).toNat ≤ 57 := by
 rw [aP, bF h]
 exact hd _ (eJ h)
def digC (b : UInt8) : Bool := decide ((48 : Int) ≤ ((b.toNat : Nat) : Int)) && decide (((b.toNat : Nat) : Int) ≤ 57)
theorem bmR (hi : i < ds.length) (h : asA (ds.take i) = true) : asA (ds.take (i + 1)) = digC (ds.getD i 0) := by
 unfold asA at *
 rw [← dJ hi, List.all_append, h, aP, bF hi]
 simp only [List.all_cons, List.all_nil, Bool.and_true, Bool.true_and, digC, eB]
 congr 1
 ·exact bA.2 (by omega)
 exact bA.2 (by omega)
theorem axA (h : asA ds = true) : asA (ds.take i) = true := by
 unfold asA at *
 rw [fM] at h ⊢
 exact fun x hx => h x (List.mem_of_mem_take hx)
theorem biR (h : 0 < ds.length) : Lib.hasSuffix ds [48] = decide (ds.getD (ds.length - 1) 0 = 48) := by
 unfold Lib.hasSuffix
 have e : ds = ds.take (ds.length - 1) ++ [ds.getD (ds.length - 1) 0] := by
  have hl : ds.length - 1 < ds.length := by omega
  rw [aP, bF hl, eB, dJ hl, aU (by omega)]
 by_cases hq : ds.getD (ds.length - 1) 0 = 48
 ·rw [bH hq]
  rw [hq] at e
  rw [List.isSuffixOf_iff_suffix]
  exact ⟨_, e.symm⟩
 rw [bG hq]
 cases hs : [48].isSuffixOf ds with
 | false => rfl
 | true =>
  rw [List.isSuffixOf_iff_suffix] at hs
  obtain ⟨u, hu⟩ := hs
  exfalso; apply hq
  rw [← hu]; simp
theorem auA {b : UInt8} (k : Nat) (hk : k < 256) : decide (((b.toNat : Nat) : Int) = (k : Int)) = decide (b = UInt8.ofNat k) := by
 apply bA.2
 constructor
 ·intro h; apply UInt8.toNat_inj.1; rw [eU]; omega
 intro h; rw [h, eU]; omega
def anP (ds : List UInt8) (e : Int) : Bool := decide ((ds.length : Int) ≤ 1100) && decide (-100000 ≤ e) && decide (e ≤ 100000) && decide (((ds.getD 0 0).toNat : Int) ≠ 48) && !decide (((ds.getD (ds.length - 1) 0).toNat : Int) = 48)
theorem anO {e : Int} (h : ds ≠ []) : qE ds e = (anP ds e && asA ds) := by
 unfold qE anP
 rw [aN h]
 have e1 := auA (b := ds.getD 0 0) 48 (by decide)
 have e2 := auA (b := ds.getD (ds.length - 1) 0) 48 (by decide)
 have e3 : decide ((ds.length : Int) ≤ 1100) = decide (ds.length ≤ 1100) := bA.2 (by omega)
 have e4 : decide (((ds.getD 0 0).toNat : Int) ≠ 48) = !decide (ds.getD 0 0 = UInt8.ofNat 48) := by rw [← e1]; exact decide_not
 rw [e3, e4, show decide (((ds.getD (ds.length - 1) 0).toNat : Int) = 48) = decide (ds.getD (ds.length - 1) 0 = UInt8.ofNat 48) from e2]
 show _ = (_ && _ && _ && !decide (ds.getD 0 0 = 48) && !decide (ds.getD (ds.length - 1) 0 = 48) && asA ds)
 generalize decide (ds.length ≤ 1100) = a1
 generalize decide (-100000 ≤ e) = a2
 generalize decide (e ≤ 100000) = a3
 generalize asA ds = a4
 generalize decide (ds.getD 0 0 = 48) = a5
 generalize decide (ds.getD (ds.length - 1) 0 = 48) = a6
 cases a1 <;> cases a2 <;> cases a3 <;> cases a4 <;> cases a5 <;> cases a6 <;> rfl

def bkC (s : List UInt8) (b : Nat) (H : Heap) : Nat → Env → Heap → Prop := fun k env H1 => ∃ p : Nat, p ≤ s.length ∧ env = [(6, .ptr (some ⟨b, 0, none⟩))] ∧ H1 = H.set b (.raw (.stringIter ⟨s.toArray⟩ p)) ∧ k = s.length - p

theorem aoD (s : List UInt8) (hd : Digs s) (H : Heap) : ACall Tryz.prog 162 [.str s] H (fun y H' => y = .bool true ∧ H' = H) := by
 refine ACall.of_body Tryz.func162 rfl Tryz.ntmps162 Tryz.results162 rfl ?_
 iterate 9 refine AX ?_
 refine .s rfl (beD U9 (tm rfl)) ?_
 rintro _ _ ⟨b6, rfl, hb6, hH⟩
 obtain rfl := hH.symm
 iterate 3 refine AX ?_
 refine AWP.loopW (bkC s b6 H) (s.length) ⟨0, Nat.zero_le _, rfl, rfl, rfl⟩ (zC rfl zU) (hRa _) ?_
 rintro _ _ _ ⟨p, hp, rfl, rfl, hk⟩
 iterate 2 refine AX ?_
 refine .s rfl (biT (tm rfl) (oS _ _ _)) ?_
 rintro _ Hn ⟨q7, rfl, hn7, hm7⟩
 iterate 4 refine AX ?_
 refine AWP.cx rfl (fun hc8 => ?_) (fun hc8 => ?_)
 ·obtain ⟨rfl, rfl⟩ := hn7 (by omega)
  have hda := hd.at (show p < s.length by omega)
  rw [bmS (by omega) (by omega)]
  iterate 9 refine AX ?_
  refine AWP.seqTo 15 (.bool (false)) [6] ?_ ?_
  ·-- region 4
   iterate 4 refine AX ?_
   refine zL (t := 12) rfl (fun hg12 => ?_) (fun hg12 => ?_)
   ·iterate 4 refine AX ?_
    exact ⟨rfl, zY rfl (by (exfalso; have := of_decide_eq_true hg12; omega)) (zC rfl zU), rfl⟩
   iterate 4 refine AX ?_
   exact ⟨rfl, zY rfl (by (congr 1; exact bG (by omega))) (zC rfl zU), rfl⟩
  refine AWP.sub [(15, _), (6, _)] sX ?_
  refine AWP.cond_false (tm rfl) (by rfl) ?_
  iterate 3 refine AX ?_
  refine Round.mk (J := bkC s b6 H) ⟨p + 1, by omega, rfl, by rw [sS], rfl⟩ (zC rfl zU) (hRa _) (by omega)
 obtain ⟨rfl, rfl⟩ := hm7 (by omega)
 iterate 11 refine AX ?_
 refine Ret.go (.cons (.tmp _ _ rfl) .nil) _ (Heap.le_set hb6 _) ?_
 exact ⟨rfl, rfl⟩

theorem aeY (neg : Bool) (ds : List UInt8) (e : Int) (hd : Digs ds) (H : Heap) : ACall Tryz.prog 165 [dA neg ds e] H (fun y H' => y = .bool (qE ds e) ∧ H' = H) := by
 refine ACall.of_body Tryz.func165 rfl Tryz.ntmps165 Tryz.results165 rfl ?_
 refine .seq (.region (.e rfl (zZ (tm rfl) (.inr ⟨_, rfl⟩)) (.p rfl (zA zM) (.nil ?_))))
 refine Next.go ?_
 refine .seq (.seq (.region (.p rfl (zD U58 rfl Z9 (tm rfl)) (.p rfl (zH G9 (tm rfl)) (.p rfl (yM (tm rfl) (zS rfl)) (.nil ?_))))))
 refine Next.go ?_
 refine AWP.cond (tm rfl) (fun hc5 => ?_) (fun hc5 => ?_)
 ·try simp only [aM] at hc5
  refine .seq (.region (.p rfl (zD U58 rfl Z3 (tm rfl)) (.p rfl (zH G3 (tm rfl)) (.p rfl (zR (tm rfl) zE) (.as rfl rfl (.nil ?_))))))
  refine Next.go ?_
  refine .ret ?_
  refine Next.rt ?_
  refine Ret.go (.cons (.tmp _ _ rfl) .nil) _ (hRa _) ?_
  refine ⟨?_, rfl⟩
  unfold qE
  rw [aO hc5]; rfl
 try simp only [aL] at hc5
 have hlp : 0 < ds.length := cI.2 hc5
 have hsuf := (biR hlp).trans (auA (b := ds.getD (ds.length - 1) 0) 48 (by decide)).symm
 refine .skip ?_
 refine Next.go ?_
 refine AWP.seqTo 2 (.bool (decide ((ds.length : Int) ≤ 1100) && decide (-100000 ≤ e) && decide (e ≤ 100000) && true && decide (((ds.getD 0 0).toNat : Int) ≠ 48) && !(Lib.hasSuffix ds [48]))) [] ?_ ?_
 ·-- region 3
  refine .region (.p rfl (zD U58 rfl Z9 (tm rfl)) ?_)
  iterate 4 refine AX ?_
  refine zL (t := 13) rfl (fun hg13 => ?_) (fun hg13 => ?_)
  ·have hh13 := hg13; try simp only [aM] at hh13
   refine .gp rfl rfl rfl (by assumption) (zD U58 rfl Z3 (tm rfl)) ?_
   iterate 4 refine AX ?_
   refine zL (t := 18) rfl (fun hg18 => ?_) (fun hg18 => ?_)
   ·have hh18 := hg18; try simp only [aM] at hh18
    refine .gp rfl rfl rfl (by assumption) (zD U58 rfl Z3 (tm rfl)) ?_
    iterate 4 refine AX ?_
    refine zL (t := 23) rfl (fun hg23 => ?_) (fun hg23 => ?_)
    ·have hh23 := hg23; try simp only [aM] at hh23
     refine .gp rfl rfl rfl (by assumption) (zD U58 rfl Z9 (tm rfl)) ?_
     refine AX ?_
     refine .gs rfl rfl rfl (by assumption) (zF Tryz.call162 (evs1 rfl) (aoD _ hd _)) ?_
     rintro _ _ ⟨rfl, hH⟩
     obtain rfl := hH.symm
     iterate 2 refine AX ?_
     refine zL (t := 28) rfl (fun hg28 => ?_) (fun hg28 => ?_)
     ·have hh28 := hg28; try simp only [] at hh28
      refine .gp rfl rfl rfl (by rfl) (zD U58 rfl Z9 (tm rfl)) ?_
      iterate 5 refine AX ?_
      refine zL (t := 34) rfl (fun hg34 => ?_) (fun hg34 => ?_)
      ·have hh34 := hg34; try simp only [aM, ne_eq] at hh34
       refine .gp rfl rfl rfl (by assumption) (zD U58 rfl Z9 (tm rfl)) ?_
       refine AX ?_
       refine .gs rfl rfl rfl (by assumption) (zF Tryz.call222 (.cons (tm rfl) (.cons (zS rfl) .nil)) (hasSuffixA _ _ _)) ?_
       rintro _ _ ⟨rfl, hH⟩
       obtain rfl := hH.symm
       iterate 4 refine AX ?_
       exact ⟨rfl, zY rfl (by simp_all) zU, rfl⟩
      have hh34 := hg34; try simp only [aL, ne_eq, cG] at hh34
      iterate 7 refine AX ?_
      exact ⟨rfl, zY rfl (by simp_all) zU, rfl⟩
     have hh28 := hg28; try simp only [aK] at hh28
     iterate 13 refine AX ?_
     exact ⟨rfl, zY rfl (by (simp [*]; done)) zU, rfl⟩
    have hh23 := hg23; try simp only [aL, cA] at hh23
    iterate 18 refine AX ?_
    exact ⟨rfl, zY rfl (by (simp [*]; done)) zU, rfl⟩
   have hh18 := hg18; try simp only [aL, cA] at hh18
   iterate 23 refine AX ?_
   exact ⟨rfl, zY rfl (by (simp [*]; done)) zU, rfl⟩
  have hh13 := hg13; try simp only [aL, cA] at hh13
  iterate 28 refine AX ?_
  exact ⟨rfl, zY rfl (by (simp [*]; done)) zU, rfl⟩
 refine AWP.sub [(2, _)] (zC rfl zU) ?_
 iterate 2 refine AX ?_
 refine ⟨?_, rfl⟩
 simp only [yI]
 rw [anO hc5, adL.2 hd, hsuf, Bool.and_true, Bool.and_true]; rfl

def agZ (ds : List UInt8) (e : Int) : Int := if qE ds e then (ds.length : Int) + e else 0
theorem beN (ds : List UInt8) (e : Int) : (decide ((1100 : Int) < (ds.length : Int)) || decide (e < -100000) || decide ((100000 : Int) < e) || decide (((ds.getD 0 0).toNat : Int) = 48) || decide (((ds.getD (ds.length - 1) 0).toNat : Int) = 48)) = !anP ds e := by
 unfold anP
 rw [show decide ((1100 : Int) < (ds.length : Int)) = !decide ((ds.length : Int) ≤ 1100) by rw [← decide_not]; exact bA.2 (by omega),
   show decide (e < -100000) = !decide (-100000 ≤ e) by rw [← decide_not]; exact bA.2 (by omega), show decide ((100000 : Int) < e) = !decide (e ≤ 100000) by rw [← decide_not]; exact bA.2 (by omega),
   show decide (((ds.getD 0 0).toNat : Int) ≠ 48) = !decide (((ds.getD 0 0).toNat : Int) = 48) from decide_not]
 generalize decide ((ds.length : Int) ≤ 1100) = a1
 generalize decide (-100000 ≤ e) = a2
 generalize decide (e ≤ 100000) = a3
 generalize decide (((ds.getD 0 0).toNat : Int) = 48) = a5
 generalize decide (((ds.getD (ds.length - 1) 0).toNat : Int) = 48) = a6
 cases a1 <;> cases a2 <;> cases a3 <;> cases a5 <;> cases a6 <;> rfl

theorem ajF (neg : Bool) (ds : List UInt8) (e : Int) (hd : Digs ds) (H : Heap) : ACall Tryz.prog 107 [dA neg ds e] H (fun y H' => y = .int .i64 (agZ ds e) ∧ H' = H) := by
 refine ACall.of_body Tryz.func107 rfl Tryz.ntmps107 Tryz.results107 rfl ?_
 refine .seq (.region (.e rfl (zZ (tm rfl) (.inr ⟨_, rfl⟩)) (.p rfl (zA zE) (.nil ?_))))
 refine Next.go ?_
 refine .seq (.seq (.region (.p rfl (zQ G58 Z58 (tm rfl) (lB rfl)) (.cl rfl C165 (evs1 rfl) (aeY neg ds e hd _) (.p rfl (aaB (tm rfl)) (.nil ?_))))))
 refine Next.go ?_
 refine AWP.cond (tm rfl) (fun hc5 => ?_) (fun hc5 => ?_)
 ·try simp only [cK] at hc5
  refine .seq (.region (.p rfl (zA zE) (.nil ?_)))
  refine Next.go ?_
  refine .ret ?_
  refine Next.rt ?_
  refine Ret.go (.cons (.tmp _ _ rfl) .nil) _ (hRa _) ?_
  refine ⟨?_, rfl⟩
  unfold agZ
  rw [aN (by simp [hc5])]; rfl
 try simp only [cJ] at hc5
 have hrl := aaY (show qE ds e = true from by simpa using hc5)
 refine .skip ?_
 refine Next.go ?_
 refine .seq (.region (.p rfl (zD U58 rfl Z9 (tm rfl)) (.p rfl (zH G9 (tm rfl)) (.p rfl (yQ U9 (tm rfl)) (.p rfl (zD U58 rfl Z3 (tm rfl)) ?_)))))
 iterate 7 refine AX ?_
 refine ⟨?_, rfl⟩
 unfold agZ
 rw [aO (by simpa using hc5)]; rfl

theorem alI (b : UInt8) (H : Heap) : ACall Tryz.prog 171 [.int .u8 ((b.toNat : Nat) : Int)] H (fun y H' => y = .bool (digC b) ∧ H' = H) := by
 refine ACall.of_body Tryz.func171 rfl Tryz.ntmps171 Tryz.results171 rfl ?_
 iterate 5 refine AX ?_
 refine AWP.seqTo 2 (.bool (digC b)) [] ?_ ?_
 ·-- region 1
  iterate 4 refine AX ?_
  refine zL (t := 5) rfl (fun hg5 => ?_) (fun hg5 => ?_)
  ·have hh5 := hg5; try simp only [aM] at hh5
   iterate 5 refine AX ?_
   exact ⟨rfl, zY rfl (by (unfold digC; rw [show decide ((48 : Int) ≤ ((b.toNat : Nat) : Int)) = _ from hg5]; rfl)) zU, rfl⟩
  have hh5 := hg5; try simp only [aL, cA] at hh5
  iterate 5 refine AX ?_
  exact ⟨rfl, zY rfl (by (unfold digC; rw [show decide ((48 : Int) ≤ ((b.toNat : Nat) : Int)) = _ from hg5]; rfl)) zU, rfl⟩
 refine AWP.sub [(2, _)] (zC rfl zU) ?_
 iterate 2 refine AX ?_
 exact ⟨rfl, rfl⟩

def bcA (neg : Bool) (ds : List UInt8) (e : Int) (H : Heap) : Nat → Env → Heap → Prop := fun k env H1 => ∃ i : Nat, i ≤ ds.length ∧ asA (ds.take i) = true ∧ env = [(1, .iptr [.bool neg, .str ds, .int .i64 e]), (3, .int .i64 (ds.length : Int)), (4, .int .i64 (i : Int))] ∧ H = H1 ∧ k = ds.length - i

theorem alM (neg : Bool) (ds : List UInt8) (e : Int) (hl : ds.length ≤ maxLen) (H : Heap) : ACall Tryz.prog 147 [dA neg ds e] H (fun y H' => y = .bool (qE ds e) ∧ H' = H) := by
 rw [zW] at hl
 refine ACall.of_body Tryz.func147 rfl Tryz.ntmps147 Tryz.results147 rfl ?_
 refine .seq (.region (.e rfl (zZ (tm rfl) (.inr ⟨_, rfl⟩)) (.p rfl (zA zM) (.nil ?_))))
 refine Next.go ?_
 refine .seq (.region (.p rfl (zD U58 rfl Z9 (tm rfl)) (.p rfl (zH G9 (tm rfl)) (.p rfl (yQ U9 (tm rfl)) (.as rfl rfl (.nil ?_))))))
 refine Next.go ?_
 refine .seq (.seq (.region (.mv rfl rfl (.p rfl (zR (tm rfl) zE) (.nil ?_)))))
 refine Next.go ?_
 refine AWP.cond (tm rfl) (fun hc10 => ?_) (fun hc10 => ?_)
 ·try simp only [aM] at hc10
  refine .seq (.region (.p rfl (zD U58 rfl Z3 (tm rfl)) (.p rfl (zH G3 (tm rfl)) (.p rfl (zR (tm rfl) zE) (.as rfl rfl (.nil ?_))))))
  refine Next.go ?_
  refine .ret ?_
  refine Next.rt ?_
  refine Ret.go (.cons (.tmp _ _ rfl) .nil) _ (hRa _) ?_
  refine ⟨?_, rfl⟩
  have h0 : ds = [] := dN.1 (by omega)
  unfold qE
  rw [aO h0]; rfl
 try simp only [aL] at hc10
 have hlp : 0 < ds.length := by omega
 have hne := cI.1 hlp
 have hrq := anO (e := e) hne
 have hrn := beN ds e
 refine .skip ?_
 refine Next.go ?_
 refine .seq ?_
 refine AWP.seqTo 39 (.bool ((decide ((1100 : Int) < (ds.length : Int)) || decide (e < -100000) || decide ((100000 : Int) < e) || decide (((ds.getD 0 0).toNat : Int) = 48) || decide (((ds.getD (ds.length - 1) 0).toNat : Int) = 48)))) [1, 2, 3] ?_ ?_
 ·-- region 4
  refine .region (.mv rfl rfl (.p rfl (yC (tm rfl) zE) (.mv rfl rfl ?_)))
  refine zL (t := 16) rfl (fun hg16 => ?_) (fun hg16 => ?_)
  ·have hh16 := hg16; try simp only [aM] at hh16
   refine .gn rfl rfl rfl (by assumption) (.gn rfl rfl rfl (by assumption) (.gn rfl rfl rfl (by assumption) (.p rfl (zO (tm rfl) (by assumption) zM) (.mv rfl rfl (.gn rfl rfl rfl (by rfl) (.gn rfl rfl rfl (by rfl) (.gn rfl rfl rfl (by rfl) (.p rfl (zO (tm rfl) (by rfl) zM) ?_))))))))
   refine .mv rfl rfl (.gn rfl rfl rfl (by rfl) (.gn rfl rfl rfl (by rfl) (.gn rfl rfl rfl (by rfl) (.gn rfl rfl rfl (by rfl) (.p rfl (zO (tm rfl) (by rfl) zM) (.mv rfl rfl (.gn rfl rfl rfl (by rfl) (.gn rfl rfl rfl (by rfl) ?_))))))))
   refine .gn rfl rfl rfl (by rfl) (.gn rfl rfl rfl (by rfl) (.gn rfl rfl rfl (by rfl) (.gn rfl rfl rfl (by rfl) (.p rfl (zO (tm rfl) (by rfl) zM) (.nil ?_)))))
   exact ⟨rfl, zY rfl (by (rw [show decide ((1100 : Int) < (ds.length : Int)) = _ from hg16]; rfl)) sX, rfl⟩
  have hh16 := hg16; try simp only [aL, bN] at hh16
  refine .gp rfl rfl rfl (by assumption) (zD U58 rfl Z3 (tm rfl)) (.gp rfl rfl rfl (by assumption) (zH G3 (tm rfl)) (.gp rfl rfl rfl (by assumption) (yN (tm rfl) zE) (.p rfl (zN (tm rfl) (by assumption) (tm rfl)) (.mv rfl rfl ?_))))
  refine zL (t := 21) rfl (fun hg21 => ?_) (fun hg21 => ?_)
  ·have hh21 := hg21; try simp only [aM] at hh21
   refine .gn rfl rfl rfl (by assumption) (.gn rfl rfl rfl (by assumption) (.gn rfl rfl rfl (by assumption) (.p rfl (zO (tm rfl) (by assumption) zM) (.mv rfl rfl (.gn rfl rfl rfl (by rfl) (.gn rfl rfl rfl (by rfl) (.gn rfl rfl rfl (by rfl) (.gn rfl rfl rfl (by rfl) ?_))))))))
   refine .p rfl (zO (tm rfl) (by rfl) zM) (.mv rfl rfl (.gn rfl rfl rfl (by rfl) (.gn rfl rfl rfl (by rfl) (.gn rfl rfl rfl (by rfl) (.gn rfl rfl rfl (by rfl) (.gn rfl rfl rfl (by rfl) (.gn rfl rfl rfl (by rfl) (.p rfl (zO (tm rfl) (by rfl) zM) ?_))))))))
   refine .nil ?_
   exact ⟨rfl, zY rfl (by (rw [show decide ((1100 : Int) < (ds.length : Int)) = _ from hg16, show decide (e < -100000) = _ from hg21]; rfl)) sX, rfl⟩
  have hh21 := hg21; try simp only [aL, bN] at hh21
  refine .gp rfl rfl rfl (by assumption) (zD U58 rfl Z3 (tm rfl)) (.gp rfl rfl rfl (by assumption) (zH G3 (tm rfl)) (.gp rfl rfl rfl (by assumption) (yC (tm rfl) zE) (.p rfl (zN (tm rfl) (by assumption) (tm rfl)) (.mv rfl rfl ?_))))
  refine zL (t := 26) rfl (fun hg26 => ?_) (fun hg26 => ?_)
  ·have hh26 := hg26; try simp only [aM] at hh26
   refine .gn rfl rfl rfl (by assumption) (.gn rfl rfl rfl (by assumption) (.gn rfl rfl rfl (by assumption) (.gn rfl rfl rfl (by assumption) (.p rfl (zO (tm rfl) (by assumption) zM) (.mv rfl rfl (.gn rfl rfl rfl (by rfl) (.gn rfl rfl rfl (by rfl) (.gn rfl rfl rfl (by rfl) ?_))))))))
   refine .gn rfl rfl rfl (by rfl) (.gn rfl rfl rfl (by rfl) (.gn rfl rfl rfl (by rfl) (.p rfl (zO (tm rfl) (by rfl) zM) (.nil ?_))))
   exact ⟨rfl, zY rfl (by (rw [show decide ((1100 : Int) < (ds.length : Int)) = _ from hg16, show decide (e < -100000) = _ from hg21, show decide ((100000 : Int) < e) = _ from hg26]; rfl)) sX, rfl⟩
  have hh26 := hg26; try simp only [aL, bN] at hh26
  refine .gp rfl rfl rfl (by assumption) (zD U58 rfl Z9 (tm rfl)) (.gp rfl rfl rfl (by assumption) (zH G9 (tm rfl)) (.gp rfl rfl rfl (by assumption) (abK U9 (tm rfl) zE (by omega) (by omega)) (.gp rfl rfl rfl (by assumption) (zR (tm rfl) zE) (.p rfl (zN (tm rfl) (by assumption) (tm rfl)) (.mv rfl rfl ?_)))))
  refine zL (t := 32) rfl (fun hg32 => ?_) (fun hg32 => ?_)
  ·have hh32 := hg32; try simp only [aM] at hh32
   refine .gn rfl rfl rfl (by assumption) (.gn rfl rfl rfl (by assumption) (.gn rfl rfl rfl (by assumption) (.gn rfl rfl rfl (by assumption) (.gn rfl rfl rfl (by assumption) (.gn rfl rfl rfl (by assumption) (.p rfl (zO (tm rfl) (by assumption) zM) (.nil ?_)))))))
   exact ⟨rfl, zY rfl (by (rw [show decide ((1100 : Int) < (ds.length : Int)) = _ from hg16, show decide (e < -100000) = _ from hg21, show decide ((100000 : Int) < e) = _ from hg26, show decide (((ds.getD 0 0).toNat : Int) = 48) = _ from hg32]; rfl)) sX, rfl⟩
  have hh32 := hg32; try simp only [aL] at hh32
  refine .gp rfl rfl rfl (by assumption) (zD U58 rfl Z9 (tm rfl)) (.gp rfl rfl rfl (by assumption) (zH G9 (tm rfl)) (.gp rfl rfl rfl (by assumption) (zJ (tm rfl)) (.gp rfl rfl rfl (by assumption) (yG (tm rfl) zE (by omega)) (.gp rfl rfl rfl (by assumption) (abK U9 (tm rfl) (tm rfl) (by omega) (by omega)) (.gp rfl rfl rfl (by assumption) (zR (tm rfl) zE) (.p rfl (zN (tm rfl) (by assumption) (tm rfl)) (.nil ?_)))))))
  exact ⟨rfl, zY rfl (by (rw [show decide ((1100 : Int) < (ds.length : Int)) = _ from hg16, show decide (e < -100000) = _ from hg21, show decide ((100000 : Int) < e) = _ from hg26, show decide (((ds.getD 0 0).toNat : Int) = 48) = _ from hg32, show ((ds.length : Int) - 1).toNat = ds.length - 1 by omega]; rfl)) sX, rfl⟩
 refine AWP.sub [(39, _), (1, _), (2, _), (3, _)] sX ?_
 refine AWP.cond (tm rfl) (fun hc39 => ?_) (fun hc39 => ?_)
 ·try simp only [aK] at hc39
  rw [hrn] at hc39
  have hrc : anP ds e = false := by simpa using hc39
  refine .seq (.region (.p rfl (zA zM) (.nil ?_)))
  refine Next.go ?_
  refine .ret ?_
  refine Next.rt ?_
  refine Ret.go (.cons (.tmp _ _ rfl) .nil) _ (hRa _) ?_
  refine ⟨?_, rfl⟩
  rw [hrq, hrc]; rfl
 try simp only [aK] at hc39
 rw [hrn] at hc39
 have hrc : anP ds e = true := by simpa using hc39
 refine .skip ?_
 refine Next.go ?_
 refine .seq (.seq (.region (.p rfl (zA zE) (.nil ?_))))
 refine Next.go ?_
 refine .block ?_
 refine AWP.loopW (bcA neg ds e H) (ds.length) ⟨0, Nat.zero_le _, rfl, rfl, rfl, rfl⟩ sX (hRa _) ?_
 rintro _ _ _ ⟨i, hi, hdg, rfl, rfl, hk⟩
 refine .seq (.seq (.region (.mv rfl rfl (.mv rfl rfl (.p rfl (yN (tm rfl) (tm rfl)) (.nil ?_))))))
 refine Next.go ?_
 refine AWP.cond (tm rfl) (fun hc42 => ?_) (fun hc42 => ?_)
 ·try simp only [aM] at hc42
  have hdt := bmR (ds := ds) (by omega) hdg
  refine .skip ?_
  refine Next.go ?_
  refine .seq (.block (.seq (.region (.p rfl (zD U58 rfl Z9 (tm rfl)) ?_))))
  iterate 3 refine AX ?_
  refine .cl rfl Tryz.call171 (evs1 rfl) (alI _ _) ?_
  iterate 9 refine AX ?_
  refine AWP.cond (tm rfl) (fun hc51 => ?_) (fun hc51 => ?_)
  ·try simp only [cK] at hc51
   have hdf : digC (ds.getD i 0) = false := by simpa using hc51
   iterate 12 refine AX ?_
   refine ⟨?_, rfl⟩
   have hdb : asA ds = false := by
    cases h : asA ds with
    | false => rfl
    | true => have := axA (i := i + 1) h; rw [hdt, hdf] at this; cases this
   rw [hrq, hdb, Bool.and_false]; rfl
  try simp only [cJ] at hc51
  have hdf : digC (ds.getD i 0) = true := by simpa using hc51
  iterate 9 refine AX ?_
  refine Round.mk (J := bcA neg ds e H) ⟨i + 1, by omega, by rw [hdt, hdf], rfl, rfl, rfl⟩ sX (hRa _) (by omega)
 try simp only [aL, bN] at hc42
 iterate 12 refine AX ?_
 refine ⟨?_, rfl⟩
 rw [aU (by omega)] at hdg
 rw [hrq, hrc, hdg]; rfl

theorem avN (neg : Bool) (ds : List UInt8) (e : Int) (hl : ds.length ≤ maxLen) (H : Heap) : ACall Tryz.prog 79 [dA neg ds e] H (fun y H' => y = .int .i64 (agZ ds e) ∧ H' = H) := by
 refine ACall.of_body Tryz.func79 rfl Tryz.ntmps79 Tryz.results79 rfl ?_
 refine .seq (.region (.e rfl (zZ (tm rfl) (.inr ⟨_, rfl⟩)) (.p rfl (zA zE) (.nil ?_))))
 refine Next.go ?_
 refine .seq (.region (.p rfl (zQ G58 Z58 (tm rfl) (lB rfl)) (.cl rfl Tryz.call147 (evs1 rfl) (alM neg ds e hl _) (.as rfl rfl (.nil ?_)))))
 refine Next.go ?_
 refine .seq (.seq (.region (.mv rfl rfl (.p rfl (aaB (tm rfl)) (.nil ?_)))))
 refine Next.go ?_
 refine AWP.cond (tm rfl) (fun hc7 => ?_) (fun hc7 => ?_)
 ·try simp only [cK] at hc7
  refine .seq (.region (.p rfl (zA zE) (.nil ?_)))
  refine Next.go ?_
  refine .ret ?_
  refine Next.rt ?_
  refine Ret.go (.cons (.tmp _ _ rfl) .nil) _ (hRa _) ?_
  refine ⟨?_, rfl⟩
  unfold agZ
  rw [aN (by simp [hc7])]; rfl
 try simp only [cJ] at hc7
 have hrl := aaY (show qE ds e = true from by simpa using hc7)
 refine .skip ?_
 refine Next.go ?_
 refine .seq (.region (.p rfl (zD U58 rfl Z9 (tm rfl)) (.p rfl (zH G9 (tm rfl)) (.p rfl (yQ U9 (tm rfl)) (.p rfl (zD U58 rfl Z3 (tm rfl)) ?_)))))
 iterate 7 refine AX ?_
 refine ⟨?_, rfl⟩
 unfold agZ
 rw [aO (by simpa using hc7)]; rfl

end
section
open Go Go.RowKit
set_option maxRecDepth 100000

theorem arX {l : List UInt8} {c : UInt8} (hi : i ≤ l.length) (h1 : ∀ q, q < i → l.getD q 0 = c) (h2 : i < l.length → l.getD i 0 ≠ c) : l.dropWhile (· == c) = l.drop i := by
 induction l generalizing i with
 | nil => simp
 | cons x l ih =>
  cases i with
  | zero =>
   have := h2 (by simp)
   have hx : x ≠ c := by simpa using this
   rw [dU, aN (by simpa using hx), dK]
  | succ i =>
   have h0 : x = c := by simpa using h1 0 (by omega)
   rw [dU, aO (by simpa using h0), List.drop_succ_cons]
   exact ih (by simpa using hi) (fun q hq => by simpa using h1 (q + 1) (by omega)) (fun hq => by simpa using h2 (by simpa using hq))
theorem aqG {l : List UInt8} {c : UInt8} {m : Nat} (hm : m ≤ l.length) (h1 : ∀ q, m ≤ q → q < l.length → l.getD q 0 = c) (h2 : 0 < m → l.getD (m - 1) 0 ≠ c) : Lib.trimRightB l c = l.take m := by
 unfold Lib.trimRightB
 have e : l.reverse.dropWhile (· == c) = l.reverse.drop (l.length - m) := by
  have hr : ∀ q, q < l.length → l.reverse.getD q 0 = l.getD (l.length - 1 - q) 0 := fun q hq => by
   rw [aP, aP, List.getElem?_reverse hq]
  refine arX (by simp) (fun q hq => ?_) (fun hq => ?_)
  ·rw [hr q (by omega)]; exact h1 _ (by omega) (by omega)
  rw [fK] at hq
  rw [hr _ hq, show l.length - 1 - (l.length - m) = m - 1 by omega]; exact h2 (by omega)
 rw [e, List.drop_reverse, List.reverse_reverse, show l.length - (l.length - m) = m by omega]
theorem bhB (hi : i ≤ ds.length) (hij : i ≤ j) (hj : j ≤ ds.length) (h1 : ∀ q, q < i → ds.getD q 0 = 48) (h2 : i < ds.length → ds.getD i 0 ≠ 48) (h3 : ∀ q, j ≤ q → q < ds.length → ds.getD q 0 = 48) (h4 : i < j → ds.getD (j - 1) 0 ≠ 48) :
  acH ds = (ds.take j).drop i ∧ (acH ds).length = j - i ∧ aiI ds = ds.length - j := by
 have e1 : apW ds = ds.drop i := arX hi h1 h2
 have hg : ∀ q, (ds.drop i).getD q 0 = ds.getD (i + q) 0 := fun q => by
  rw [aP, aP, eA]
 have e2 : acH ds = (ds.drop i).take (j - i) := by
  unfold acH
  rw [e1]
  refine aqG (by simp; omega) (fun q hq hl => ?_) (fun hq => ?_)
  ·rw [hg]; simp at hl; exact h3 _ (by omega) (by omega)
  rw [hg, show i + (j - i - 1) = j - 1 by omega]; exact h4 (by omega)
 have e3 : acH ds = (ds.take j).drop i := by rw [e2, List.drop_take]
 have e4 : (acH ds).length = j - i := by rw [e2, aQ, bS]; omega
 refine ⟨e3, e4, ?_⟩
 unfold aiI
 rw [e4, e1, bS]; omega

theorem akZ (neg : Bool) (ds : List UInt8) (e : Int) (hd : Digs ds) (hl : ds.length ≤ 100000) (he : -1000000000000 ≤ e ∧ e ≤ 1000000000000) (H : Heap) : ACall Tryz.prog 98 [.bool neg, .str ds, .int .i64 e] H (fun y H' => y = dT (mkN neg ds e) ∧ H' = H) := by
 have hlo := aoY ds 48
 have hml := ahE (ds.dropWhile (· == 48)) 48
 have hmo : e + (((ds.dropWhile (· == 48)).length : Int) - ((Lib.trimRightB (ds.dropWhile (· == 48)) 48).length : Int)) = e + (aiI ds : Int) := by unfold aiI acH apW; omega
 have hdc : Digs (Lib.trimRightB (ds.dropWhile (· == 48)) 48) := (hd.dropWhile _).trimR _
 refine ACall.of_body Tryz.func98 rfl Tryz.ntmps98 Tryz.results98 rfl ?_
 refine .seq (.region ?_)
 refine .al zr58 (fun b6 hb6 => ?_)
 refine .p rfl (zA zE) (.nil ?_)
 refine Next.go ?_
 refine .seq (.seq (.region (.mv rfl rfl (.cl rfl Tryz.call162 (evs1 rfl) (aoD ds hd _) (.p rfl (aaB (tm rfl)) (.nil ?_))))))
 refine Next.go ?_
 refine AWP.cond_false (tm rfl) (by rfl) ?_
 refine .skip ?_
 refine Next.go ?_
 refine .seq (.region (.mv rfl rfl (.cl rfl Tryz.call163 (.cons (tm rfl) (.cons (zS rfl) .nil)) (trimLeftA 48 (by decide) _ _) (.as rfl rfl (.nil ?_)))))
 refine Next.go ?_
 refine .seq (.region (.mv rfl rfl (.mv rfl rfl (.cl rfl Tryz.call164 (.cons (tm rfl) (.cons (zS rfl) .nil)) (trimRightA 48 (by decide) _ _) (.p rfl (yK zr58 pl58 (.cons (tm rfl) (.inl rfl) (.cons (tm rfl) (.inl rfl) .nil)) rfl) ?_)))))
 refine .al zr58 (fun b9 hb9 => ?_)
 have hn6_9 := Heap.ne_of (oS _ _ _) hb9
 refine .e0 (zG Z58 (tm rfl) (tm rfl) rfl rfl (.inr ⟨_, rfl⟩) (oS _ _ _) (lB rfl)) ?_
 try first | rw [sS] | rw [sU (by assumption)]
 refine .nil ?_
 refine Next.go ?_
 refine .seq (.seq (.region (.p rfl (zV U58 rfl Z9 (tm rfl)) (.e rfl (yE G9 (tm rfl) (oS _ _ _) rfl) (.p rfl (yM (tm rfl) (zS rfl)) (.nil ?_))))))
 refine Next.go ?_
 refine AWP.cond (tm rfl) (fun hc22 => ?_) (fun hc22 => ?_)
 ·try simp only [aM] at hc22
  refine .seq (.region (.e rfl (yW G58 Z58 (tm rfl) (oS _ _ _) (lB rfl)) (.e0 (zG Z58 (tm rfl) (tm rfl) rfl rfl (.inr ⟨_, rfl⟩) ((oN _ _ (by assumption)).trans (oS _ _ _)) (lB rfl)) ?_)))
  try first | rw [sS] | rw [sU (by assumption)]
  refine .p rfl (zA zE) (.nil ?_)
  refine Next.go ?_
  refine AWP.dropb (fS hb9 _) ?_
  refine AWP.frz (t := 6) rfl (hb6) ?_
  refine .ret ?_
  refine Next.rt ?_
  refine Ret.go (.cons (.cellI _ _ _ _ rfl G58 Z58 rfl) (.cons (.tmp _ _ rfl) .nil)) _ (hRa _) ?_
  refine ⟨?_, rfl⟩
  unfold mkN
  rw [aO (show acH ds = [] from hc22)]
  rw [show ds.dropWhile (· == 48) = apW ds from rfl, show Lib.trimRightB (apW ds) 48 = acH ds from rfl, show acH ds = [] from hc22]; rfl
 try simp only [aL] at hc22
 refine .skip ?_
 refine Next.go ?_
 refine .seq (.seq (.region (.mv rfl rfl (.p rfl (zV U58 rfl Z3 (tm rfl)) (.e0 (zG Z3 (tm rfl) (tm rfl) rfl rfl (.inl rfl) (oS _ _ _) (lB rfl)) ?_)))))
 try first | rw [sS] | rw [sU (by assumption)]
 refine .nil ?_
 refine Next.go ?_
 refine .seq (.region (.mv rfl rfl (.mv rfl rfl (.p rfl (yT (tm rfl) zE (by omega)) (.p rfl (abR (tm rfl) (by omega)) (.p rfl (aeS (tm rfl) (tm rfl)) (.p rfl (yN (tm rfl) zE) (.nil ?_))))))))
 refine Next.go ?_
 refine AWP.cond_true (tm rfl) (by exact bH (by simp only [awK]; split <;> omega)) ?_
 refine .region (.p rfl (zV U58 rfl Z3 (tm rfl)) (.e rfl (yE G3 (tm rfl) (oS _ _ _) rfl) (.mv rfl rfl (.p rfl (yQ U9 (tm rfl)) (.p rfl (zV U58 rfl Z9 (tm rfl)) (.e rfl (yE G9 (tm rfl) (oS _ _ _) rfl) (.p rfl (yQ U9 (tm rfl)) (.p rfl (yG (tm rfl) (tm rfl) (by omega)) ?_))))))))
 refine .p rfl (yT (tm rfl) (tm rfl) (by omega)) (.p rfl (zV U58 rfl Z3 (tm rfl)) ?_)
 iterate 5 refine AX ?_
 rw [hmo]
 iterate 2 refine AX ?_
 refine .cl rfl C165 (evs1 rfl) (aeY neg _ _ hdc _) ?_
 iterate 3 refine AX ?_
 refine AWP.cond (tm rfl) (fun hc44 => ?_) (fun hc44 => ?_)
 ·try simp only [cK] at hc44
  iterate 2 refine AX ?_
  refine .p rfl (yK zr58 pl58 .nil rfl) ?_
  iterate 4 refine AX ?_
  refine AWP.dropb (hb9) ?_
  refine AWP.frz (t := 6) rfl (hb6) ?_
  iterate 3 refine AX ?_
  refine ⟨?_, rfl⟩
  have hr : qE (acH ds) (e + aiI ds) = false := by first | exact hc44 | exact (Bool.not_eq_false _).mp hc44 | (simp only [Bool.not_eq_true, Bool.not_eq_false] at hc44; exact hc44)
  rw [akV hd hc22] at hr
  unfold mkN
  rw [aN (show ¬ acH ds = [] from hc22), aN (by rintro ⟨q1, q2, q3⟩; simp [q1, q2, q3] at hr)]; rfl
 try simp only [cJ] at hc44
 iterate 9 refine AX ?_
 refine AWP.dropb (fS hb9 _) ?_
 refine AWP.frz (t := 6) rfl (hb6) ?_
 iterate 2 refine AX ?_
 refine ⟨?_, rfl⟩
 have hr : qE (acH ds) (e + aiI ds) = true := by first | exact hc44 | exact (Bool.not_eq_false _).mp hc44 | (simp only [Bool.not_eq_true, Bool.not_eq_false] at hc44; exact hc44)
 rw [akV hd hc22] at hr
 simp only [bK, aM] at hr
 unfold mkN
 rw [aN (show ¬ acH ds = [] from hc22), aO ⟨hr.1.1, hr.1.2, hr.2⟩]; rfl

def rmk_J (neg : Bool) (ds : List UInt8) (e : Int) (b : Nat) (H : Heap) : Nat → Env → Heap → Prop := fun k env H1 => ∃ i : Nat, i ≤ ds.length ∧ env = [(0, .bool neg), (1, .str ds), (2, .int .i64 e), (6, .ptr (some ⟨b, 0, none⟩)), (8, .int .i64 (i : Int))] ∧ H1 = H.set b (.box 58 [.bool false, .str [], .int .i64 0]) ∧ k = ds.length - i

def rmkF_J (neg : Bool) (ds : List UInt8) (e : Int) (b : Nat) (H : Heap) : Nat → Env → Heap → Prop := fun k env H1 => ∃ i : Nat, i ≤ ds.length ∧ (∀ q, q < i → ds.getD q 0 = 48) ∧ env = [(0, .bool neg), (1, .str ds), (2, .int .i64 e), (6, .ptr (some ⟨b, 0, none⟩)), (10, .int .i64 (i : Int))] ∧ H1 = H.set b (.box 58 [.bool false, .str [], .int .i64 0]) ∧ k = ds.length - i

def rmkT_J (neg : Bool) (ds : List UInt8) (e : Int) (b i : Nat) (H : Heap) : Nat → Env → Heap → Prop := fun k env H1 => ∃ j : Nat, i ≤ j ∧ j ≤ ds.length ∧ (∀ q, j ≤ q → q < ds.length → ds.getD q 0 = 48) ∧ env = [(0, .bool neg), (1, .str ds), (2, .int .i64 e), (6, .ptr (some ⟨b, 0, none⟩)), (10, .int .i64 (i : Int)), (11, .int .i64 (j : Int)), (12, .int .i64 ((ds.length - j : Nat) : Int))] ∧ H1 = H.set b (.box 58 [.bool false, .str [], .int .i64 0]) ∧ k = j

theorem auB {b : UInt8} : ((b.toNat : Nat) : Int) = 48 ↔ b = 48 := by
 have := auA (b := b) 48 (by decide)
 exact bA.1 this

theorem aiW (neg : Bool) (ds : List UInt8) (e : Int) (hd : Digs ds) (hl : ds.length ≤ 100000) (he : -1000000000000 ≤ e ∧ e ≤ 1000000000000) (H : Heap) : ACall Tryz.prog 104 [.bool neg, .str ds, .int .i64 e] H (fun y H' => y = dT (mkN neg ds e) ∧ H' = H) := by
 refine ACall.of_body Tryz.func104 rfl Tryz.ntmps104 Tryz.results104 rfl ?_
 iterate 2 refine AX ?_
 refine .al zr58 (fun b6 hb6 => ?_)
 iterate 10 refine AX ?_
 refine AWP.loopW (rmk_J neg ds e b6 H) (ds.length) ⟨0, Nat.zero_le _, rfl, rfl, rfl⟩ sX (hRa _) ?_
 rintro _ _ _ ⟨i, hi, rfl, rfl, hk⟩
 iterate 9 refine AX ?_
 refine AWP.cx rfl (fun hc16 => ?_) (fun hc16 => ?_)
 ·have hda := hd.at (show i < ds.length by omega)
  have hdc : digC (ds.getD i 0) = true := by unfold digC; rw [bH (by omega), bH (by omega)]; rfl
  iterate 9 refine AX ?_
  refine .cl rfl Tryz.call171 (evs1 rfl) (alI (ds.getD i 0) _) ?_
  iterate 9 refine AX ?_
  refine AWP.cond_false (tm rfl) (by rw [hdc]; rfl) ?_
  iterate 9 refine AX ?_
  refine Round.mk (J := rmk_J neg ds e b6 H) ⟨i + 1, by omega, rfl, rfl, rfl⟩ sX (hRa _) (by omega)
 iterate 12 refine AX ?_
 refine AWP.loopW (rmkF_J neg ds e b6 H) (ds.length) ⟨0, Nat.zero_le _, fun q hq => by omega, rfl, rfl, rfl⟩ sX (hRa _) ?_
 rintro _ _ _ ⟨i, hi, hz, rfl, rfl, hk⟩
 refine AX ?_
 refine AWP.seqTo 35 (.bool (decide ((i : Int) < (ds.length : Int)) && decide (((ds.getD i 0).toNat : Int) = 48))) [0, 1, 2, 6, 10] ?_ ?_
 ·-- region 8
  iterate 6 refine AX ?_
  refine zL (t := 30) rfl (fun hg30 => ?_) (fun hg30 => ?_)
  ·have hh30 := hg30; try simp only [aM] at hh30
   iterate 6 refine AX ?_
   exact ⟨rfl, zY rfl (by (rw [show decide ((i : Int) < (ds.length : Int)) = _ from hg30]; rfl)) sX, rfl⟩
  have hh30 := hg30; try simp only [aL, bN] at hh30
  iterate 6 refine AX ?_
  exact ⟨rfl, zY rfl (by (rw [show decide ((i : Int) < (ds.length : Int)) = _ from hg30]; rfl)) sX, rfl⟩
 refine AWP.sub [(35, _), (0, _), (1, _), (2, _), (6, _), (10, _)] sX ?_
 refine AWP.cx rfl (fun hc35 => ?_) (fun hc35 => ?_)
 ·simp only [bK, aM] at hc35
  have h48 := auB.1 hc35.2
  iterate 10 refine AX ?_
  refine Round.mk (J := rmkF_J neg ds e b6 H) ⟨i + 1, by omega, fun q hq => by rcases bZ q i with h | h; exact hz q h; rw [show q = i by omega]; exact h48, rfl, rfl, rfl⟩ sX (hRa _) (by omega)
 simp only [cB, aL] at hc35
 have hne : i < ds.length → ds.getD i 0 ≠ 48 := fun h h2 => hc35.elim (fun q => q (by omega)) (fun q => q (auB.2 h2))
 iterate 19 refine AX ?_
 refine AWP.loopW (rmkT_J neg ds e b6 i H) (ds.length) ⟨ds.length, hi, aX _, fun q hq h => by omega, rfl, rfl, rfl⟩ (zC rfl (zC rfl (zC rfl (zC rfl (zC rfl (zC rfl (zX rfl (by rw [Nat.sub_self]; rfl) zU))))))) (hRa _) ?_
 rintro _ _ _ ⟨j, hij, hj, hz2, rfl, rfl, hk⟩
 refine AX ?_
 refine AWP.seqTo 49 (.bool (decide ((i : Int) < (j : Int)) && decide (((ds.getD (j - 1) 0).toNat : Int) = 48))) [0, 1, 2, 6, 10, 11, 12] ?_ ?_
 ·-- region 12
  iterate 5 refine AX ?_
  refine zL (t := 43) rfl (fun hg43 => ?_) (fun hg43 => ?_)
  ·have hh43 := hg43; try simp only [aM] at hh43
   iterate 7 refine AX ?_
   exact ⟨rfl, zY rfl (by (rw [show decide ((i : Int) < (j : Int)) = _ from hg43, show ((j : Int) - 1).toNat = j - 1 by omega]; rfl)) sX, rfl⟩
  have hh43 := hg43; try simp only [aL, bN] at hh43
  iterate 7 refine AX ?_
  exact ⟨rfl, zY rfl (by (rw [show decide ((i : Int) < (j : Int)) = _ from hg43]; rfl)) sX, rfl⟩
 refine AWP.sub [(49, _), (0, _), (1, _), (2, _), (6, _), (10, _), (11, _), (12, _)] sX ?_
 refine AWP.cx rfl (fun hc49 => ?_) (fun hc49 => ?_)
 ·simp only [bK, aM] at hc49
  have h48 := auB.1 hc49.2
  iterate 17 refine AX ?_
  refine Round.mk (J := rmkT_J neg ds e b6 i H) ⟨j - 1, by omega, by omega, fun q hq h => by rcases bZ q j with h2 | h2; rw [show q = j - 1 by omega]; exact h48; exact hz2 q h2 h, rfl, rfl, rfl⟩ (zC rfl (zC rfl (zC rfl (zC rfl (zC rfl (zX rfl (by congr 1; omega) (zX rfl (by congr 1; omega) zU))))))) (hRa _) (by omega)
 simp only [cB, aL] at hc49
 have hne2 : i < j → ds.getD (j - 1) 0 ≠ 48 := fun h h2 => hc49.elim (fun q => q (by omega)) (fun q => q (auB.2 h2))
 obtain ⟨hco, hcl, hmr⟩ := bhB hi hij hj hz hne hz2 hne2
 iterate 13 refine AX ?_
 refine AWP.cx rfl (fun hc56 => ?_) (fun hc56 => ?_)
 ·iterate 3 refine AX ?_
  refine .p rfl (yK zr58 pl58 (.cons (tm rfl) (.inl rfl) .nil) rfl) ?_
  iterate 4 refine AX ?_
  refine AWP.frz (t := 6) rfl (hb6) ?_
  iterate 3 refine AX ?_
  refine ⟨?_, rfl⟩
  unfold mkN
  rw [aO (dN.1 (by omega))]; rfl
 iterate 3 refine AX ?_
 refine AWP.seqTo 78 (.bool (decide ((1100 : Int) < (j : Int) - (i : Int)) || decide ((100000 : Int) < e) || decide (e < -100000 - ((ds.length - j : Nat) : Int)) || decide ((100000 : Int) < e + ((ds.length - j : Nat) : Int)))) [0, 1, 2, 6, 10, 11, 12] ?_ ?_
 ·-- region 17
  iterate 6 refine AX ?_
  refine zL (t := 63) rfl (fun hg63 => ?_) (fun hg63 => ?_)
  ·have hh63 := hg63; try simp only [aM] at hh63
   iterate 16 refine AX ?_
   exact ⟨rfl, zY rfl (by (rw [show decide ((1100 : Int) < (j : Int) - (i : Int)) = _ from hg63]; rfl)) sX, rfl⟩
  have hh63 := hg63; try simp only [aL, bN] at hh63
  iterate 4 refine AX ?_
  refine zL (t := 67) rfl (fun hg67 => ?_) (fun hg67 => ?_)
  ·have hh67 := hg67; try simp only [aM] at hh67
   iterate 12 refine AX ?_
   exact ⟨rfl, zY rfl (by (rw [show decide ((1100 : Int) < (j : Int) - (i : Int)) = _ from hg63, show decide ((100000 : Int) < e) = _ from hg67]; rfl)) sX, rfl⟩
  have hh67 := hg67; try simp only [aL, bN] at hh67
  iterate 6 refine AX ?_
  refine zL (t := 73) rfl (fun hg73 => ?_) (fun hg73 => ?_)
  ·have hh73 := hg73; try simp only [aM] at hh73
   iterate 6 refine AX ?_
   exact ⟨rfl, zY rfl (by (rw [show decide ((1100 : Int) < (j : Int) - (i : Int)) = _ from hg63, show decide ((100000 : Int) < e) = _ from hg67, show decide (e < -100000 - ((ds.length - j : Nat) : Int)) = _ from hg73]; rfl)) sX, rfl⟩
  have hh73 := hg73; try simp only [aL, bN] at hh73
  iterate 6 refine AX ?_
  exact ⟨rfl, zY rfl (by (rw [show decide ((1100 : Int) < (j : Int) - (i : Int)) = _ from hg63, show decide ((100000 : Int) < e) = _ from hg67, show decide (e < -100000 - ((ds.length - j : Nat) : Int)) = _ from hg73]; rfl)) sX, rfl⟩
 refine AWP.sub [(78, _), (0, _), (1, _), (2, _), (6, _), (10, _), (11, _), (12, _)] sX ?_
 refine AWP.cx rfl (fun hc78 => ?_) (fun hc78 => ?_)
 ·simp only [cV, aM] at hc78
  iterate 2 refine AX ?_
  refine .p rfl (yK zr58 pl58 .nil rfl) ?_
  iterate 4 refine AX ?_
  refine AWP.frz (t := 6) rfl (hb6) ?_
  iterate 3 refine AX ?_
  refine ⟨?_, rfl⟩
  unfold mkN
  rw [aN (fun h => by rw [h] at hcl; simp at hcl; omega), aN (show ¬ okD ds e by unfold okD; rw [hcl, hmr]; omega)]; rfl
 simp only [cP, aL] at hc78
 iterate 12 refine AX ?_
 refine .p rfl (yK zr58 pl58 (.cons (tm rfl) (.inl rfl) (.cons (tm rfl) (.inl rfl) (.cons (tm rfl) (.inl rfl) .nil))) rfl) ?_
 iterate 4 refine AX ?_
 refine AWP.frz (t := 6) rfl (hb6) ?_
 iterate 2 refine AX ?_
 refine ⟨?_, rfl⟩
 unfold mkN
 rw [aN (fun h => by rw [h] at hcl; simp at hcl; omega), aO (show okD ds e by unfold okD; rw [hcl, hmr]; omega), hco, hmr]; rfl

end
section
open Go Go.RowKit
set_option maxRecDepth 100000

def upB (rest : List UInt8) : Bool := decide (53 ≤ (rest.getD 0 0).toNat)
theorem cmp5 {rest : List UInt8} (h : rest ≠ []) : (0 : Int) ≤ Lib.compareBytes rest [53] ↔ 53 ≤ (rest.getD 0 0).toNat := by
 cases rest with
 | nil => exact absurd rfl h
 | cons x r =>
  unfold Lib.compareBytes
  simp only [dQ]
  have hx : x < 53 ↔ x.toNat < 53 := UInt8.lt_iff_toNat_lt
  have hy : 53 < x ↔ 53 < x.toNat := UInt8.lt_iff_toNat_lt
  split
  ·rename_i h1; have := hx.1 h1; omega
  rename_i h1
  have h1' : ¬ x.toNat < 53 := fun q => h1 (hx.2 q)
  split
  ·omega
  cases r with
  | nil => unfold Lib.compareBytes; omega
  | cons y r => unfold Lib.compareBytes; omega
def arL (s : List UInt8) : List UInt8 :=
 if Lib.trimRightB s 57 = [] then 49 :: List.replicate s.length 48
 else (Lib.trimRightB s 57).take ((Lib.trimRightB s 57).length - 1) ++ [UInt8.ofNat (((Lib.trimRightB s 57).getD ((Lib.trimRightB s 57).length - 1) 0).toNat + 1)] ++ List.replicate (s.length - (Lib.trimRightB s 57).length) 48
def cutD (neg : Bool) (ds : List UInt8) (e : Int) (n : Nat) : (Bool × List UInt8 × Int) × Int := mkN neg (if upB (ds.drop n) = true then arL (ds.take n) else ds.take n) (e + ds.length - n)
def sigD (neg : Bool) (ds : List UInt8) (e : Int) (n : Nat) : (Bool × List UInt8 × Int) × Int := if ds.length ≤ n then ((neg, ds, e), 0) else cutD neg ds e n
theorem Digs.app {a b : List UInt8} (h : Digs a) (k : Digs b) : Digs (a ++ b) := fun x hx => by
 rcases eF.1 hx with h1 | h1
 ·exact h x h1
 exact k x h1
theorem Digs.rep {x : UInt8} (h : isD x) : Digs (List.replicate n x) := fun y hy => by rw [List.eq_of_mem_replicate hy]; exact h
theorem Digs.one {x : UInt8} (h : isD x) : Digs [x] := fun y hy => by rw [List.mem_singleton.1 hy]; exact h
theorem last_9 {s : List UInt8} (hd : Digs s) (h : Lib.trimRightB s 57 ≠ []) : 48 ≤ ((Lib.trimRightB s 57).getD ((Lib.trimRightB s 57).length - 1) 0).toNat ∧ ((Lib.trimRightB s 57).getD ((Lib.trimRightB s 57).length - 1) 0).toNat < 57 := by
 have hp := cI.2 h
 have h1 := (hd.trimR 57).at (p := (Lib.trimRightB s 57).length - 1) (by omega)
 have h2 := aqH h
 refine ⟨h1.1, ?_⟩
 rcases bZ ((Lib.trimRightB s 57).getD ((Lib.trimRightB s 57).length - 1) 0).toNat 57 with q | q
 ·exact q
 exact absurd (UInt8.toNat_inj.1 (show _ = (57 : UInt8).toNat by simp only [UInt8.reduceToNat]; omega)) h2
theorem aoP {s : List UInt8} (hd : Digs s) : Digs (arL s) := by
 unfold arL
 split
 ·exact Digs.app (a := [49]) (Digs.one (by unfold isD; decide)) (Digs.rep (by unfold isD; decide))
 rename_i h
 obtain ⟨h1, h2⟩ := last_9 hd h
 refine Digs.app (Digs.app ((hd.trimR 57).take _) (Digs.one ?_)) (Digs.rep (by unfold isD; decide))
 unfold isD
 rw [eU]
 omega
theorem amL (s : List UInt8) : (arL s).length ≤ s.length + 1 := by
 unfold arL
 have := ahE s 57
 split
 ·simp
 rename_i h
 have hp := cI.2 h
 simp only [aS, aQ, bR, bE, bL]; omega

theorem biC (neg : Bool) (kept rest : List UInt8) (hr : rest ≠ []) (H : Heap) : ACall Tryz.prog 279 [.bool neg, .str kept, .str rest, .int .i64 1] H (fun y H' => y = .bool (upB rest) ∧ H' = H) := by
 refine ACall.of_body Tryz.func279 rfl Tryz.ntmps279 Tryz.results279 rfl ?_
 iterate 12 refine AX ?_
 refine AWP.cond_false (tm rfl) (by exact bG hr) ?_
 iterate 5 refine AX ?_
 refine .cl rfl Tryz.call113 (.cons (tm rfl) (.cons (zS rfl) .nil)) (compareA rest [53] _) ?_
 iterate 16 refine AX ?_
 refine AWP.cond_false (tm rfl) (by rfl) ?_
 iterate 6 refine AX ?_
 refine AWP.cond_true (tm rfl) (by rfl) ?_
 iterate 11 refine AX ?_
 refine ⟨?_, rfl⟩
 simp only [yI, upB]
 congr 1
 exact bA.2 (cmp5 hr)

theorem bfU (s : List UInt8) (hd : Digs s) (hl : s.length ≤ 100000) (H : Heap) : ACall Tryz.prog 280 [.str s] H (fun y H' => y = .str (arL s) ∧ H' = H) := by
 have htl := ahE s 57
 have hml := zW
 refine ACall.of_body Tryz.func280 rfl Tryz.ntmps280 Tryz.results280 rfl ?_
 iterate 8 refine AX ?_
 refine .cl rfl Tryz.call164 (.cons (tm rfl) (.cons (zS rfl) .nil)) (trimRightA 57 (by decide) s _) ?_
 iterate 10 refine AX ?_
 refine .cl rfl C232 (.cons (zS rfl) (evs1 rfl)) (repeatZ 48 _ (s.length - (Lib.trimRightB s 57).length) (by omega) (by omega) _) ?_
 iterate 10 refine AX ?_
 refine AWP.cx rfl (fun hc14 => ?_) (fun hc14 => ?_)
 ·iterate 3 refine AX ?_
  refine .p rfl (yX (zS rfl) (tm rfl) (by rw [zW, bR]; simp only [bE, bL]; omega)) ?_
  iterate 6 refine AX ?_
  refine ⟨?_, rfl⟩
  unfold arL
  rw [aO hc14, hc14]; rfl
 have htp := cI.2 hc14
 obtain ⟨h91, h92⟩ := last_9 hd hc14
 have htn : (((Lib.trimRightB s 57).length : Int) - 1).toNat = (Lib.trimRightB s 57).length - 1 := by omega
 rw [← htn] at h91 h92
 iterate 3 refine AX ?_
 refine AWP.draw [(0, true), (1, true), (2, true), (3, true), (4, true), (5, true), (6, true), (7, true), (8, true), (9, true), (10, true), (11, true), (12, true), (13, true), (14, true), (15, true)] rfl (by decide +kernel) ?_
 iterate 10 refine AX ?_
 refine .p rfl rfl (arD (tm rfl) (zI 1) (by omega)) (.p rfl rfl (avR U5 U9 (tm rfl) (by omega)) (.p rfl rfl (yX (tm rfl) (tm rfl) (by rw [zW]; simp only [bE, bL, aQ]; omega)) ?_))
 refine AX ?_
 refine .p rfl rfl (yX (tm rfl) (tm rfl) (by rw [zW]; simp only [aS, bR, bE, bL, aQ]; omega)) ?_
 iterate 5 refine AX ?_
 refine ⟨?_, rfl⟩
 unfold arL
 rw [aN hc14, ← htn]; rfl

theorem bhA (neg : Bool) (ds : List UInt8) (e : Int) (n : Nat) (hd : Digs ds) (hn : 0 < n) (hn2 : n < ds.length) (hl : ds.length ≤ 2000) (he : -200000 ≤ e ∧ e ≤ 200000) (H : Heap) : ACall Tryz.prog 231 [dA neg ds e, .int .i64 (n : Int), .int .i64 1] H (fun y H' => y = dT (cutD neg ds e n) ∧ H' = H) := by
 have hdn : ds.drop n ≠ [] := by intro h; have := congrArg List.length h; simp at this; omega
 have hil := amL (ds.take n)
 rw [aQ] at hil
 have hml := zW
 refine ACall.of_body Tryz.func231 rfl Tryz.ntmps231 Tryz.results231 rfl ?_
 refine .seq (.region (.e rfl (zZ (tm rfl) (.inr ⟨_, rfl⟩)) ?_))
 refine .al zr58 (fun b6 hb6 => ?_)
 refine .p rfl (zA zE) (.nil ?_)
 refine Next.go ?_
 refine .seq (.region (.p rfl (zD U58 rfl Z3 (tm rfl)) (.p rfl (zH G3 (tm rfl)) (.p rfl (zD U58 rfl Z9 (tm rfl)) (.p rfl (zH G9 (tm rfl)) (.p rfl (yQ U9 (tm rfl)) (.p rfl (yT (tm rfl) (tm rfl) (by omega)) (.mv rfl rfl ?_))))))))
 refine .p rfl (yG (tm rfl) (tm rfl) (by omega)) (.as rfl rfl (.nil ?_))
 refine Next.go ?_
 refine .seq ?_
 refine AWP.draw [(0, true), (1, true), (2, true), (3, true), (5, true), (6, true), (4, false), (7, true), (8, true), (9, true)] rfl (by decide +kernel) ?_
 refine .p rfl rfl (zJ (tm rfl)) (.p rfl rfl (abR (tm rfl) (by omega)) (.p rfl rfl (ahL (tm rfl) zE) (.p rfl rfl (aeS zE (tm rfl)) (.p rfl rfl (zD U58 rfl Z9 (tm rfl)) (.p rfl rfl (zH G9 (tm rfl)) (.s rfl rfl (zF C232 (.cons (zS rfl) (evs1 rfl)) (repeatZ 48 _ 0 (by simp only [awK, bhU]; split <;> split <;> omega) (by omega) _)) ?_))))))
 rintro _ _ ⟨rfl, hH⟩
 obtain rfl := hH.symm
 refine .p rfl rfl (yX (tm rfl) (tm rfl) (by rw [zW, bR]; omega)) (.p rfl rfl (zA (zS rfl)) (.p rfl rfl (zA (tm rfl)) (.nil ?_)))
 refine Next.go ?_
 refine .seq (.seq (.region (.mv rfl rfl (.p rfl (yC (tm rfl) zE) (.nil ?_)))))
 refine Next.go ?_
 refine AWP.cond_true (tm rfl) (by exact bH (by omega)) ?_
 refine AWP.draw [(0, true), (1, true), (2, true), (3, true), (4, true), (5, true), (6, true), (7, true), (8, true), (9, true)] rfl (by decide +kernel) ?_
 refine .p rfl rfl (zD U58 rfl Z9 (tm rfl)) (.p rfl rfl (zH G9 (tm rfl)) (.p rfl rfl (zJ (tm rfl)) (.p rfl rfl (abN U9 (tm rfl) (tm rfl) (by omega) (by omega)) (.p rfl rfl (zD U58 rfl Z9 (tm rfl)) (.p rfl rfl (zH G9 (tm rfl)) (.p rfl rfl (zJ (tm rfl)) (.p rfl rfl (abM U9 (tm rfl) (tm rfl) (by omega) (by omega)) (.p rfl rfl (zA (tm rfl)) ?_))))))))
 refine .p rfl rfl (zA (tm rfl)) (.nil ?_)
 refine Next.go ?_
 refine AWP.seqToL [(9, .str (if upB (ds.drop n) = true then arL (ds.take n) else ds.take n))] [3, 6, 7, 8] ?_ ?_
 ·refine .seq (.region (.p rfl (zD U58 rfl Z4 (tm rfl)) (.p rfl (zH G4 (tm rfl)) (.mv rfl rfl (.mv rfl rfl (.mv rfl rfl (.cl rfl Tryz.call279 (.cons (tm rfl) (evs3 rfl rfl rfl)) (biC neg _ _ hdn _) (.nil ?_))))))))
  refine Next.go ?_
  refine AWP.cond (tm rfl) (fun hc42 => ?_) (fun hc42 => ?_)
  ·try simp only [aK] at hc42
   refine .region (.mv rfl rfl (.cl rfl Tryz.call280 (evs1 rfl) (bfU (ds.take n) (hd.take n) (by rw [aQ]; omega) _) (.as rfl rfl (.nil ?_))))
   exact ⟨rfl, (zX rfl (by (rw [aO (show upB (ds.drop n) = true from hc42)]; done)) sX), rfl⟩
  try simp only [aK] at hc42
  refine .skip ?_
  exact ⟨rfl, (zX rfl (by (rw [aN (show ¬ upB (ds.drop n) = true from by first | exact hc42 | (intro q; rw [show upB (ds.drop n) = false from hc42] at q; cases q))]; rfl)) sX), rfl⟩
 refine AWP.sub [(9, _), (3, _), (6, _), (7, _), (8, _)] sX ?_
 refine .seq (.region (.p rfl (zD U58 rfl Z4 (tm rfl)) ?_))
 iterate 3 refine AX ?_
 refine .cl rfl Tryz.call98 (evs3 rfl rfl rfl) (akZ neg (if upB (ds.drop n) = true then arL (ds.take n) else ds.take n) _ (by split; exact aoP (hd.take n); exact hd.take n) (by split; omega; rw [aQ]; omega) (by constructor <;> omega) _) ?_
 iterate 6 refine AX ?_
 refine AWP.frz (t := 6) rfl (hb6) ?_
 iterate 2 refine AX ?_
 refine ⟨?_, rfl⟩
 rfl

theorem bnG (neg : Bool) (ds : List UInt8) (e : Int) (n : Nat) (hr : qE ds e = true) (hn : 0 < n) (hn2 : n ≤ 100000) (H : Heap) : ACall Tryz.prog 174 [dA neg ds e, .int .i64 (n : Int), .int .i64 1] H (fun y H' => y = dT (sigD neg ds e n) ∧ H' = H) := by
 have hk1 : (!qE ds e) = false := by rw [hr]; rfl
 have hrl := aaY hr
 have hdd := qQ hr
 refine ACall.of_body Tryz.func174 rfl Tryz.ntmps174 Tryz.results174 rfl ?_
 refine .seq (.region (.e rfl (zZ (tm rfl) (.inr ⟨_, rfl⟩)) ?_))
 refine .al zr58 (fun b6 hb6 => ?_)
 refine .p rfl (zA zE) (.nil ?_)
 refine Next.go ?_
 refine .seq (.block (.seq (.region (.p rfl (zQ G58 Z58 (tm rfl) (lB rfl)) (.cl rfl C165 (evs1 rfl) (aeY neg ds e hdd _) (.p rfl (aaB (tm rfl)) (.mv rfl rfl (.gp rfl rfl rfl (by assumption) (zJ (tm rfl)) ?_))))))))
 refine .gp rfl rfl rfl (by assumption) (yN (tm rfl) zE) (.p rfl (zN (tm rfl) (by assumption) (tm rfl)) (.mv rfl rfl (.gp rfl rfl rfl (by rfl) (zJ (tm rfl)) (.gp rfl rfl rfl (by rfl) (yC (tm rfl) zE) (.p rfl (zN (tm rfl) (by rfl) (tm rfl)) (.mv rfl rfl (.gp rfl rfl rfl (by rfl) (zJ (tm rfl)) (.gp rfl rfl rfl (by rfl) (yN (tm rfl) zE) ?_))))))))
 refine .p rfl (zN (tm rfl) (by rfl) (tm rfl)) (.as rfl rfl (.nil ?_))
 refine Next.go ?_
 refine AWP.cond_false (tm rfl) (by exact bG (by omega)) ?_
 refine .seq (.region (.mv rfl rfl (.p rfl (zD U58 rfl Z9 (tm rfl)) (.p rfl (zH G9 (tm rfl)) (.p rfl (yQ U9 (tm rfl)) (.p rfl (yS (tm rfl) (tm rfl)) (.as rfl rfl (.nil ?_))))))))
 refine Next.go ?_
 refine AWP.cond (tm rfl) (fun hc25 => ?_) (fun hc25 => ?_)
 ·try simp only [aM] at hc25
  refine .seq (.region (.p rfl (zQ G58 Z58 (tm rfl) (lB rfl)) (.e0 (zG Z58 (tm rfl) (tm rfl) rfl rfl (.inr ⟨_, rfl⟩) (oS _ _ _) (lB rfl)) ?_)))
  try first | rw [sS] | rw [sU (by assumption)]
  refine .p rfl (zA zE) (.nil ?_)
  refine Next.go ?_
  refine AWP.frz (t := 6) rfl (hb6) ?_
  refine .ret ?_
  refine Block.rt ?_
  refine Next.rt ?_
  refine Ret.go (.cons (.cellI _ _ _ _ rfl G58 Z58 rfl) (.cons (.tmp _ _ rfl) .nil)) _ (hRa _) ?_
  refine ⟨?_, rfl⟩
  unfold sigD
  rw [aO (by omega)]; rfl
 try simp only [aL, cA] at hc25
 refine .skip ?_
 refine Block.go ?_
 refine Next.go ?_
 refine .seq (.region (.p rfl (zQ G58 Z58 (tm rfl) (lB rfl)) (.mv rfl rfl (.mv rfl rfl (.cl rfl Tryz.call231 (evs3 rfl rfl rfl) (bhA neg ds e n hdd hn (by omega) (by omega) (by omega) _) ?_)))))
 iterate 6 refine AX ?_
 refine AWP.frz (t := 6) rfl (hb6) ?_
 iterate 2 refine AX ?_
 refine ⟨?_, rfl⟩
 unfold sigD
 rw [aN (by omega)]; rfl

end
section
open Go Go.RowKit
set_option maxRecDepth 100000

theorem bytes_U (s : List UInt8) (k : Nat) : s.map bv ++ List.replicate k (.int .u8 0) = U .u8 (s.map UInt8.toNat ++ List.replicate k 0) := by
 rw [← auF]
 unfold U
 rw [List.map_map, List.map_replicate]; rfl
theorem U_bytes (l : List UInt8) : U .u8 (l.map UInt8.toNat) = l.map bv := by
 unfold U; rw [List.map_map]; rfl
def azZ (rest : List UInt8) : Int := if rest = [53] then 0 else if (decide ((53 : Int) < (((rest.getD 0 0).toNat : Nat) : Int)) || (decide ((((rest.getD 0 0).toNat : Nat) : Int) = 53) && decide ((1 : Int) < (rest.length : Int)))) = true then 1 else -1
theorem half_up {rest : List UInt8} (h : rest ≠ []) : decide ((0 : Int) ≤ azZ rest) = upB rest := by
 unfold azZ upB
 apply bA.2
 cases rest with
 | nil => exact absurd rfl h
 | cons x r =>
  simp only [dQ]
  split
  ·rename_i h1
   have : x = 53 := by simp at h1; exact h1.1
   rw [this]; decide
  rename_i h1
  have h2 : x.toNat = 53 → r ≠ [] := fun q q2 => h1 (by rw [q2, UInt8.toNat_inj.1 (show x.toNat = (53 : UInt8).toNat from q)])
  split
  ·rename_i h3
   simp only [cV, bK, aM] at h3
   omega
  rename_i h3
  simp only [cV, bK, aM, not_or, not_and] at h3
  constructor
  ·intro q; omega
  intro q
  have h4 : x.toNat = 53 := by omega
  have h5 := cI.2 (h2 h4)
  have h6 := h3.2 (by omega)
  simp only [bE] at h6
  omega
theorem ayP (hk : ks.length = n) (h1 : 1 ≤ j) (hj : j ≤ n) : (ks.take j ++ List.replicate (n - j) 48 ++ ts).getD (j - 1) 0 = ks.getD (j - 1) 0 := by
 rw [bV, aP, fE (by rw [aQ]; omega), List.getElem?_take_of_lt (by omega), aP]
theorem bjF (hk : ks.length = n) (h1 : 1 ≤ j) (hj : j ≤ n) (v : Nat) : (ks.take j ++ List.replicate (n - j) 48 ++ ts).set (j - 1) v = (ks.take (j - 1) ++ [v] ++ List.replicate (n - j) 48) ++ ts := by
 have e : ks.take j = ks.take (j - 1) ++ [ks[j - 1]'(by omega)] := by
  rw [dJ (by omega), show j - 1 + 1 = j by omega]
 rw [bV, List.set_append_left _ _ (by rw [aQ]; omega), e, List.set_append_right _ _ (by rw [aQ]; omega), aQ, show j - 1 - min (j - 1) ks.length = 0 by omega]
 simp
theorem row_nine (hk : ks.length = n) (h1 : 1 ≤ j) (hj : j ≤ n) : (ks.take j ++ List.replicate (n - j) 48 ++ ts).set (j - 1) 48 = ks.take (j - 1) ++ List.replicate (n - (j - 1)) 48 ++ ts := by
 rw [bjF hk h1 hj, show n - (j - 1) = (n - j) + 1 by omega, fJ]
 simp
theorem anI (hk : ks.length = n) (hj : j ≤ n) : (ks.take j ++ List.replicate (n - j) 48).length = n ∧ n ≤ (ks.take j ++ List.replicate (n - j) 48 ++ ts).length := by
 simp only [aS, aQ, bR]; omega
theorem amG {s : List UInt8} {q : Nat} : (s.map UInt8.toNat).getD q 0 = (s.getD q 0).toNat := by
 rw [aP, aP, dW]
 cases s[q]? <;> rfl
theorem inc_all {s : List UInt8} (h : Lib.trimRightB s 57 = []) : (arL s).map UInt8.toNat = [49] ++ List.replicate s.length 48 := by
 unfold arL; rw [aO h]; simp
theorem inc_at {s : List UInt8} (hd : Digs s) (h1 : 1 ≤ j) (hj : j ≤ s.length) (h : Lib.trimRightB s 57 = s.take j) : (arL s).map UInt8.toNat = (s.map UInt8.toNat).take (j - 1) ++ [(s.map UInt8.toNat).getD (j - 1) 0 + 1] ++ List.replicate (s.length - j) 48 := by
 have hl : (s.take j).length = j := by rw [aQ]; omega
 unfold arL
 rw [h, aN (fun q => by rw [q] at hl; simp at hl; omega), hl, List.take_take, dE (by omega), amG]
 have e : (s.take j).getD (j - 1) 0 = s.getD (j - 1) 0 := by
  rw [aP, List.getElem?_take_of_lt (by omega), aP]
 have hb := hd.at (show j - 1 < s.length by omega)
 rw [e]
 simp only [List.map_append, List.map_take, eM, List.map_nil, List.map_replicate]
 congr 2
 ·congr 2
  rw [eU]; omega
theorem baC {H : Heap} {b c : Nat} {x : AObj} (h : (H.set b x).objs c = none) (x' : AObj) : (H.set b x').objs c = none := fS h x'

def rcut_J (neg : Bool) (ds : List UInt8) (e : Int) (n b6 b c : Nat) (ts : List Nat) (H : Heap) : Nat → Env → Heap → Prop := fun k env H1 => ∃ j : Nat, j ≤ n ∧ (∀ q, j ≤ q → q < n → (ds.take n).getD q 0 = 57) ∧ env = [(3, .iptr [.bool neg, .str ds, .int .i64 e]), (6, .ptr (some ⟨b6, 0, none⟩)), (8, .int .i64 (e + (ds.length : Int) - (n : Int))), (9, .mslice (some ⟨b, 0, none⟩) n c), (14, .int .i64 ((j : Int) - 1))] ∧ H1 = (H.set b6 (.box 58 [.bool false, .str [], .int .i64 0])).set b (.box 5 (U .u8 (((ds.take n).map UInt8.toNat).take j ++ List.replicate (n - j) 48 ++ ts))) ∧ k = j

theorem ayT (neg : Bool) (ds : List UInt8) (e : Int) (n : Nat) (hd : Digs ds) (hn : 0 < n) (hn2 : n < ds.length) (hl : ds.length ≤ 2000) (he : -200000 ≤ e ∧ e ≤ 200000) (H : Heap) : ACall Tryz.prog 148 [dA neg ds e, .int .i64 (n : Int), .int .i64 1] H (fun y H' => y = dT (cutD neg ds e n) ∧ H' = H) := by
 have hdn : ds.drop n ≠ [] := by intro h; have := congrArg List.length h; simp at this; omega
 have hup := half_up hdn
 have hil := amL (ds.take n)
 have hkn : (ds.take n).length = n := by rw [aQ]; omega
 have hks : ((ds.take n).map UInt8.toNat).length = n := by rw [eY, hkn]
 have hml := zW
 have hnp : decide ((0 : Int) < (n : Int)) = true := bH (by omega)
 have hdp := cI.2 hdn
 have hkd := hd.take n
 refine ACall.of_body Tryz.func148 rfl Tryz.ntmps148 Tryz.results148 rfl ?_
 refine .seq (.region (.e rfl (zZ (tm rfl) (.inr ⟨_, rfl⟩)) ?_))
 refine .al zr58 (fun b6 hb6 => ?_)
 refine .p rfl (zA zE) (.nil ?_)
 refine Next.go ?_
 refine .seq (.region (.p rfl (zD U58 rfl Z3 (tm rfl)) (.p rfl (zH G3 (tm rfl)) (.p rfl (zD U58 rfl Z9 (tm rfl)) (.p rfl (zH G9 (tm rfl)) (.p rfl (yQ U9 (tm rfl)) (.p rfl (yT (tm rfl) (tm rfl) (by omega)) (.mv rfl rfl ?_))))))))
 refine .p rfl (yG (tm rfl) (tm rfl) (by omega)) (.as rfl rfl (.nil ?_))
 refine Next.go ?_
 refine .seq (.region (.p rfl (zD U58 rfl Z9 (tm rfl)) (.p rfl (zH G9 (tm rfl)) (.mv rfl rfl (.p rfl (abN U9 (tm rfl) (tm rfl) (by omega) (by omega)) (.s rfl (aqK U9 U142 U5 (tm rfl) (by (rw [aQ]; omega))) ?_))))))
 rintro _ _ ⟨b27, c27, rfl, hcl27, hcm27, hb27, hH⟩
 obtain rfl := hH.symm
 refine .as rfl rfl (.nil ?_)
 refine Next.go ?_
 refine .seq ?_
 have hcl : n ≤ c27 := by rw [← hkn]; exact hcl27
 rw [bytes_U, show ((n : Int)).toNat = n from rfl, hkn]
 generalize hts : List.replicate (c27 - n) 0 = ts
 have hrow0 : ((ds.take n).map UInt8.toNat) ++ ts = ((ds.take n).map UInt8.toNat).take n ++ List.replicate (n - n) 48 ++ ts := by rw [aU (l := ((ds.take n).map UInt8.toNat)) (Nat.le_of_eq hks), Nat.sub_self, List.replicate_zero, cS]
 refine .region (.p rfl (zD U58 rfl Z9 (tm rfl)) (.p rfl (zH G9 (tm rfl)) (.mv rfl rfl (.p rfl (abM U9 (tm rfl) (tm rfl) (by omega) (by omega)) (.as rfl rfl (.nil ?_))))))
 refine Next.go ?_
 refine .seq ?_
 rw [show ((n : Int)).toNat = n from rfl]
 refine .region (.p rfl (zA zE) (.nil ?_))
 refine Next.go ?_
 refine AWP.seqToL [(11, .int .i64 (azZ (ds.drop n)))] [1, 2, 3, 6, 7, 8, 9, 10] ?_ ?_
 ·refine .seq (.region (.mv rfl rfl (.p rfl (qO (tm rfl) (zS rfl)) (.nil ?_))))
  refine Next.go ?_
  refine AWP.cond_true (tm rfl) (by show (!decide (ds.drop n = [])) = true; rw [bG hdn]; rfl) ?_
  refine .seq (.region (.p rfl (zA zE) (.nil ?_)))
  refine Next.go ?_
  refine AWP.seqToL [(11, .int .i64 (if (decide ((53 : Int) < ((((ds.drop n).getD 0 0).toNat : Nat) : Int)) || (decide (((((ds.drop n).getD 0 0).toNat : Nat) : Int) = 53) && decide ((1 : Int) < ((ds.drop n).length : Int)))) = true then 1 else -1))] [1, 2, 3, 6, 7, 8, 9, 10] ?_ ?_
  ·refine AWP.seqTo 46 (.bool ((decide ((53 : Int) < ((((ds.drop n).getD 0 0).toNat : Nat) : Int)) || (decide (((((ds.drop n).getD 0 0).toNat : Nat) : Int) = 53) && decide ((1 : Int) < ((ds.drop n).length : Int)))))) [1, 2, 3, 6, 7, 8, 9, 10, 11] ?_ ?_
   ·-- region 7
    refine .region (.mv rfl rfl (.p rfl (abK U9 (tm rfl) zE (by omega) (by omega)) (.p rfl (yC (tm rfl) (zI 53)) (.mv rfl rfl ?_))))
    refine zL (t := 37) rfl (fun hg37 => ?_) (fun hg37 => ?_)
    ·have hh37 := hg37; try simp only [aM] at hh37
     refine .gn rfl rfl rfl (by assumption) (.gn rfl rfl rfl (by assumption) (.gn rfl rfl rfl (by assumption) (.gn rfl rfl rfl (by assumption) ?_)))
     refine AList.gdead rfl rfl rfl ?_
     refine AList.gdead rfl rfl rfl ?_
     refine AList.gdead rfl rfl rfl ?_
     refine .gn rfl rfl rfl (by assumption) (.p rfl (zO (tm rfl) (by assumption) zM) (.nil ?_))
     exact ⟨rfl, zY rfl (by (rw [show decide ((53 : Int) < ((((ds.drop n).getD 0 0).toNat : Nat) : Int)) = _ from hg37]; rfl)) sX, rfl⟩
    have hh37 := hg37; try simp only [aL, bN] at hh37
    refine .gp rfl rfl rfl (by assumption) (zJ (tm rfl)) (.gp rfl rfl rfl (by assumption) (abK U9 (tm rfl) zE (by omega) (by omega)) (.gp rfl rfl rfl (by assumption) (zR (tm rfl) (zI 53)) (.gp rfl rfl rfl (by assumption) (zJ (tm rfl)) ?_)))
    refine zL (t := 41) rfl (fun hg41 => ?_) (fun hg41 => ?_)
    ·have hh41 := hg41; try simp only [aM] at hh41
     refine .gp rfl rfl rfl (by assumption) (zJ (tm rfl)) (.gp rfl rfl rfl (by assumption) (yQ U9 (tm rfl)) (.gp rfl rfl rfl (by assumption) (yC (tm rfl) zE) (.gp rfl rfl rfl (by assumption) (zO (tm rfl) (by assumption) (tm rfl)) (.p rfl (zN (tm rfl) (by assumption) (tm rfl)) (.nil ?_)))))
     exact ⟨rfl, zY rfl (by (rw [show decide ((53 : Int) < ((((ds.drop n).getD 0 0).toNat : Nat) : Int)) = _ from hg37, show decide (((((ds.drop n).getD 0 0).toNat : Nat) : Int) = 53) = _ from hg41]; rfl)) sX, rfl⟩
    have hh41 := hg41; try simp only [aL] at hh41
    refine .gn rfl rfl rfl (by assumption) (.gn rfl rfl rfl (by assumption) (.gn rfl rfl rfl (by assumption) (.gp rfl rfl rfl (by assumption) (zN (tm rfl) (by assumption) zM) (.p rfl (zN (tm rfl) (by assumption) (tm rfl)) (.nil ?_)))))
    exact ⟨rfl, zY rfl (by (rw [show decide ((53 : Int) < ((((ds.drop n).getD 0 0).toNat : Nat) : Int)) = _ from hg37, show decide (((((ds.drop n).getD 0 0).toNat : Nat) : Int) = 53) = _ from hg41]; rfl)) sX, rfl⟩
   refine AWP.sub [(46, _), (1, _), (2, _), (3, _), (6, _), (7, _), (8, _), (9, _), (10, _), (11, _)] sX ?_
   refine AWP.cond (tm rfl) (fun hc46 => ?_) (fun hc46 => ?_)
   ·try simp only [aK] at hc46
    refine .region (.p rfl (zA zE) (.nil ?_))
    exact ⟨rfl, (zX rfl (by (rw [aO hc46]; done)) sX), rfl⟩
   try simp only [aK] at hc46
   refine .skip ?_
   exact ⟨rfl, (zX rfl (by (rw [aN (by rw [hc46]; decide)]; done)) sX), rfl⟩
  refine AWP.sub [(11, _), (1, _), (2, _), (3, _), (6, _), (7, _), (8, _), (9, _), (10, _)] sX ?_
  refine .seq (.region (.mv rfl rfl (.p rfl (yM (tm rfl) (zS rfl)) (.nil ?_))))
  refine Next.go ?_
  refine AWP.cond (tm rfl) (fun hc48 => ?_) (fun hc48 => ?_)
  ·try simp only [aM] at hc48
   refine .region (.p rfl (zA zE) (.nil ?_))
   exact ⟨rfl, (zX rfl (by unfold azZ; first | (rw [aO (show ds.drop n = [53] from hc48)]; done) | (rw [aN (show ¬ ds.drop n = [53] from hc48)]; done)) sX), rfl⟩
  try simp only [aL] at hc48
  refine .skip ?_
  exact ⟨rfl, (zX rfl (by unfold azZ; first | (rw [aO (show ds.drop n = [53] from hc48)]; done) | (rw [aN (show ¬ ds.drop n = [53] from hc48)]; done)) sX), rfl⟩
 refine AWP.sub [(11, _), (1, _), (2, _), (3, _), (6, _), (7, _), (8, _), (9, _), (10, _)] sX ?_
 refine AWP.seqTo 12 (.bool (decide (((((ds.take n).map UInt8.toNat) ++ ts).getD (n - 1) 0 % 2 : Nat) = (1 : Int)))) [11, 1, 2, 3, 6, 7, 8, 9, 10] ?_ ?_
 ·-- region 11
  refine .region (.mv rfl rfl (.p rfl (yC (tm rfl) zE) (.mv rfl rfl (.gp rfl rfl rfl (by assumption) (zJ (tm rfl)) (.gp rfl rfl rfl (by assumption) (zJ (tm rfl)) (.gp rfl rfl rfl (by assumption) (yG (tm rfl) zE (by omega)) (.gp rfl rfl rfl (by assumption) (yO (n - 1) U142 Z5 (tm rfl) (tm rfl) (by omega) (by omega)) (.gs rfl rfl rfl (by assumption) (qJ G5 (tm rfl) (oS _ _ _) (by (rw [aS, eY, aQ]; omega))) ?_))))))))
  rintro _ _ ⟨rfl, hH⟩
  obtain rfl := hH.symm
  refine .gp rfl rfl rfl (by assumption) (bjV (tm rfl) (zI 2) (by omega)) (.gp rfl rfl rfl (by assumption) (zR (tm rfl) (zI 1)) (.p rfl (zO (tm rfl) (by assumption) (tm rfl)) (.as rfl rfl (.nil ?_))))
  exact ⟨rfl, zY rfl (by rfl) sX, rfl⟩
 refine AWP.sub [(12, _), (11, _), (1, _), (2, _), (3, _), (6, _), (7, _), (8, _), (9, _), (10, _)] sX ?_
 refine .seq (.region (.p rfl (zA zM) (.nil ?_)))
 refine Next.go ?_
 refine .seq (.seq (.region (.mv rfl rfl (.nil ?_))))
 refine Next.go ?_
 refine .block (.seq (.region (.p rfl (zR (tm rfl) zE) (.as rfl rfl (.nil ?_)))))
 refine Next.go ?_
 refine AWP.cond_false (tm rfl) (by rfl) ?_
 refine .seq (.region (.p rfl (zR (tm rfl) zE) (.as rfl rfl (.nil ?_))))
 refine Next.go ?_
 refine AWP.cond_true (tm rfl) (by rfl) ?_
 refine .region (.mv rfl rfl (.p rfl (yS (tm rfl) zE) (.as rfl rfl (.nil ?_))))
 refine Block.go ?_
 refine Next.go ?_
 refine AWP.meet (fun env H2 => ∃ (b c : Nat) (zs ts : List Nat), zs = (if upB (ds.drop n) = true then arL (ds.take n) else ds.take n).map UInt8.toNat ∧ zs.length ≤ c ∧ c ≤ maxLen ∧ (H.set b6 (.box 58 [.bool false, .str [], .int .i64 0])).objs b = none ∧ env = [(3, .iptr [.bool neg, .str ds, .int .i64 e]), (6, .ptr (some ⟨b6, 0, none⟩)), (8, .int .i64 (e + (ds.length : Int) - (n : Int))), (9, .mslice (some ⟨b, 0, none⟩) zs.length c)] ∧ H2 = (H.set b6 (.box 58 [.bool false, .str [], .int .i64 0])).set b (.box 5 (U .u8 (zs ++ ts)))) ?_ ?_
 ·refine AWP.seqTo 91 (.bool (upB (ds.drop n))) [1, 3, 6, 7, 8, 9] ?_ ?_
  ·-- region 24
   refine .region (.mv rfl rfl (.mv rfl rfl ?_))
   refine zL (t := 88) rfl (fun hg88 => ?_) (fun hg88 => ?_)
   ·have hh88 := hg88; try simp only [aM] at hh88
    refine .gp rfl rfl rfl (by assumption) (zJ (tm rfl)) (.gp rfl rfl rfl (by assumption) (qO (tm rfl) (zS rfl)) (.p rfl (zO (tm rfl) (by assumption) (tm rfl)) (.nil ?_)))
    exact ⟨rfl, zY rfl (by (rw [← hup, show decide ((0 : Int) ≤ azZ (ds.drop n)) = _ from hg88]; show (!decide (ds.drop n = [])) = true; rw [bG hdn]; rfl)) sX, rfl⟩
   have hh88 := hg88; try simp only [aL, cA] at hh88
   refine .gn rfl rfl rfl (by assumption) (.gn rfl rfl rfl (by assumption) (.p rfl (zN (tm rfl) (by assumption) zM) (.nil ?_)))
   exact ⟨rfl, zY rfl (by (rw [← hup, show decide ((0 : Int) ≤ azZ (ds.drop n)) = _ from hg88]; done)) sX, rfl⟩
  refine AWP.sub [(91, _), (1, _), (3, _), (6, _), (7, _), (8, _), (9, _)] sX ?_
  refine AWP.cond (tm rfl) (fun hc91 => ?_) (fun hc91 => ?_)
  ·try simp only [aK] at hc91
   refine .seq (.region (.mv rfl rfl (.p rfl (yG (tm rfl) zE (by omega)) (.as rfl rfl (.nil ?_)))))
   refine Next.go ?_
   refine .seq (.block ?_)
   refine AWP.loopW (rcut_J neg ds e n b6 b27 c27 ts H) (n) ⟨n, aX _, fun q h1 h2 => by omega, rfl, by rw [hrow0], rfl⟩ sX (hRa _) ?_
   rintro _ _ _ ⟨j, hj, h9, rfl, rfl, hk⟩
   refine .seq ?_
   refine AWP.seqTo 102 (.bool (decide ((0 : Int) ≤ (j : Int) - 1) && decide ((((((ds.take n).map UInt8.toNat).take j ++ List.replicate (n - j) 48 ++ ts).getD (j - 1) 0 : Nat) : Int) = ((57 : Nat) : Int)))) [3, 6, 8, 9, 14] ?_ ?_
   ·-- region 26
    refine .region (.mv rfl rfl (.p rfl (yS (tm rfl) zE) (.mv rfl rfl ?_)))
    refine zL (t := 96) rfl (fun hg96 => ?_) (fun hg96 => ?_)
    ·have hh96 := hg96; try simp only [aM] at hh96
     refine .gp rfl rfl rfl (by assumption) (zJ (tm rfl)) (.gp rfl rfl rfl (by assumption) (zJ (tm rfl)) (.gp rfl rfl rfl (by assumption) (yO (j - 1) U142 Z5 (tm rfl) (tm rfl) (by omega) (by omega)) ?_))
     refine .gs rfl rfl rfl (by assumption) (qJ G5 (tm rfl) (oS _ _ _) (by (have := (anI (ts := ts) hks (show j ≤ n by omega)).2; omega))) ?_
     rintro _ _ ⟨rfl, hH⟩
     obtain rfl := hH.symm
     refine .gp rfl rfl rfl (by assumption) (zR (tm rfl) (zI 57)) (.p rfl (zO (tm rfl) (by assumption) (tm rfl)) (.nil ?_))
     exact ⟨rfl, zY rfl (by (rw [show decide ((0 : Int) ≤ (j : Int) - 1) = _ from hg96]; rfl)) sX, rfl⟩
    have hh96 := hg96; try simp only [aL, cA] at hh96
    refine .gn rfl rfl rfl (by assumption) (.gn rfl rfl rfl (by assumption) (.gn rfl rfl rfl (by assumption) (.gn rfl rfl rfl (by assumption) (.gn rfl rfl rfl (by assumption) (.p rfl (zN (tm rfl) (by assumption) zM) (.nil ?_))))))
    exact ⟨rfl, zY rfl (by (rw [show decide ((0 : Int) ≤ (j : Int) - 1) = _ from hg96]; rfl)) sX, rfl⟩
   refine AWP.sub [(102, _), (3, _), (6, _), (8, _), (9, _), (14, _)] sX ?_
   refine AWP.cond (tm rfl) (fun hc102 => ?_) (fun hc102 => ?_)
   ·try simp only [aK] at hc102
    simp only [bK, aM] at hc102
    obtain ⟨hj1, hc102b⟩ := hc102
    have hgr := ayP (ts := ts) hks (show 1 ≤ j by omega) hj
    have h57 : (ds.take n).getD (j - 1) 0 = 57 := by
     have h := hc102b
     rw [hgr, amG] at h
     exact UInt8.toNat_inj.1 (show _ = (57 : UInt8).toNat by simp only [UInt8.reduceToNat]; omega)
    refine .skip ?_
    refine Next.go ?_
    refine .block (.seq (.region (.mv rfl rfl (.mv rfl rfl (.p rfl (yO (j - 1) U142 Z5 (tm rfl) (tm rfl) (by omega) (by omega)) ?_)))))
    refine .e0 (qH Z5 (tm rfl) (zI 48) (oS _ _ _) (by (have := (anI (ts := ts) hks (show j ≤ n by omega)).2; omega))) ?_
    try first | rw [sS] | rw [sU (by assumption)]
    refine .nil ?_
    refine Next.go ?_
    refine .region (.mv rfl rfl (.p rfl (yG (tm rfl) zE (by omega)) (.as rfl rfl (.nil ?_))))
    refine Block.go ?_
    refine Next.go ?_
    rw [row_nine hks (by omega) hj]
    refine Round.mk (J := rcut_J neg ds e n b6 b27 c27 ts H) ⟨j - 1, by omega, fun q h1 h2 => by rcases bZ q j with h | h; rw [show q = j - 1 by omega]; exact h57; exact h9 q h h2, rfl, rfl, rfl⟩ (zC rfl (zC rfl (zC rfl (zC rfl (zX rfl (by congr 1; omega) zU))))) (hRa _) (by omega)
   try simp only [aK] at hc102
   simp only [cB, aL] at hc102
   have hne : 0 < j → (ds.take n).getD (j - 1) 0 ≠ 57 := fun hp h => hc102.elim (fun q => q (by omega)) (fun q => q (by rw [ayP (ts := ts) hks hp hj, amG, h]; rfl))
   have htr := aqG (l := ds.take n) (c := 57) (by omega) (fun q h1 h2 => h9 q h1 (by omega)) hne
   refine .exit ?_
   refine Next.ex ?_
   refine Next.ex ?_
   refine Block.hit ?_
   refine Next.go ?_
   refine .seq (.region (.mv rfl rfl (.p rfl (yN (tm rfl) zE) (.nil ?_))))
   refine Next.go ?_
   refine AWP.cond (tm rfl) (fun hc109 => ?_) (fun hc109 => ?_)
   ·try simp only [aM] at hc109
    have hj0 : j = 0 := by omega
    subst hj0
    refine AWP.frzU (t := 9) rfl hb27 (anI (ts := ts) hks (Nat.zero_le _)).2 hcl hcm27 ?_
    rw [eV, cT, Nat.sub_zero, List.take_left' bR]
    refine .region (.e rfl (aaF U142 Z5 V5 rfl (zI 49) (.inl rfl) ⟨rfl, rfl⟩) (.mv rfl rfl ?_))
    refine .s rfl (alE (xs := [49]) (ys := List.replicate n 48) U142 U142 Z5 Tryz.typeInfo5 V5 (by decide) (tm rfl) (tm rfl) (by show _ * 1 ≤ _; simp only [bR, bE, bL]; omega) (by rw [bR]; exact hn)) ?_
    rintro _ _ ⟨b112, c112, rfl, hb112, hcl112, hcm112, hH⟩
    obtain rfl := hH.symm
    refine .as rfl rfl (.nil ?_)
    refine Next.go ?_
    refine Meets.mk (M := fun env H2 => ∃ (b c : Nat) (zs ts : List Nat), zs = (if upB (ds.drop n) = true then arL (ds.take n) else ds.take n).map UInt8.toNat ∧ zs.length ≤ c ∧ c ≤ maxLen ∧ (H.set b6 (.box 58 [.bool false, .str [], .int .i64 0])).objs b = none ∧ env = [(3, .iptr [.bool neg, .str ds, .int .i64 e]), (6, .ptr (some ⟨b6, 0, none⟩)), (8, .int .i64 (e + (ds.length : Int) - (n : Int))), (9, .mslice (some ⟨b, 0, none⟩) zs.length c)] ∧ H2 = (H.set b6 (.box 58 [.bool false, .str [], .int .i64 0])).set b (.box 5 (U .u8 (zs ++ ts)))) ⟨b112, c112, [49] ++ List.replicate n 48, _, by rw [aO (by assumption), inc_all htr, hkn], hcl112, hcm112, hb112, rfl, rfl⟩ sX (hRa _)
   try simp only [aL, bN] at hc109
   have hgr := ayP (ts := ts) hks (show 1 ≤ j by omega) hj
   have hbd := hkd.at (show j - 1 < (ds.take n).length by omega)
   rw [← amG, ← hgr] at hbd
   refine .region (.mv rfl rfl (.mv rfl rfl (.p rfl (yO (j - 1) U142 Z5 (tm rfl) (tm rfl) (by omega) (by omega)) ?_)))
   refine .e rfl (qJ G5 (tm rfl) (oS _ _ _) (by (have := (anI (ts := ts) hks (show j ≤ n by omega)).2; omega))) ?_
   refine .p rfl (arD (tm rfl) (zI 1) (by omega)) (.p rfl (yO (j - 1) U142 Z5 (tm rfl) (tm rfl) (by omega) (by omega)) ?_)
   refine .e0 (qH Z5 (tm rfl) (tm rfl) (oS _ _ _) (by (have := (anI (ts := ts) hks (show j ≤ n by omega)).2; omega))) ?_
   try first | rw [sS] | rw [sU (by assumption)]
   refine .nil ?_
   refine Next.go ?_
   refine Meets.mk (M := fun env H2 => ∃ (b c : Nat) (zs ts : List Nat), zs = (if upB (ds.drop n) = true then arL (ds.take n) else ds.take n).map UInt8.toNat ∧ zs.length ≤ c ∧ c ≤ maxLen ∧ (H.set b6 (.box 58 [.bool false, .str [], .int .i64 0])).objs b = none ∧ env = [(3, .iptr [.bool neg, .str ds, .int .i64 e]), (6, .ptr (some ⟨b6, 0, none⟩)), (8, .int .i64 (e + (ds.length : Int) - (n : Int))), (9, .mslice (some ⟨b, 0, none⟩) zs.length c)] ∧ H2 = (H.set b6 (.box 58 [.bool false, .str [], .int .i64 0])).set b (.box 5 (U .u8 (zs ++ ts)))) ⟨b27, c27, ((ds.take n).map UInt8.toNat).take (j - 1) ++ [(((ds.take n).map UInt8.toNat).take j ++ List.replicate (n - j) 48 ++ ts).getD (j - 1) 0 + 1] ++ List.replicate (n - j) 48, ts, by rw [aO (by assumption), inc_at hkd (by omega) (by omega) htr, hkn, hgr], by rw [aS, aS, aQ, bR, bE, bL]; omega, hcm27, hb27, rfl, by rw [bjF hks (by omega) hj]⟩ (zC rfl (zC rfl (zC rfl (zX rfl (by rw [aS, aS, aQ, bR, bE, bL]; congr 1; omega) zU)))) (hRa _)
  try simp only [aK] at hc91
  refine .skip ?_
  refine Next.go ?_
  refine Meets.mk (M := fun env H2 => ∃ (b c : Nat) (zs ts : List Nat), zs = (if upB (ds.drop n) = true then arL (ds.take n) else ds.take n).map UInt8.toNat ∧ zs.length ≤ c ∧ c ≤ maxLen ∧ (H.set b6 (.box 58 [.bool false, .str [], .int .i64 0])).objs b = none ∧ env = [(3, .iptr [.bool neg, .str ds, .int .i64 e]), (6, .ptr (some ⟨b6, 0, none⟩)), (8, .int .i64 (e + (ds.length : Int) - (n : Int))), (9, .mslice (some ⟨b, 0, none⟩) zs.length c)] ∧ H2 = (H.set b6 (.box 58 [.bool false, .str [], .int .i64 0])).set b (.box 5 (U .u8 (zs ++ ts)))) ⟨b27, c27, ((ds.take n).map UInt8.toNat), ts, by rw [aN (by (rw [hc91]; decide))], by omega, hcm27, hb27, rfl, rfl⟩ (zC rfl (zC rfl (zC rfl (zX rfl (by rw [hks]) zU)))) (hRa _)
 rintro _ _ ⟨b, c, zs, ts2, hzs, hzc, hcm, hbz, rfl, rfl⟩
 have hne6 := Heap.fresh_ne hbz
 refine .seq (.region (.p rfl (zD U58 rfl Z4 (tm rfl)) ?_))
 iterate 2 refine AX ?_
 refine .e rfl (auS (l := (if upB (ds.drop n) = true then arL (ds.take n) else ds.take n)) U142 U9 U5 (tm rfl) (oS _ _ _) (by rw [hzs, eY]) (by rw [dK, U_take, List.take_left, hzs, U_bytes]) (aZ hzc hcm)) ?_
 refine AX ?_
 refine .cl rfl Tryz.call104 (evs3 rfl rfl rfl) (aiW neg (if upB (ds.drop n) = true then arL (ds.take n) else ds.take n) _ (by split; exact aoP hkd; exact hkd) (by split <;> omega) (by constructor <;> omega) _) ?_
 iterate 6 refine AX ?_
 refine AWP.dropb (baC hbz _) ?_
 refine AWP.frz (t := 6) rfl hb6 ?_
 iterate 2 refine AX ?_
 refine ⟨?_, rfl⟩
 rfl

theorem beT (neg : Bool) (ds : List UInt8) (e : Int) (n : Nat) (hr : qE ds e = true) (hn : 0 < n) (hn2 : n ≤ 100000) (H : Heap) : ACall Tryz.prog 78 [dA neg ds e, .int .i64 (n : Int), .int .i64 1] H (fun y H' => y = dT (sigD neg ds e n) ∧ H' = H) := by
 have hk1 : (!qE ds e) = false := by rw [hr]; rfl
 have hrl := aaY hr
 have hdd := qQ hr
 refine ACall.of_body Tryz.func78 rfl Tryz.ntmps78 Tryz.results78 rfl ?_
 refine .seq (.region (.e rfl (zZ (tm rfl) (.inr ⟨_, rfl⟩)) ?_))
 refine .al zr58 (fun b6 hb6 => ?_)
 refine .p rfl (zA zE) (.nil ?_)
 refine Next.go ?_
 refine .seq (.region (.p rfl (zQ G58 Z58 (tm rfl) (lB rfl)) (.cl rfl Tryz.call147 (evs1 rfl) (alM neg ds e (by rw [zW]; omega) _) (.as rfl rfl (.nil ?_)))))
 refine Next.go ?_
 refine .seq (.seq (.region (.mv rfl rfl (.p rfl (aaB (tm rfl)) (.mv rfl rfl (.gp rfl rfl rfl (by assumption) (zJ (tm rfl)) (.gp rfl rfl rfl (by assumption) (yN (tm rfl) zE) (.p rfl (zN (tm rfl) (by assumption) (tm rfl)) ?_))))))))
 refine .mv rfl rfl (.gp rfl rfl rfl (by rfl) (zJ (tm rfl)) (.gp rfl rfl rfl (by rfl) (yC (tm rfl) zE) (.p rfl (zN (tm rfl) (by rfl) (tm rfl)) (.mv rfl rfl (.gp rfl rfl rfl (by rfl) (zJ (tm rfl)) (.gp rfl rfl rfl (by rfl) (yN (tm rfl) zE) (.p rfl (zN (tm rfl) (by rfl) (tm rfl)) (.nil ?_))))))))
 refine Next.go ?_
 refine AWP.cond_false (tm rfl) (by exact bG (by omega)) ?_
 refine .skip ?_
 refine Next.go ?_
 refine .seq (.seq (.region (.p rfl (zD U58 rfl Z9 (tm rfl)) (.p rfl (zH G9 (tm rfl)) (.p rfl (yQ U9 (tm rfl)) (.mv rfl rfl (.p rfl (abJ (tm rfl) (tm rfl)) (.nil ?_))))))))
 refine Next.go ?_
 refine AWP.cond (tm rfl) (fun hc30 => ?_) (fun hc30 => ?_)
 ·try simp only [aM] at hc30
  refine .seq (.region (.p rfl (zQ G58 Z58 (tm rfl) (lB rfl)) (.e0 (zG Z58 (tm rfl) (tm rfl) rfl rfl (.inr ⟨_, rfl⟩) (oS _ _ _) (lB rfl)) ?_)))
  try first | rw [sS] | rw [sU (by assumption)]
  refine .p rfl (zA zE) (.nil ?_)
  refine Next.go ?_
  refine AWP.frz (t := 6) rfl (hb6) ?_
  refine .ret ?_
  refine Next.rt ?_
  refine Ret.go (.cons (.cellI _ _ _ _ rfl G58 Z58 rfl) (.cons (.tmp _ _ rfl) .nil)) _ (hRa _) ?_
  refine ⟨?_, rfl⟩
  unfold sigD
  rw [aO (by omega)]; rfl
 try simp only [aL, cA] at hc30
 refine .skip ?_
 refine Next.go ?_
 refine .seq (.region (.p rfl (zQ G58 Z58 (tm rfl) (lB rfl)) (.mv rfl rfl (.mv rfl rfl (.cl rfl Tryz.call148 (evs3 rfl rfl rfl) (ayT neg ds e n hdd hn (by omega) (by omega) (by omega) _) ?_)))))
 iterate 6 refine AX ?_
 refine AWP.frz (t := 6) rfl (hb6) ?_
 iterate 2 refine AX ?_
 refine ⟨?_, rfl⟩
 unfold sigD
 rw [aN (by omega)]; rfl

end
end Go.Proofs.YtmmgbnolccpjoaaGreatDoor
