import Derived.Test.YtmmgbnolccpjoaaGreatDoorX1
import Derived.Test.YtmmgbnolccpjoaaGreatDoorR1
set_option maxHeartbeats 1000000
namespace Go.Proofs.YtmmgbnolccpjoaaGreatDoor
open Go.Proofs.Tryz
open Go Go.RowKit
variable {ds : List UInt8} {i j n : Nat} {ks ts : List Nat}
section
set_option maxRecDepth 100000

theorem zr58 : ZR 58 [.bool false, .str [], .int .i64 0] := ZRi zeroValue58
theorem pl58 : PL 58 [(0, 1), (1, 1), (2, 1)] := PLi U58

theorem btK {s : List UInt8} {p : Nat} (h : p < s.length) (ha : (s.getD p 0).toNat < 128) : Utf8.decode ⟨s.toArray⟩ p = ((s.getD p 0).toNat, 1) := by
 have hb : (⟨s.toArray⟩ : ByteArray).get! (p + 0) = s.getD p 0 := by
  rw [cI, aR, bA h]
  show s.toArray[p]! = _
  simp [h]
 unfold Utf8.decode
 simp only [hb]
 rw [aN ha]
theorem Digs.at {s : List UInt8} (hd : Digs s) {p : Nat} (h : p < s.length) : 48 ≤ (s.getD p 0).toNat ∧ (s.getD p 0).toNat ≤ 57 := by
 rw [aR, bA h]
 exact hd _ (eJ h)
def buN (b : UInt8) : Bool := decide ((48 : Int) ≤ ((b.toNat : Nat) : Int)) && decide (((b.toNat : Nat) : Int) ≤ 57)
theorem btJ (hi : i < ds.length) (h : avK (ds.take i) = true) : avK (ds.take (i + 1)) = buN (ds.getD i 0) := by
 unfold avK at *
 rw [← cS hi, List.all_append, h, aR, bA hi]
 simp only [List.all_cons, List.all_nil, Bool.and_true, Bool.true_and, buN, dZ]
 congr 1
 ·exact aY.2 aA
 exact aY.2 aA
theorem bbR (h : avK ds = true) : avK (ds.take i) = true := by
 unfold avK at *
 rw [fK] at h ⊢
 exact fun x hx => h x (fR hx)
theorem boR (h : 0 < ds.length) : Lib.hasSuffix ds [48] = decide (ds.getD (ds.length - 1) 0 = 48) := by
 unfold Lib.hasSuffix
 have e : ds = ds.take (ds.length - 1) ++ [ds.getD (ds.length - 1) 0] := by
  have hl : ds.length - 1 < ds.length := by omega
  rw [aR, bA hl, dZ, cS hl, aX aA]
 by_cases hq : ds.getD (ds.length - 1) 0 = 48
 ·rw [bG hq]
  rw [hq] at e
  rw [List.isSuffixOf_iff_suffix]
  exact ⟨_, e.symm⟩
 rw [bD hq]
 cases hs : [48].isSuffixOf ds with
 | false => rfl
 | true =>
  rw [List.isSuffixOf_iff_suffix] at hs
  obtain ⟨u, hu⟩ := hs
  exfalso; apply hq
  rw [← hu]; simp
theorem ayD {b : UInt8} (k : Nat) (hk : k < 256) : decide (((b.toNat : Nat) : Int) = (k : Int)) = decide (b = UInt8.ofNat k) := by
 apply aY.2
 constructor
 ·intro h; apply UInt8.toNat_inj.1; rw [fB]; omega
 intro h; rw [h, fB]; omega
def aqJ (ds : List UInt8) (e : Int) : Bool := decide ((ds.length : Int) ≤ 1100) && decide (-100000 ≤ e) && decide (e ≤ 100000) && decide (((ds.getD 0 0).toNat : Int) ≠ 48) && !decide (((ds.getD (ds.length - 1) 0).toNat : Int) = 48)
theorem aqI {e : Int} (h : ds ≠ []) : yZ ds e = (aqJ ds e && avK ds) := by
 unfold yZ aqJ
 rw [aL h]
 have e1 := ayD (b := ds.getD 0 0) 48 aC
 have e2 := ayD (b := ds.getD (ds.length - 1) 0) 48 aC
 have e3 : decide ((ds.length : Int) ≤ 1100) = decide (ds.length ≤ 1100) := aY.2 aA
 have e4 : decide (((ds.getD 0 0).toNat : Int) ≠ 48) = !decide (ds.getD 0 0 = UInt8.ofNat 48) := by rw [← e1]; exact decide_not
 rw [e3, e4, show decide (((ds.getD (ds.length - 1) 0).toNat : Int) = 48) = decide (ds.getD (ds.length - 1) 0 = UInt8.ofNat 48) from e2]
 show _ = (_ && _ && _ && !decide (ds.getD 0 0 = 48) && !decide (ds.getD (ds.length - 1) 0 = 48) && avK ds)
 generalize decide (ds.length ≤ 1100) = a1
 generalize decide (-100000 ≤ e) = a2
 generalize decide (e ≤ 100000) = a3
 generalize avK ds = a4
 generalize decide (ds.getD 0 0 = 48) = a5
 generalize decide (ds.getD (ds.length - 1) 0 = 48) = a6
 cases a1 <;> cases a2 <;> cases a3 <;> cases a4 <;> cases a5 <;> cases a6 <;> rfl

def bqK (s : List UInt8) (b : Nat) (H : Heap) : Nat → Env → Heap → Prop := fun k env H1 => ∃ p : Nat, p ≤ s.length ∧ env = [(6, .ptr (some ⟨b, 0, none⟩))] ∧ H1 = H.set b (.raw (.stringIter ⟨s.toArray⟩ p)) ∧ k = s.length - p

theorem arC (s : List UInt8) (hd : Digs s) (H : Heap) : ACall prog 162 [.str s] H (fun y H' => y = .bool true ∧ H' = H) := by
 refine ACall.of_body func162 rfl ntmps162 results162 rfl ?_
 iterate 9 refine AX ?_
 refine .s rfl (bjV U9 (tm rfl)) ?_
 rintro _ _ ⟨b6, rfl, hb6, hH⟩
 obtain rfl := hH.symm
 iterate 3 refine AX ?_
 refine AWP.loopW (bqK s b6 H) (s.length) ⟨0, Nat.zero_le _, rfl, rfl, rfl⟩ (zJ rfl yJ) (hRa _) ?_
 rintro _ _ _ ⟨p, hp, rfl, rfl, hk⟩
 iterate 2 refine AX ?_
 refine .s rfl (boT (tm rfl) (oS _ _ _)) ?_
 rintro _ Hn ⟨q7, rfl, hn7, hm7⟩
 iterate 4 refine AX ?_
 refine AWP.cx rfl (fun hc8 => ?_) (fun hc8 => ?_)
 ·obtain ⟨rfl, rfl⟩ := hn7 aA
  have hda := hd.at (show p < s.length by omega)
  rw [btK aA aA]
  iterate 9 refine AX ?_
  refine AWP.seqTo 15 (.bool (false)) [6] ?_ ?_
  ·-- region 4
   iterate 4 refine AX ?_
   refine zD (t := 12) rfl (fun hg12 => ?_) (fun hg12 => ?_)
   ·iterate 4 refine AX ?_
    exact ⟨rfl, zO rfl (by (exfalso; have := of_decide_eq_true hg12; omega)) (zJ rfl yJ), rfl⟩
   iterate 4 refine AX ?_
   exact ⟨rfl, zO rfl (by (congr 1; exact bD aA)) (zJ rfl yJ), rfl⟩
  refine AWP.sub [(15, _), (6, _)] sX ?_
  refine AWP.cond_false (tm rfl) aD ?_
  iterate 3 refine AX ?_
  refine Round.mk (J := bqK s b6 H) ⟨p + 1, by omega, rfl, by rw [sS], rfl⟩ (zJ rfl yJ) (hRa _) aA
 obtain ⟨rfl, rfl⟩ := hm7 aA
 iterate 11 refine AX ?_
 refine Ret.go (.cons (.tmp _ _ rfl) .nil) _ (Heap.le_set hb6 _) ?_
 exact ⟨rfl, rfl⟩

theorem afQ (neg : Bool) (ds : List UInt8) (e : Int) (hd : Digs ds) : Fn 165 [dA neg ds e] (.bool (yZ ds e)) := by
 intro H
 refine .of_body func165 rfl ntmps165 results165 rfl ?_
 iterate 9 refine AX ?_
 refine .p rfl (zA U58 rfl Z9 (tm rfl)) ?_
 iterate 4 refine AX ?_
 refine .cx rfl (fun hc5 => ?_) (fun hc5 => ?_)
 ·iterate 2 refine AX ?_
  refine .p rfl (zA U58 rfl Z3 (tm rfl)) ?_
  iterate 8 refine AX ?_
  refine ⟨?_, rfl⟩
  unfold yZ
  rw [aN hc5]; rfl
 have hlp : 0 < ds.length := bP.2 hc5
 have hsuf := (boR hlp).trans (ayD (b := ds.getD (ds.length - 1) 0) 48 aC).symm
 iterate 2 refine AX ?_
 refine .seqTo 2 (.bool (decide ((ds.length : Int) ≤ 1100) && decide (-100000 ≤ e) && decide (e ≤ 100000) && true && decide (((ds.getD 0 0).toNat : Int) ≠ 48) && !(Lib.hasSuffix ds [48]))) [] ?_ ?_
 ·-- region 3
  refine AX ?_
  refine .p rfl (zA U58 rfl Z9 (tm rfl)) ?_
  iterate 4 refine AX ?_
  refine zD (t := 13) rfl (fun hg13 => ?_) (fun hg13 => ?_)
  ·have hh13 := hg13; try simp only [aO] at hh13
   refine .gp rfl rfl rfl aB (zA U58 rfl Z3 (tm rfl)) ?_
   iterate 4 refine AX ?_
   refine zD (t := 18) rfl (fun hg18 => ?_) (fun hg18 => ?_)
   ·have hh18 := hg18; try simp only [aO] at hh18
    refine .gp rfl rfl rfl aB (zA U58 rfl Z3 (tm rfl)) ?_
    iterate 4 refine AX ?_
    refine zD (t := 23) rfl (fun hg23 => ?_) (fun hg23 => ?_)
    ·have hh23 := hg23; try simp only [aO] at hh23
     refine .gp rfl rfl rfl aB (zA U58 rfl Z9 (tm rfl)) ?_
     refine AX ?_
     refine .gs rfl rfl rfl aB (zB call162 (evs1 rfl) (arC _ hd _)) ?_
     rintro _ _ ⟨rfl, hH⟩
     obtain rfl := hH.symm
     iterate 2 refine AX ?_
     refine zD (t := 28) rfl (fun hg28 => ?_) (fun hg28 => ?_)
     ·have hh28 := hg28; try simp only [] at hh28
      refine .gp rfl rfl rfl aD (zA U58 rfl Z9 (tm rfl)) ?_
      iterate 5 refine AX ?_
      refine zD (t := 34) rfl (fun hg34 => ?_) (fun hg34 => ?_)
      ·have hh34 := hg34; try simp only [aO, ne_eq] at hh34
       refine .gp rfl rfl rfl aB (zA U58 rfl Z9 (tm rfl)) ?_
       refine AX ?_
       refine .gs rfl rfl rfl aB (zB call222 (.cons (tm rfl) (.cons (zR rfl) .nil)) (hasSuffixA _ _ _)) ?_
       rintro _ _ ⟨rfl, hH⟩
       obtain rfl := hH.symm
       iterate 4 refine AX ?_
       exact ⟨rfl, zO rfl aH yJ, rfl⟩
      have hh34 := hg34; try simp only [aM, ne_eq, dP] at hh34
      iterate 7 refine AX ?_
      exact ⟨rfl, zO rfl aH yJ, rfl⟩
     have hh28 := hg28; try simp only [aK] at hh28
     iterate 13 refine AX ?_
     exact ⟨rfl, zO rfl (by (simp [*]; done)) yJ, rfl⟩
    have hh23 := hg23; try simp only [aM, dK] at hh23
    iterate 18 refine AX ?_
    exact ⟨rfl, zO rfl (by (simp [*]; done)) yJ, rfl⟩
   have hh18 := hg18; try simp only [aM, dK] at hh18
   iterate 23 refine AX ?_
   exact ⟨rfl, zO rfl (by (simp [*]; done)) yJ, rfl⟩
  have hh13 := hg13; try simp only [aM, dK] at hh13
  iterate 28 refine AX ?_
  exact ⟨rfl, zO rfl (by (simp [*]; done)) yJ, rfl⟩
 refine .sub [(2, _)] (zJ rfl yJ) ?_
 iterate 2 refine AX ?_
 refine ⟨?_, rfl⟩
 simp only [yE]
 rw [aqI hc5, aeA.2 hd, hsuf, Bool.and_true, Bool.and_true]; rfl

def aiA (ds : List UInt8) (e : Int) : Int := if yZ ds e then (ds.length : Int) + e else 0
theorem bkE (ds : List UInt8) (e : Int) : (decide ((1100 : Int) < (ds.length : Int)) || decide (e < -100000) || decide ((100000 : Int) < e) || decide (((ds.getD 0 0).toNat : Int) = 48) || decide (((ds.getD (ds.length - 1) 0).toNat : Int) = 48)) = !aqJ ds e := by
 unfold aqJ
 rw [show decide ((1100 : Int) < (ds.length : Int)) = !decide ((ds.length : Int) ≤ 1100) by rw [← decide_not]; exact aY.2 aA,
   show decide (e < -100000) = !decide (-100000 ≤ e) by rw [← decide_not]; exact aY.2 aA, show decide ((100000 : Int) < e) = !decide (e ≤ 100000) by rw [← decide_not]; exact aY.2 aA,
   show decide (((ds.getD 0 0).toNat : Int) ≠ 48) = !decide (((ds.getD 0 0).toNat : Int) = 48) from decide_not]
 generalize decide ((ds.length : Int) ≤ 1100) = a1
 generalize decide (-100000 ≤ e) = a2
 generalize decide (e ≤ 100000) = a3
 generalize decide (((ds.getD 0 0).toNat : Int) = 48) = a5
 generalize decide (((ds.getD (ds.length - 1) 0).toNat : Int) = 48) = a6
 cases a1 <;> cases a2 <;> cases a3 <;> cases a5 <;> cases a6 <;> rfl

theorem alB (neg : Bool) (ds : List UInt8) (e : Int) (hd : Digs ds) : Fn 107 [dA neg ds e] (.int .i64 (aiA ds e)) := by
 intro H
 refine .of_body func107 rfl ntmps107 results107 rfl ?_
 iterate 10 refine AX ?_
 refine .cl rfl C165 (evs1 rfl) (afQ neg ds e hd _) ?_
 iterate 3 refine AX ?_
 refine .cx rfl (fun hc5 => ?_) (fun hc5 => ?_)
 ·iterate 8 refine AX ?_
  refine ⟨?_, rfl⟩
  unfold aiA
  rw [aL (by simp [hc5])]; rfl
 have hrl := qM (show yZ ds e = true from by simpa using hc5)
 iterate 4 refine AX ?_
 refine .p rfl (zA U58 rfl Z9 (tm rfl)) ?_
 iterate 2 refine AX ?_
 refine .p rfl (zA U58 rfl Z3 (tm rfl)) ?_
 iterate 7 refine AX ?_
 refine ⟨?_, rfl⟩
 unfold aiA
 rw [aN (by simpa using hc5)]; rfl

theorem anV (b : UInt8) : Fn 171 [.int .u8 ((b.toNat : Nat) : Int)] (.bool (buN b)) := by
 intro H
 refine .of_body func171 rfl ntmps171 results171 rfl ?_
 iterate 5 refine AX ?_
 refine .seqTo 2 (.bool (buN b)) [] ?_ ?_
 ·-- region 1
  iterate 4 refine AX ?_
  refine zD (t := 5) rfl (fun hg5 => ?_) (fun hg5 => ?_)
  ·have hh5 := hg5; try simp only [aO] at hh5
   iterate 5 refine AX ?_
   exact ⟨rfl, zO rfl (by (unfold buN; rw [show decide ((48 : Int) ≤ ((b.toNat : Nat) : Int)) = _ from hg5]; rfl)) yJ, rfl⟩
  have hh5 := hg5; try simp only [aM, dK] at hh5
  iterate 5 refine AX ?_
  exact ⟨rfl, zO rfl (by (unfold buN; rw [show decide ((48 : Int) ≤ ((b.toNat : Nat) : Int)) = _ from hg5]; rfl)) yJ, rfl⟩
 refine .sub [(2, _)] (zJ rfl yJ) ?_
 iterate 2 refine AX ?_
 exact ⟨rfl, rfl⟩

def bhM (neg : Bool) (ds : List UInt8) (e : Int) (H : Heap) : Nat → Env → Heap → Prop := fun k env H1 => ∃ i : Nat, i ≤ ds.length ∧ avK (ds.take i) = true ∧ env = [(1, .iptr [.bool neg, .str ds, .int .i64 e]), (3, .int .i64 (ds.length : Int)), (4, .int .i64 (i : Int))] ∧ H = H1 ∧ k = ds.length - i

theorem aiQ (neg : Bool) (ds : List UInt8) (e : Int) (hl : ds.length ≤ maxLen) (H : Heap) : ACall prog 147 [dA neg ds e] H (fun y H' => y = .bool (yZ ds e) ∧ H' = H) := by
 rw [zK] at hl
 refine ACall.of_body func147 rfl ntmps147 results147 rfl ?_
 iterate 8 refine AX ?_
 refine .p rfl (zA U58 rfl Z9 (tm rfl)) ?_
 iterate 12 refine AX ?_
 refine AWP.cx rfl (fun hc10 => ?_) (fun hc10 => ?_)
 ·iterate 2 refine AX ?_
  refine .p rfl (zA U58 rfl Z3 (tm rfl)) ?_
  iterate 8 refine AX ?_
  refine ⟨?_, rfl⟩
  have h0 : ds = [] := bV.1 aA
  unfold yZ
  rw [aN h0]; rfl
 have hlp : 0 < ds.length := by omega
 have hne := bP.1 hlp
 have hrq := aqI (e := e) hne
 have hrn := bkE ds e
 iterate 3 refine AX ?_
 refine AWP.seqTo 39 (.bool ((decide ((1100 : Int) < (ds.length : Int)) || decide (e < -100000) || decide ((100000 : Int) < e) || decide (((ds.getD 0 0).toNat : Int) = 48) || decide (((ds.getD (ds.length - 1) 0).toNat : Int) = 48)))) [1, 2, 3] ?_ ?_
 ·-- region 4
  iterate 4 refine AX ?_
  refine zD (t := 16) rfl (fun hg16 => ?_) (fun hg16 => ?_)
  ·have hh16 := hg16; try simp only [aO] at hh16
   iterate 24 refine AX ?_
   exact ⟨rfl, zO rfl (by (rw [show decide ((1100 : Int) < (ds.length : Int)) = _ from hg16]; rfl)) sX, rfl⟩
  have hh16 := hg16; try simp only [aM, cH] at hh16
  refine .gp rfl rfl rfl aB (zA U58 rfl Z3 (tm rfl)) ?_
  iterate 4 refine AX ?_
  refine zD (t := 21) rfl (fun hg21 => ?_) (fun hg21 => ?_)
  ·have hh21 := hg21; try simp only [aO] at hh21
   iterate 19 refine AX ?_
   exact ⟨rfl, zO rfl (by (rw [show decide ((1100 : Int) < (ds.length : Int)) = _ from hg16, show decide (e < -100000) = _ from hg21]; rfl)) sX, rfl⟩
  have hh21 := hg21; try simp only [aM, cH] at hh21
  refine .gp rfl rfl rfl aB (zA U58 rfl Z3 (tm rfl)) ?_
  iterate 4 refine AX ?_
  refine zD (t := 26) rfl (fun hg26 => ?_) (fun hg26 => ?_)
  ·have hh26 := hg26; try simp only [aO] at hh26
   iterate 14 refine AX ?_
   exact ⟨rfl, zO rfl (by (rw [show decide ((1100 : Int) < (ds.length : Int)) = _ from hg16, show decide (e < -100000) = _ from hg21, show decide ((100000 : Int) < e) = _ from hg26]; rfl)) sX, rfl⟩
  have hh26 := hg26; try simp only [aM, cH] at hh26
  refine .gp rfl rfl rfl aB (zA U58 rfl Z9 (tm rfl)) ?_
  iterate 5 refine AX ?_
  refine zD (t := 32) rfl (fun hg32 => ?_) (fun hg32 => ?_)
  ·have hh32 := hg32; try simp only [aO] at hh32
   iterate 8 refine AX ?_
   exact ⟨rfl, zO rfl (by (rw [show decide ((1100 : Int) < (ds.length : Int)) = _ from hg16, show decide (e < -100000) = _ from hg21, show decide ((100000 : Int) < e) = _ from hg26, show decide (((ds.getD 0 0).toNat : Int) = 48) = _ from hg32]; rfl)) sX, rfl⟩
  have hh32 := hg32; try simp only [aM] at hh32
  refine .gp rfl rfl rfl aB (zA U58 rfl Z9 (tm rfl)) ?_
  iterate 7 refine AX ?_
  exact ⟨rfl, zO rfl (by (rw [show decide ((1100 : Int) < (ds.length : Int)) = _ from hg16, show decide (e < -100000) = _ from hg21, show decide ((100000 : Int) < e) = _ from hg26, show decide (((ds.getD 0 0).toNat : Int) = 48) = _ from hg32, show ((ds.length : Int) - 1).toNat = ds.length - 1 by omega]; rfl)) sX, rfl⟩
 refine AWP.sub [(39, _), (1, _), (2, _), (3, _)] sX ?_
 refine AWP.cx rfl (fun hc39 => ?_) (fun hc39 => ?_)
 ·rw [hrn] at hc39
  have hrc : aqJ ds e = false := by simpa using hc39
  iterate 8 refine AX ?_
  refine ⟨?_, rfl⟩
  rw [hrq, hrc]; rfl
 rw [hrn] at hc39
 have hrc : aqJ ds e = true := by simpa using hc39
 iterate 9 refine AX ?_
 refine AWP.loopW (bhM neg ds e H) (ds.length) ⟨0, Nat.zero_le _, rfl, rfl, rfl, rfl⟩ sX (hRa _) ?_
 rintro _ _ _ ⟨i, hi, hdg, rfl, rfl, hk⟩
 iterate 8 refine AX ?_
 refine AWP.cx rfl (fun hc42 => ?_) (fun hc42 => ?_)
 ·have hdt := btJ (ds := ds) aA hdg
  iterate 6 refine AX ?_
  refine .p rfl (zA U58 rfl Z9 (tm rfl)) ?_
  iterate 3 refine AX ?_
  refine .cl rfl call171 (evs1 rfl) (anV _ _) ?_
  iterate 9 refine AX ?_
  refine AWP.cx rfl (fun hc51 => ?_) (fun hc51 => ?_)
  ·have hdf : buN (ds.getD i 0) = false := by simpa using hc51
   iterate 12 refine AX ?_
   refine ⟨?_, rfl⟩
   have hdb : avK ds = false := by
    cases h : avK ds with
    | false => rfl
    | true => have := bbR (i := i + 1) h; rw [hdt, hdf] at this; cases this
   rw [hrq, hdb, Bool.and_false]; rfl
  have hdf : buN (ds.getD i 0) = true := by simpa using hc51
  iterate 9 refine AX ?_
  refine Round.mk (J := bhM neg ds e H) ⟨i + 1, by omega, by rw [hdt, hdf], rfl, rfl, rfl⟩ sX (hRa _) aA
 iterate 12 refine AX ?_
 refine ⟨?_, rfl⟩
 rw [aX aA] at hdg
 rw [hrq, hrc, hdg]; rfl

theorem aiR (neg : Bool) (ds : List UInt8) (e : Int) (hl : ds.length ≤ maxLen) : Fn 79 [dA neg ds e] (.int .i64 (aiA ds e)) := by
 intro H
 refine .of_body func79 rfl ntmps79 results79 rfl ?_
 iterate 9 refine AX ?_
 refine .cl rfl call147 (evs1 rfl) (aiQ neg ds e hl _) ?_
 iterate 10 refine AX ?_
 refine .cx rfl (fun hc7 => ?_) (fun hc7 => ?_)
 ·iterate 8 refine AX ?_
  refine ⟨?_, rfl⟩
  unfold aiA
  rw [aL (by simp [hc7])]; rfl
 have hrl := qM (show yZ ds e = true from by simpa using hc7)
 iterate 4 refine AX ?_
 refine .p rfl (zA U58 rfl Z9 (tm rfl)) ?_
 iterate 2 refine AX ?_
 refine .p rfl (zA U58 rfl Z3 (tm rfl)) ?_
 iterate 7 refine AX ?_
 refine ⟨?_, rfl⟩
 unfold aiA
 rw [aN (by simpa using hc7)]; rfl

end
section
open Go Go.RowKit
set_option maxRecDepth 100000

theorem avI {l : List UInt8} {c : UInt8} (hi : i ≤ l.length) (h1 : ∀ q, q < i → l.getD q 0 = c) (h2 : i < l.length → l.getD i 0 ≠ c) : l.dropWhile (· == c) = l.drop i := by
 induction l generalizing i with
 | nil => simp
 | cons x l ih =>
  cases i with
  | zero =>
   have := h2 aF
   have hx : x ≠ c := by simpa using this
   rw [dV, aL (by simpa using hx), cT]
  | succ i =>
   have h0 : x = c := by simpa using h1 0 aA
   rw [dV, aN (by simpa using h0), eM]
   exact ih (by simpa using hi) (fun q hq => by simpa using h1 (q + 1) aA) (fun hq => by simpa using h2 (by simpa using hq))
theorem atO {l : List UInt8} {c : UInt8} {m : Nat} (hm : m ≤ l.length) (h1 : ∀ q, m ≤ q → q < l.length → l.getD q 0 = c) (h2 : 0 < m → l.getD (m - 1) 0 ≠ c) : Lib.trimRightB l c = l.take m := by
 unfold Lib.trimRightB
 have e : l.reverse.dropWhile (· == c) = l.reverse.drop (l.length - m) := by
  have hr : ∀ q, q < l.length → l.reverse.getD q 0 = l.getD (l.length - 1 - q) 0 := fun q hq => by
   rw [aR, aR, List.getElem?_reverse hq]
  refine avI aF (fun q hq => ?_) (fun hq => ?_)
  ·rw [hr q aA]; exact h1 _ aA aA
  rw [fW] at hq
  rw [hr _ hq, show l.length - 1 - (l.length - m) = m - 1 by omega]; exact h2 aA
 rw [e, List.drop_reverse, List.reverse_reverse, show l.length - (l.length - m) = m by omega]
theorem bmX (hi : i ≤ ds.length) (hij : i ≤ j) (hj : j ≤ ds.length) (h1 : ∀ q, q < i → ds.getD q 0 = 48) (h2 : i < ds.length → ds.getD i 0 ≠ 48) (h3 : ∀ q, j ≤ q → q < ds.length → ds.getD q 0 = 48) (h4 : i < j → ds.getD (j - 1) 0 ≠ 48) :
  adA ds = (ds.take j).drop i ∧ (adA ds).length = j - i ∧ alV ds = ds.length - j := by
 have e1 : baT ds = ds.drop i := avI hi h1 h2
 have hg : ∀ q, (ds.drop i).getD q 0 = ds.getD (i + q) 0 := fun q => by
  rw [aR, aR, eG]
 have e2 : adA ds = (ds.drop i).take (j - i) := by
  unfold adA
  rw [e1]
  refine atO aG (fun q hq hl => ?_) (fun hq => ?_)
  ·rw [hg]; simp at hl; exact h3 _ aA aA
  rw [hg, show i + (j - i - 1) = j - 1 by omega]; exact h4 aA
 have e3 : adA ds = (ds.take j).drop i := by rw [e2, List.drop_take]
 have e4 : (adA ds).length = j - i := by rw [e2, aS, aW]; omega
 refine ⟨e3, e4, ?_⟩
 unfold alV
 rw [e4, e1, aW]; omega

theorem anM (neg : Bool) (ds : List UInt8) (e : Int) (hd : Digs ds) (hl : ds.length ≤ 100000) (he : -1000000000000 ≤ e ∧ e ≤ 1000000000000) : Fn 98 [.bool neg, .str ds, .int .i64 e] (dT (mkN neg ds e)) := by
 intro H
 have hlo := asA ds 48
 have hml := aiH (ds.dropWhile (· == 48)) 48
 have hmo : e + (((ds.dropWhile (· == 48)).length : Int) - ((Lib.trimRightB (ds.dropWhile (· == 48)) 48).length : Int)) = e + (alV ds : Int) := by unfold alV adA baT; omega
 have hdc : Digs (Lib.trimRightB (ds.dropWhile (· == 48)) 48) := (hd.dropWhile _).trimR _
 refine .of_body func98 rfl ntmps98 results98 rfl ?_
 iterate 2 refine AX ?_
 refine .al zr58 (fun b6 hb6 => ?_)
 iterate 7 refine AX ?_
 refine .cl rfl call162 (evs1 rfl) (arC ds hd _) ?_
 iterate 3 refine AX ?_
 refine .cond_false (tm rfl) aD ?_
 iterate 5 refine AX ?_
 refine .cl rfl call163 (.cons (tm rfl) (.cons (zR rfl) .nil)) (trimLeftA 48 aC _ _) ?_
 iterate 7 refine AX ?_
 refine .cl rfl call164 (.cons (tm rfl) (.cons (zR rfl) .nil)) (trimRightA 48 aC _ _) (.p rfl (yB zr58 pl58 (.cons (tm rfl) (.inl rfl) (.cons (tm rfl) (.inl rfl) .nil)) rfl) ?_)
 refine .al zr58 (fun b9 hb9 => ?_)
 have hn6_9 := Heap.ne_of (oS _ _ _) hb9
 iterate 6 refine AX ?_
 refine .p rfl (zC U58 rfl Z9 (tm rfl)) ?_
 iterate 4 refine AX ?_
 refine .cx rfl (fun hc22 => ?_) (fun hc22 => ?_)
 ·iterate 7 refine AX ?_
  refine .dropb (fS hb9 _) ?_
  refine .frz (t := 6) rfl (hb6) ?_
  iterate 3 refine AX ?_
  refine ⟨?_, rfl⟩
  unfold mkN
  rw [aN (show adA ds = [] from hc22)]
  rw [show ds.dropWhile (· == 48) = baT ds from rfl, show Lib.trimRightB (baT ds) 48 = adA ds from rfl, show adA ds = [] from hc22]; rfl
 iterate 6 refine AX ?_
 refine .p rfl (zC U58 rfl Z3 (tm rfl)) ?_
 iterate 13 refine AX ?_
 refine .cond_true (tm rfl) (by exact bG (by simp only [baZ]; split <;> omega)) ?_
 refine AX ?_
 refine .p rfl (zC U58 rfl Z3 (tm rfl)) ?_
 iterate 3 refine AX ?_
 refine .p rfl (zC U58 rfl Z9 (tm rfl)) ?_
 iterate 4 refine AX ?_
 refine .p rfl (zC U58 rfl Z3 (tm rfl)) ?_
 iterate 5 refine AX ?_
 rw [hmo]
 iterate 2 refine AX ?_
 refine .cl rfl C165 (evs1 rfl) (afQ neg _ _ hdc _) ?_
 iterate 3 refine AX ?_
 refine .cx rfl (fun hc44 => ?_) (fun hc44 => ?_)
 ·iterate 2 refine AX ?_
  refine .p rfl (yB zr58 pl58 .nil rfl) ?_
  iterate 4 refine AX ?_
  refine .dropb (hb9) ?_
  refine .frz (t := 6) rfl (hb6) ?_
  iterate 3 refine AX ?_
  refine ⟨?_, rfl⟩
  have hr : yZ (adA ds) (e + alV ds) = false := by first | exact hc44 | exact (Bool.not_eq_false _).mp hc44 | (simp only [Bool.not_eq_true, Bool.not_eq_false] at hc44; exact hc44)
  rw [anI hd hc22] at hr
  unfold mkN
  rw [aL (show ¬ adA ds = [] from hc22), aL (by rintro ⟨q1, q2, q3⟩; simp [q1, q2, q3] at hr)]; rfl
 iterate 9 refine AX ?_
 refine .dropb (fS hb9 _) ?_
 refine .frz (t := 6) rfl (hb6) ?_
 iterate 2 refine AX ?_
 refine ⟨?_, rfl⟩
 have hr : yZ (adA ds) (e + alV ds) = true := by first | exact hc44 | exact (Bool.not_eq_false _).mp hc44 | (simp only [Bool.not_eq_true, Bool.not_eq_false] at hc44; exact hc44)
 rw [anI hd hc22] at hr
 simp only [bK, aO] at hr
 unfold mkN
 rw [aL (show ¬ adA ds = [] from hc22), aN ⟨hr.1.1, hr.1.2, hr.2⟩]; rfl

def cfJ (neg : Bool) (ds : List UInt8) (e : Int) (b : Nat) (H : Heap) : Nat → Env → Heap → Prop := fun k env H1 => ∃ i : Nat, i ≤ ds.length ∧ env = [(0, .bool neg), (1, .str ds), (2, .int .i64 e), (6, .ptr (some ⟨b, 0, none⟩)), (8, .int .i64 (i : Int))] ∧ H1 = H.set b (.box 58 [.bool false, .str [], .int .i64 0]) ∧ k = ds.length - i

def bzY (neg : Bool) (ds : List UInt8) (e : Int) (b : Nat) (H : Heap) : Nat → Env → Heap → Prop := fun k env H1 => ∃ i : Nat, i ≤ ds.length ∧ (∀ q, q < i → ds.getD q 0 = 48) ∧ env = [(0, .bool neg), (1, .str ds), (2, .int .i64 e), (6, .ptr (some ⟨b, 0, none⟩)), (10, .int .i64 (i : Int))] ∧ H1 = H.set b (.box 58 [.bool false, .str [], .int .i64 0]) ∧ k = ds.length - i

def bzX (neg : Bool) (ds : List UInt8) (e : Int) (b i : Nat) (H : Heap) : Nat → Env → Heap → Prop := fun k env H1 => ∃ j : Nat, i ≤ j ∧ j ≤ ds.length ∧ (∀ q, j ≤ q → q < ds.length → ds.getD q 0 = 48) ∧ env = [(0, .bool neg), (1, .str ds), (2, .int .i64 e), (6, .ptr (some ⟨b, 0, none⟩)), (10, .int .i64 (i : Int)), (11, .int .i64 (j : Int)), (12, .int .i64 ((ds.length - j : Nat) : Int))] ∧ H1 = H.set b (.box 58 [.bool false, .str [], .int .i64 0]) ∧ k = j

theorem ayE {b : UInt8} : ((b.toNat : Nat) : Int) = 48 ↔ b = 48 := by
 have := ayD (b := b) 48 aC
 exact aY.1 this

theorem ahN (neg : Bool) (ds : List UInt8) (e : Int) (hd : Digs ds) (hl : ds.length ≤ 100000) (he : -1000000000000 ≤ e ∧ e ≤ 1000000000000) (H : Heap) : ACall prog 104 [.bool neg, .str ds, .int .i64 e] H (fun y H' => y = dT (mkN neg ds e) ∧ H' = H) := by
 refine ACall.of_body func104 rfl ntmps104 results104 rfl ?_
 iterate 2 refine AX ?_
 refine .al zr58 (fun b6 hb6 => ?_)
 iterate 10 refine AX ?_
 refine AWP.loopW (cfJ neg ds e b6 H) (ds.length) ⟨0, Nat.zero_le _, rfl, rfl, rfl⟩ sX (hRa _) ?_
 rintro _ _ _ ⟨i, hi, rfl, rfl, hk⟩
 iterate 9 refine AX ?_
 refine AWP.cx rfl (fun hc16 => ?_) (fun hc16 => ?_)
 ·have hda := hd.at (show i < ds.length by omega)
  have hdc : buN (ds.getD i 0) = true := by unfold buN; rw [bG aA, bG aA]; rfl
  iterate 9 refine AX ?_
  refine .cl rfl call171 (evs1 rfl) (anV (ds.getD i 0) _) ?_
  iterate 9 refine AX ?_
  refine AWP.cond_false (tm rfl) (by rw [hdc]; rfl) ?_
  iterate 9 refine AX ?_
  refine Round.mk (J := cfJ neg ds e b6 H) ⟨i + 1, by omega, rfl, rfl, rfl⟩ sX (hRa _) aA
 iterate 12 refine AX ?_
 refine AWP.loopW (bzY neg ds e b6 H) (ds.length) ⟨0, Nat.zero_le _, fun q hq => by omega, rfl, rfl, rfl⟩ sX (hRa _) ?_
 rintro _ _ _ ⟨i, hi, hz, rfl, rfl, hk⟩
 refine AX ?_
 refine AWP.seqTo 35 (.bool (decide ((i : Int) < (ds.length : Int)) && decide (((ds.getD i 0).toNat : Int) = 48))) [0, 1, 2, 6, 10] ?_ ?_
 ·-- region 8
  iterate 6 refine AX ?_
  refine zD (t := 30) rfl (fun hg30 => ?_) (fun hg30 => ?_)
  ·have hh30 := hg30; try simp only [aO] at hh30
   iterate 6 refine AX ?_
   exact ⟨rfl, zO rfl (by (rw [show decide ((i : Int) < (ds.length : Int)) = _ from hg30]; rfl)) sX, rfl⟩
  have hh30 := hg30; try simp only [aM, cH] at hh30
  iterate 6 refine AX ?_
  exact ⟨rfl, zO rfl (by (rw [show decide ((i : Int) < (ds.length : Int)) = _ from hg30]; rfl)) sX, rfl⟩
 refine AWP.sub [(35, _), (0, _), (1, _), (2, _), (6, _), (10, _)] sX ?_
 refine AWP.cx rfl (fun hc35 => ?_) (fun hc35 => ?_)
 ·simp only [bK, aO] at hc35
  have h48 := ayE.1 hc35.2
  iterate 10 refine AX ?_
  refine Round.mk (J := bzY neg ds e b6 H) ⟨i + 1, by omega, fun q hq => by rcases cD q i with h | h; exact hz q h; rw [show q = i by omega]; exact h48, rfl, rfl, rfl⟩ sX (hRa _) aA
 simp only [bU, aM] at hc35
 have hne : i < ds.length → ds.getD i 0 ≠ 48 := fun h h2 => hc35.elim (fun q => q aA) (fun q => q (ayE.2 h2))
 iterate 19 refine AX ?_
 refine AWP.loopW (bzX neg ds e b6 i H) (ds.length) ⟨ds.length, hi, aT _, fun q hq h => by omega, rfl, rfl, rfl⟩ (zJ rfl (zJ rfl (zJ rfl (zJ rfl (zJ rfl (zJ rfl (zN rfl (by rw [Nat.sub_self]; rfl) yJ))))))) (hRa _) ?_
 rintro _ _ _ ⟨j, hij, hj, hz2, rfl, rfl, hk⟩
 refine AX ?_
 refine AWP.seqTo 49 (.bool (decide ((i : Int) < (j : Int)) && decide (((ds.getD (j - 1) 0).toNat : Int) = 48))) [0, 1, 2, 6, 10, 11, 12] ?_ ?_
 ·-- region 12
  iterate 5 refine AX ?_
  refine zD (t := 43) rfl (fun hg43 => ?_) (fun hg43 => ?_)
  ·have hh43 := hg43; try simp only [aO] at hh43
   iterate 7 refine AX ?_
   exact ⟨rfl, zO rfl (by (rw [show decide ((i : Int) < (j : Int)) = _ from hg43, show ((j : Int) - 1).toNat = j - 1 by omega]; rfl)) sX, rfl⟩
  have hh43 := hg43; try simp only [aM, cH] at hh43
  iterate 7 refine AX ?_
  exact ⟨rfl, zO rfl (by (rw [show decide ((i : Int) < (j : Int)) = _ from hg43]; rfl)) sX, rfl⟩
 refine AWP.sub [(49, _), (0, _), (1, _), (2, _), (6, _), (10, _), (11, _), (12, _)] sX ?_
 refine AWP.cx rfl (fun hc49 => ?_) (fun hc49 => ?_)
 ·simp only [bK, aO] at hc49
  have h48 := ayE.1 hc49.2
  iterate 17 refine AX ?_
  refine Round.mk (J := bzX neg ds e b6 i H) ⟨j - 1, by omega, by omega, fun q hq h => by rcases cD q j with h2 | h2; rw [show q = j - 1 by omega]; exact h48; exact hz2 q h2 h, rfl, rfl, rfl⟩ (zJ rfl (zJ rfl (zJ rfl (zJ rfl (zJ rfl (zN rfl (by congr 1; omega) (zN rfl (by congr 1; omega) yJ))))))) (hRa _) aA
 simp only [bU, aM] at hc49
 have hne2 : i < j → ds.getD (j - 1) 0 ≠ 48 := fun h h2 => hc49.elim (fun q => q aA) (fun q => q (ayE.2 h2))
 obtain ⟨hco, hcl, hmr⟩ := bmX hi hij hj hz hne hz2 hne2
 iterate 13 refine AX ?_
 refine AWP.cx rfl (fun hc56 => ?_) (fun hc56 => ?_)
 ·iterate 3 refine AX ?_
  refine .p rfl (yB zr58 pl58 (.cons (tm rfl) (.inl rfl) .nil) rfl) ?_
  iterate 4 refine AX ?_
  refine AWP.frz (t := 6) rfl (hb6) ?_
  iterate 3 refine AX ?_
  refine ⟨?_, rfl⟩
  unfold mkN
  rw [aN (bV.1 aA)]; rfl
 iterate 3 refine AX ?_
 refine AWP.seqTo 78 (.bool (decide ((1100 : Int) < (j : Int) - (i : Int)) || decide ((100000 : Int) < e) || decide (e < -100000 - ((ds.length - j : Nat) : Int)) || decide ((100000 : Int) < e + ((ds.length - j : Nat) : Int)))) [0, 1, 2, 6, 10, 11, 12] ?_ ?_
 ·-- region 17
  iterate 6 refine AX ?_
  refine zD (t := 63) rfl (fun hg63 => ?_) (fun hg63 => ?_)
  ·have hh63 := hg63; try simp only [aO] at hh63
   iterate 16 refine AX ?_
   exact ⟨rfl, zO rfl (by (rw [show decide ((1100 : Int) < (j : Int) - (i : Int)) = _ from hg63]; rfl)) sX, rfl⟩
  have hh63 := hg63; try simp only [aM, cH] at hh63
  iterate 4 refine AX ?_
  refine zD (t := 67) rfl (fun hg67 => ?_) (fun hg67 => ?_)
  ·have hh67 := hg67; try simp only [aO] at hh67
   iterate 12 refine AX ?_
   exact ⟨rfl, zO rfl (by (rw [show decide ((1100 : Int) < (j : Int) - (i : Int)) = _ from hg63, show decide ((100000 : Int) < e) = _ from hg67]; rfl)) sX, rfl⟩
  have hh67 := hg67; try simp only [aM, cH] at hh67
  iterate 6 refine AX ?_
  refine zD (t := 73) rfl (fun hg73 => ?_) (fun hg73 => ?_)
  ·have hh73 := hg73; try simp only [aO] at hh73
   iterate 6 refine AX ?_
   exact ⟨rfl, zO rfl (by (rw [show decide ((1100 : Int) < (j : Int) - (i : Int)) = _ from hg63, show decide ((100000 : Int) < e) = _ from hg67, show decide (e < -100000 - ((ds.length - j : Nat) : Int)) = _ from hg73]; rfl)) sX, rfl⟩
  have hh73 := hg73; try simp only [aM, cH] at hh73
  iterate 6 refine AX ?_
  exact ⟨rfl, zO rfl (by (rw [show decide ((1100 : Int) < (j : Int) - (i : Int)) = _ from hg63, show decide ((100000 : Int) < e) = _ from hg67, show decide (e < -100000 - ((ds.length - j : Nat) : Int)) = _ from hg73]; rfl)) sX, rfl⟩
 refine AWP.sub [(78, _), (0, _), (1, _), (2, _), (6, _), (10, _), (11, _), (12, _)] sX ?_
 refine AWP.cx rfl (fun hc78 => ?_) (fun hc78 => ?_)
 ·simp only [cN, aO] at hc78
  iterate 2 refine AX ?_
  refine .p rfl (yB zr58 pl58 .nil rfl) ?_
  iterate 4 refine AX ?_
  refine AWP.frz (t := 6) rfl (hb6) ?_
  iterate 3 refine AX ?_
  refine ⟨?_, rfl⟩
  unfold mkN
  rw [aL (fun h => by rw [h] at hcl; simp at hcl; omega), aL (show ¬ okD ds e by unfold okD; rw [hcl, hmr]; omega)]; rfl
 simp only [cE, aM] at hc78
 iterate 12 refine AX ?_
 refine .p rfl (yB zr58 pl58 (.cons (tm rfl) (.inl rfl) (.cons (tm rfl) (.inl rfl) (.cons (tm rfl) (.inl rfl) .nil))) rfl) ?_
 iterate 4 refine AX ?_
 refine AWP.frz (t := 6) rfl (hb6) ?_
 iterate 2 refine AX ?_
 refine ⟨?_, rfl⟩
 unfold mkN
 rw [aL (fun h => by rw [h] at hcl; simp at hcl; omega), aN (show okD ds e by unfold okD; rw [hcl, hmr]; omega), hco, hmr]; rfl

end
section
open Go Go.RowKit
set_option maxRecDepth 100000

def upB (rest : List UInt8) : Bool := decide (53 ≤ (rest.getD 0 0).toNat)
theorem cmp5 {rest : List UInt8} (h : rest ≠ []) : (0 : Int) ≤ Lib.compareBytes rest [53] ↔ 53 ≤ (rest.getD 0 0).toNat := by
 cases rest with
 | nil => exact absurd rfl h
 | cons x r =>
  unfold Lib.compareBytes
  simp only [cG]
  have hx : x < 53 ↔ x.toNat < 53 := UInt8.lt_iff_toNat_lt
  have hy : 53 < x ↔ 53 < x.toNat := UInt8.lt_iff_toNat_lt
  split
  ·rename_i h1; have := hx.1 h1; omega
  rename_i h1
  have h1' : ¬ x.toNat < 53 := fun q => h1 (hx.2 q)
  split
  ·omega
  cases r with
  | nil => unfold Lib.compareBytes; omega
  | cons y r => unfold Lib.compareBytes; omega
def auW (s : List UInt8) : List UInt8 :=
 if Lib.trimRightB s 57 = [] then 49 :: List.replicate s.length 48
 else (Lib.trimRightB s 57).take ((Lib.trimRightB s 57).length - 1) ++ [UInt8.ofNat (((Lib.trimRightB s 57).getD ((Lib.trimRightB s 57).length - 1) 0).toNat + 1)] ++ List.replicate (s.length - (Lib.trimRightB s 57).length) 48
def ceU (neg : Bool) (ds : List UInt8) (e : Int) (n : Nat) : (Bool × List UInt8 × Int) × Int := mkN neg (if upB (ds.drop n) = true then auW (ds.take n) else ds.take n) (e + ds.length - n)
def buM (neg : Bool) (ds : List UInt8) (e : Int) (n : Nat) : (Bool × List UInt8 × Int) × Int := if ds.length ≤ n then ((neg, ds, e), 0) else ceU neg ds e n
theorem Digs.app {a b : List UInt8} (h : Digs a) (k : Digs b) : Digs (a ++ b) := fun x hx => by
 rcases dO.1 hx with h1 | h1
 ·exact h x h1
 exact k x h1
theorem Digs.rep {x : UInt8} (h : isD x) : Digs (List.replicate n x) := fun y hy => by rw [List.eq_of_mem_replicate hy]; exact h
theorem Digs.one {x : UInt8} (h : isD x) : Digs [x] := fun y hy => by rw [List.mem_singleton.1 hy]; exact h
theorem caN {s : List UInt8} (hd : Digs s) (h : Lib.trimRightB s 57 ≠ []) : 48 ≤ ((Lib.trimRightB s 57).getD ((Lib.trimRightB s 57).length - 1) 0).toNat ∧ ((Lib.trimRightB s 57).getD ((Lib.trimRightB s 57).length - 1) 0).toNat < 57 := by
 have hp := bP.2 h
 have h1 := (hd.trimR 57).at (p := (Lib.trimRightB s 57).length - 1) aA
 have h2 := atP h
 refine ⟨h1.1, ?_⟩
 rcases cD ((Lib.trimRightB s 57).getD ((Lib.trimRightB s 57).length - 1) 0).toNat 57 with q | q
 ·exact q
 exact absurd (UInt8.toNat_inj.1 (show _ = (57 : UInt8).toNat by simp only [UInt8.reduceToNat]; omega)) h2
theorem arQ {s : List UInt8} (hd : Digs s) : Digs (auW s) := by
 unfold auW
 split
 ·exact Digs.app (a := [49]) (Digs.one (by unfold isD; decide)) (Digs.rep (by unfold isD; decide))
 rename_i h
 obtain ⟨h1, h2⟩ := caN hd h
 refine Digs.app (Digs.app ((hd.trimR 57).take _) (Digs.one ?_)) (Digs.rep (by unfold isD; decide))
 unfold isD
 rw [fB]
 omega
theorem apB (s : List UInt8) : (auW s).length ≤ s.length + 1 := by
 unfold auW
 have := aiH s 57
 split
 ·simp
 rename_i h
 have hp := bP.2 h
 simp only [aP, aS, bW, aU, bH]; omega

theorem boC (neg : Bool) (kept rest : List UInt8) (hr : rest ≠ []) : Fn 279 [.bool neg, .str kept, .str rest, .int .i64 1] (.bool (upB rest)) := by
 intro H
 refine .of_body func279 rfl ntmps279 results279 rfl ?_
 iterate 12 refine AX ?_
 refine .cond_false (tm rfl) (by exact bD hr) ?_
 iterate 5 refine AX ?_
 refine .cl rfl call113 (.cons (tm rfl) (.cons (zR rfl) .nil)) (compareA rest [53] _) ?_
 iterate 16 refine AX ?_
 refine .cond_false (tm rfl) aD ?_
 iterate 6 refine AX ?_
 refine .cond_true (tm rfl) aD ?_
 iterate 11 refine AX ?_
 refine ⟨?_, rfl⟩
 simp only [yE, upB]
 congr 1
 exact aY.2 (cmp5 hr)

theorem blN (s : List UInt8) (hd : Digs s) (hl : s.length ≤ 100000) : Fn 280 [.str s] (.str (auW s)) := by
 intro H
 have htl := aiH s 57
 have hml := zK
 refine .of_body func280 rfl ntmps280 results280 rfl ?_
 iterate 8 refine AX ?_
 refine .cl rfl call164 (.cons (tm rfl) (.cons (zR rfl) .nil)) (trimRightA 57 aC s _) ?_
 iterate 10 refine AX ?_
 refine .cl rfl C232 (.cons (zR rfl) (evs1 rfl)) (repeatZ 48 _ (s.length - (Lib.trimRightB s 57).length) aA aA _) ?_
 iterate 10 refine AX ?_
 refine .cx rfl (fun hc14 => ?_) (fun hc14 => ?_)
 ·iterate 3 refine AX ?_
  refine .p rfl (zS (zR rfl) (tm rfl) (by rw [zK, bW]; simp only [aU, bH]; omega)) ?_
  iterate 6 refine AX ?_
  refine ⟨?_, rfl⟩
  unfold auW
  rw [aN hc14, hc14]; rfl
 have htp := bP.2 hc14
 obtain ⟨h91, h92⟩ := caN hd hc14
 have htn : (((Lib.trimRightB s 57).length : Int) - 1).toNat = (Lib.trimRightB s 57).length - 1 := by omega
 rw [← htn] at h91 h92
 iterate 3 refine AX ?_
 refine .draw [(0, true), (1, true), (2, true), (3, true), (4, true), (5, true), (6, true), (7, true), (8, true), (9, true), (10, true), (11, true), (12, true), (13, true), (14, true), (15, true)] rfl aE ?_
 iterate 10 refine AX ?_
 refine .p rfl rfl (auN (tm rfl) (zI 1) aA) (.p rfl rfl (baC U5 U9 (tm rfl) aA) (.p rfl rfl (zS (tm rfl) (tm rfl) (by rw [zK]; simp only [aU, bH, aS]; omega)) ?_))
 refine AX ?_
 refine .p rfl rfl (zS (tm rfl) (tm rfl) (by rw [zK]; simp only [aP, bW, aU, bH, aS]; omega)) ?_
 iterate 5 refine AX ?_
 refine ⟨?_, rfl⟩
 unfold auW
 rw [aL hc14, ← htn]; rfl

theorem bmW (neg : Bool) (ds : List UInt8) (e : Int) (n : Nat) (hd : Digs ds) (hn : 0 < n) (hn2 : n < ds.length) (hl : ds.length ≤ 2000) (he : -200000 ≤ e ∧ e ≤ 200000) : Fn 231 [dA neg ds e, .int .i64 (n : Int), .int .i64 1] (dT (ceU neg ds e n)) := by
 intro H
 have hdn : ds.drop n ≠ [] := by intro h; have := congrArg List.length h; simp at this; omega
 have hil := apB (ds.take n)
 rw [aS] at hil
 have hml := zK
 refine .of_body func231 rfl ntmps231 results231 rfl ?_
 iterate 3 refine AX ?_
 refine .al zr58 (fun b6 hb6 => ?_)
 iterate 5 refine AX ?_
 refine .p rfl (zA U58 rfl Z3 (tm rfl)) ?_
 refine AX ?_
 refine .p rfl (zA U58 rfl Z9 (tm rfl)) ?_
 iterate 9 refine AX ?_
 refine .draw [(0, true), (1, true), (2, true), (3, true), (5, true), (6, true), (4, false), (7, true), (8, true), (9, true)] rfl aE ?_
 iterate 4 refine AX ?_
 refine .p rfl rfl (zA U58 rfl Z9 (tm rfl)) ?_
 refine AX ?_
 refine .s rfl rfl (zB C232 (.cons (zR rfl) (evs1 rfl)) (repeatZ 48 _ 0 (by simp only [baZ, bnU]; split <;> split <;> omega) aA _)) ?_
 rintro _ _ ⟨rfl, hH⟩
 obtain rfl := hH.symm
 refine .p rfl rfl (zS (tm rfl) (tm rfl) (by rw [zK, bW]; omega)) ?_
 iterate 11 refine AX ?_
 refine .cond_true (tm rfl) (by exact bG aA) ?_
 refine .draw [(0, true), (1, true), (2, true), (3, true), (4, true), (5, true), (6, true), (7, true), (8, true), (9, true)] rfl aE ?_
 refine .p rfl rfl (zA U58 rfl Z9 (tm rfl)) ?_
 iterate 3 refine AX ?_
 refine .p rfl rfl (zA U58 rfl Z9 (tm rfl)) ?_
 iterate 7 refine AX ?_
 refine .seqToL [(9, .str (if upB (ds.drop n) = true then auW (ds.take n) else ds.take n))] [3, 6, 7, 8] ?_ ?_
 ·iterate 2 refine AX ?_
  refine .p rfl (zA U58 rfl Z4 (tm rfl)) ?_
  iterate 4 refine AX ?_
  refine .cl rfl call279 (.cons (tm rfl) (evs3 rfl rfl rfl)) (boC neg _ _ hdn _) ?_
  iterate 2 refine AX ?_
  refine .cx rfl (fun hc42 => ?_) (fun hc42 => ?_)
  ·iterate 2 refine AX ?_
   refine .cl rfl call280 (evs1 rfl) (blN (ds.take n) (hd.take n) (by rw [aS]; omega) _) ?_
   iterate 2 refine AX ?_
   exact ⟨rfl, (zN rfl (by (rw [aN (show upB (ds.drop n) = true from hc42)]; done)) sX), rfl⟩
  refine AX ?_
  exact ⟨rfl, (zN rfl (by (rw [aL (show ¬ upB (ds.drop n) = true from by first | exact hc42 | (intro q; rw [show upB (ds.drop n) = false from hc42] at q; cases q))]; rfl)) sX), rfl⟩
 refine .sub [(9, _), (3, _), (6, _), (7, _), (8, _)] sX ?_
 iterate 2 refine AX ?_
 refine .p rfl (zA U58 rfl Z4 (tm rfl)) ?_
 iterate 3 refine AX ?_
 refine .cl rfl call98 (evs3 rfl rfl rfl) (anM neg (if upB (ds.drop n) = true then auW (ds.take n) else ds.take n) _ (by split; exact arQ (hd.take n); exact hd.take n) (by split; omega; rw [aS]; omega) (by constructor <;> omega) _) ?_
 iterate 6 refine AX ?_
 refine .frz (t := 6) rfl (hb6) ?_
 iterate 2 refine AX ?_
 refine ⟨?_, rfl⟩
 rfl

theorem buE (neg : Bool) (ds : List UInt8) (e : Int) (n : Nat) (hr : yZ ds e = true) (hn : 0 < n) (hn2 : n ≤ 100000) : Fn 174 [dA neg ds e, .int .i64 (n : Int), .int .i64 1] (dT (buM neg ds e n)) := by
 intro H
 have hk1 : (!yZ ds e) = false := by rw [hr]; rfl
 have hrl := qM hr
 have hdd := qC hr
 refine .of_body func174 rfl ntmps174 results174 rfl ?_
 iterate 3 refine AX ?_
 refine .al zr58 (fun b6 hb6 => ?_)
 iterate 8 refine AX ?_
 refine .cl rfl C165 (evs1 rfl) (afQ neg ds e hdd _) ?_
 iterate 16 refine AX ?_
 refine .cond_false (tm rfl) (by exact bD aA) ?_
 iterate 3 refine AX ?_
 refine .p rfl (zA U58 rfl Z9 (tm rfl)) ?_
 iterate 6 refine AX ?_
 refine .cx rfl (fun hc25 => ?_) (fun hc25 => ?_)
 ·iterate 7 refine AX ?_
  refine .frz (t := 6) rfl (hb6) ?_
  iterate 4 refine AX ?_
  refine ⟨?_, rfl⟩
  unfold buM
  rw [aJ]; rfl
 iterate 8 refine AX ?_
 refine .cl rfl call231 (evs3 rfl rfl rfl) (bmW neg ds e n hdd hn aA aA aA _) ?_
 iterate 6 refine AX ?_
 refine .frz (t := 6) rfl (hb6) ?_
 iterate 2 refine AX ?_
 refine ⟨?_, rfl⟩
 unfold buM
 rw [aI]; rfl

end
section
open Go Go.RowKit
set_option maxRecDepth 100000

theorem ceL (s : List UInt8) (k : Nat) : s.map bv ++ List.replicate k (.int .u8 0) = U .u8 (s.map UInt8.toNat ++ List.replicate k 0) := by
 rw [← ayJ]
 unfold U
 rw [List.map_map, List.map_replicate]; rfl
theorem ceQ (l : List UInt8) : U .u8 (l.map UInt8.toNat) = l.map bv := by
 unfold U; rw [List.map_map]; rfl
def bfE (rest : List UInt8) : Int := if rest = [53] then 0 else if (decide ((53 : Int) < (((rest.getD 0 0).toNat : Nat) : Int)) || (decide ((((rest.getD 0 0).toNat : Nat) : Int) = 53) && decide ((1 : Int) < (rest.length : Int)))) = true then 1 else -1
theorem cdN {rest : List UInt8} (h : rest ≠ []) : decide ((0 : Int) ≤ bfE rest) = upB rest := by
 unfold bfE upB
 apply aY.2
 cases rest with
 | nil => exact absurd rfl h
 | cons x r =>
  simp only [cG]
  split
  ·rename_i h1
   have : x = 53 := by simp at h1; exact h1.1
   rw [this]; decide
  rename_i h1
  have h2 : x.toNat = 53 → r ≠ [] := fun q q2 => h1 (by rw [q2, UInt8.toNat_inj.1 (show x.toNat = (53 : UInt8).toNat from q)])
  split
  ·rename_i h3
   simp only [cN, bK, aO] at h3
   omega
  rename_i h3
  simp only [cN, bK, aO, not_or, not_and] at h3
  constructor
  ·intro q; omega
  intro q
  have h4 : x.toNat = 53 := by omega
  have h5 := bP.2 (h2 h4)
  have h6 := h3.2 aA
  simp only [aU] at h6
  omega
theorem bdR (hk : ks.length = n) (h1 : 1 ≤ j) (hj : j ≤ n) : (ks.take j ++ List.replicate (n - j) 48 ++ ts).getD (j - 1) 0 = ks.getD (j - 1) 0 := by
 rw [aQ, aR, fP (by rw [aS]; omega), List.getElem?_take_of_lt aA, aR]
theorem bpJ (hk : ks.length = n) (h1 : 1 ≤ j) (hj : j ≤ n) (v : Nat) : (ks.take j ++ List.replicate (n - j) 48 ++ ts).set (j - 1) v = (ks.take (j - 1) ++ [v] ++ List.replicate (n - j) 48) ++ ts := by
 have e : ks.take j = ks.take (j - 1) ++ [ks[j - 1]'aA] := by
  rw [cS aA, show j - 1 + 1 = j by omega]
 rw [aQ, List.set_append_left _ _ (by rw [aS]; omega), e, List.set_append_right _ _ (by rw [aS]; omega), aS, show j - 1 - min (j - 1) ks.length = 0 by omega]
 simp
theorem bvP (hk : ks.length = n) (h1 : 1 ≤ j) (hj : j ≤ n) : (ks.take j ++ List.replicate (n - j) 48 ++ ts).set (j - 1) 48 = ks.take (j - 1) ++ List.replicate (n - (j - 1)) 48 ++ ts := by
 rw [bpJ hk h1 hj, show n - (j - 1) = (n - j) + 1 by omega, List.replicate_succ]
 simp
theorem aqD (hk : ks.length = n) (hj : j ≤ n) : (ks.take j ++ List.replicate (n - j) 48).length = n ∧ n ≤ (ks.take j ++ List.replicate (n - j) 48 ++ ts).length := by
 simp only [aP, aS, bW]; omega
theorem aoV {s : List UInt8} {q : Nat} : (s.map UInt8.toNat).getD q 0 = (s.getD q 0).toNat := by
 rw [aR, aR, eB]
 cases s[q]? <;> rfl
theorem cdL {s : List UInt8} (h : Lib.trimRightB s 57 = []) : (auW s).map UInt8.toNat = [49] ++ List.replicate s.length 48 := by
 unfold auW; rw [aN h]; simp
theorem cgG {s : List UInt8} (hd : Digs s) (h1 : 1 ≤ j) (hj : j ≤ s.length) (h : Lib.trimRightB s 57 = s.take j) : (auW s).map UInt8.toNat = (s.map UInt8.toNat).take (j - 1) ++ [(s.map UInt8.toNat).getD (j - 1) 0 + 1] ++ List.replicate (s.length - j) 48 := by
 have hl : (s.take j).length = j := by rw [aS]; omega
 unfold auW
 rw [h, aL (fun q => by rw [q] at hl; simp at hl; omega), hl, List.take_take, cY aA, aoV]
 have e : (s.take j).getD (j - 1) 0 = s.getD (j - 1) 0 := by
  rw [aR, List.getElem?_take_of_lt aA, aR]
 have hb := hd.at (show j - 1 < s.length by omega)
 rw [e]
 simp only [fG, List.map_take, eN, List.map_nil, List.map_replicate]
 congr 2
 ·congr 2
  rw [fB]; omega
theorem bfH {H : Heap} {b c : Nat} {x : AObj} (h : (H.set b x).objs c = none) (x' : AObj) : (H.set b x').objs c = none := fS h x'

def caE (neg : Bool) (ds : List UInt8) (e : Int) (n b6 b c : Nat) (ts : List Nat) (H : Heap) : Nat → Env → Heap → Prop := fun k env H1 => ∃ j : Nat, j ≤ n ∧ (∀ q, j ≤ q → q < n → (ds.take n).getD q 0 = 57) ∧ env = [(3, .iptr [.bool neg, .str ds, .int .i64 e]), (6, .ptr (some ⟨b6, 0, none⟩)), (8, .int .i64 (e + (ds.length : Int) - (n : Int))), (9, .mslice (some ⟨b, 0, none⟩) n c), (14, .int .i64 ((j : Int) - 1))] ∧ H1 = (H.set b6 (.box 58 [.bool false, .str [], .int .i64 0])).set b (.box 5 (U .u8 (((ds.take n).map UInt8.toNat).take j ++ List.replicate (n - j) 48 ++ ts))) ∧ k = j

theorem bdV (neg : Bool) (ds : List UInt8) (e : Int) (n : Nat) (hd : Digs ds) (hn : 0 < n) (hn2 : n < ds.length) (hl : ds.length ≤ 2000) (he : -200000 ≤ e ∧ e ≤ 200000) (H : Heap) : ACall prog 148 [dA neg ds e, .int .i64 (n : Int), .int .i64 1] H (fun y H' => y = dT (ceU neg ds e n) ∧ H' = H) := by
 have hdn : ds.drop n ≠ [] := by intro h; have := congrArg List.length h; simp at this; omega
 have hup := cdN hdn
 have hil := apB (ds.take n)
 have hkn : (ds.take n).length = n := by rw [aS]; omega
 have hks : ((ds.take n).map UInt8.toNat).length = n := by rw [eF, hkn]
 have hml := zK
 have hnp : decide ((0 : Int) < (n : Int)) = true := bG aA
 have hdp := bP.2 hdn
 have hkd := hd.take n
 refine ACall.of_body func148 rfl ntmps148 results148 rfl ?_
 iterate 3 refine AX ?_
 refine .al zr58 (fun b6 hb6 => ?_)
 iterate 5 refine AX ?_
 refine .p rfl (zA U58 rfl Z3 (tm rfl)) ?_
 refine AX ?_
 refine .p rfl (zA U58 rfl Z9 (tm rfl)) ?_
 iterate 10 refine AX ?_
 refine .p rfl (zA U58 rfl Z9 (tm rfl)) ?_
 iterate 3 refine AX ?_
 refine .s rfl (atT U9 U142 U5 (tm rfl) (by (rw [aS]; omega))) ?_
 rintro _ _ ⟨b27, c27, rfl, hcl27, hcm27, hb27, hH⟩
 obtain rfl := hH.symm
 iterate 4 refine AX ?_
 have hcl : n ≤ c27 := by rw [← hkn]; exact hcl27
 rw [ceL, show ((n : Int)).toNat = n from rfl, hkn]
 generalize hts : List.replicate (c27 - n) 0 = ts
 have hrow0 : ((ds.take n).map UInt8.toNat) ++ ts = ((ds.take n).map UInt8.toNat).take n ++ List.replicate (n - n) 48 ++ ts := by rw [aX (l := ((ds.take n).map UInt8.toNat)) (Nat.le_of_eq hks), Nat.sub_self, List.replicate_zero, bM]
 refine AX ?_
 refine .p rfl (zA U58 rfl Z9 (tm rfl)) ?_
 iterate 7 refine AX ?_
 rw [show ((n : Int)).toNat = n from rfl]
 iterate 4 refine AX ?_
 refine AWP.seqToL [(11, .int .i64 (bfE (ds.drop n)))] [1, 2, 3, 6, 7, 8, 9, 10] ?_ ?_
 ·iterate 6 refine AX ?_
  refine AWP.cond_true (tm rfl) (by show (!decide (ds.drop n = [])) = true; rw [bD hdn]; rfl) ?_
  iterate 5 refine AX ?_
  refine AWP.seqToL [(11, .int .i64 (if (decide ((53 : Int) < ((((ds.drop n).getD 0 0).toNat : Nat) : Int)) || (decide (((((ds.drop n).getD 0 0).toNat : Nat) : Int) = 53) && decide ((1 : Int) < ((ds.drop n).length : Int)))) = true then 1 else -1))] [1, 2, 3, 6, 7, 8, 9, 10] ?_ ?_
  ·refine AWP.seqTo 46 (.bool ((decide ((53 : Int) < ((((ds.drop n).getD 0 0).toNat : Nat) : Int)) || (decide (((((ds.drop n).getD 0 0).toNat : Nat) : Int) = 53) && decide ((1 : Int) < ((ds.drop n).length : Int)))))) [1, 2, 3, 6, 7, 8, 9, 10, 11] ?_ ?_
   ·-- region 7
    iterate 3 refine AX ?_
    iterate 2 refine AM ?_
    refine zD (t := 37) rfl (fun hg37 => ?_) (fun hg37 => ?_)
    ·have hh37 := hg37; try simp only [aO] at hh37
     iterate 10 refine AX ?_
     exact ⟨rfl, zO rfl (by (rw [show decide ((53 : Int) < ((((ds.drop n).getD 0 0).toNat : Nat) : Int)) = _ from hg37]; rfl)) sX, rfl⟩
    have hh37 := hg37; try simp only [aM, cH] at hh37
    iterate 2 refine AX ?_
    iterate 2 refine AM ?_
    refine zD (t := 41) rfl (fun hg41 => ?_) (fun hg41 => ?_)
    ·have hh41 := hg41; try simp only [aO] at hh41
     iterate 6 refine AX ?_
     exact ⟨rfl, zO rfl (by (rw [show decide ((53 : Int) < ((((ds.drop n).getD 0 0).toNat : Nat) : Int)) = _ from hg37, show decide (((((ds.drop n).getD 0 0).toNat : Nat) : Int) = 53) = _ from hg41]; rfl)) sX, rfl⟩
    have hh41 := hg41; try simp only [aM] at hh41
    iterate 6 refine AX ?_
    exact ⟨rfl, zO rfl (by (rw [show decide ((53 : Int) < ((((ds.drop n).getD 0 0).toNat : Nat) : Int)) = _ from hg37, show decide (((((ds.drop n).getD 0 0).toNat : Nat) : Int) = 53) = _ from hg41]; rfl)) sX, rfl⟩
   refine AWP.sub [(46, _), (1, _), (2, _), (3, _), (6, _), (7, _), (8, _), (9, _), (10, _), (11, _)] sX ?_
   refine AWP.cx rfl (fun hc46 => ?_) (fun hc46 => ?_)
   ·iterate 3 refine AX ?_
    exact ⟨rfl, (zN rfl (by (rw [aN hc46]; done)) sX), rfl⟩
   refine AX ?_
   exact ⟨rfl, (zN rfl (by (rw [aL (by rw [hc46]; decide)]; done)) sX), rfl⟩
  refine AWP.sub [(11, _), (1, _), (2, _), (3, _), (6, _), (7, _), (8, _), (9, _), (10, _)] sX ?_
  iterate 6 refine AX ?_
  refine AWP.cx rfl (fun hc48 => ?_) (fun hc48 => ?_)
  ·iterate 3 refine AX ?_
   exact ⟨rfl, (zN rfl (by unfold bfE; first | (rw [aN (show ds.drop n = [53] from hc48)]; done) | (rw [aL (show ¬ ds.drop n = [53] from hc48)]; done)) sX), rfl⟩
  refine AX ?_
  exact ⟨rfl, (zN rfl (by unfold bfE; first | (rw [aN (show ds.drop n = [53] from hc48)]; done) | (rw [aL (show ¬ ds.drop n = [53] from hc48)]; done)) sX), rfl⟩
 refine AWP.sub [(11, _), (1, _), (2, _), (3, _), (6, _), (7, _), (8, _), (9, _), (10, _)] sX ?_
 refine AWP.seqTo 12 (.bool (decide (((((ds.take n).map UInt8.toNat) ++ ts).getD (n - 1) 0 % 2 : Nat) = (1 : Int)))) [11, 1, 2, 3, 6, 7, 8, 9, 10] ?_ ?_
 ·-- region 11
  iterate 7 refine AX ?_
  refine .gp rfl rfl rfl aB (yI (n - 1) U142 Z5 (tm rfl) (tm rfl) aA aA) (.gs rfl rfl rfl aB (yY G5 (tm rfl) (oS _ _ _) (by (rw [aP, eF, aS]; omega))) ?_)
  rintro _ _ ⟨rfl, hH⟩
  obtain rfl := hH.symm
  refine .gp rfl rfl rfl aB (bqD (tm rfl) (zI 2) aA) ?_
  iterate 4 refine AM ?_
  exact ⟨rfl, zO rfl aD sX, rfl⟩
 refine AWP.sub [(12, _), (11, _), (1, _), (2, _), (3, _), (6, _), (7, _), (8, _), (9, _), (10, _)] sX ?_
 iterate 18 refine AX ?_
 refine AWP.cond_false (tm rfl) aD ?_
 iterate 6 refine AX ?_
 refine AWP.cond_true (tm rfl) aD ?_
 iterate 7 refine AX ?_
 refine AWP.meet (fun env H2 => ∃ (b c : Nat) (zs ts : List Nat), zs = (if upB (ds.drop n) = true then auW (ds.take n) else ds.take n).map UInt8.toNat ∧ zs.length ≤ c ∧ c ≤ maxLen ∧ (H.set b6 (.box 58 [.bool false, .str [], .int .i64 0])).objs b = none ∧ env = [(3, .iptr [.bool neg, .str ds, .int .i64 e]), (6, .ptr (some ⟨b6, 0, none⟩)), (8, .int .i64 (e + (ds.length : Int) - (n : Int))), (9, .mslice (some ⟨b, 0, none⟩) zs.length c)] ∧ H2 = (H.set b6 (.box 58 [.bool false, .str [], .int .i64 0])).set b (.box 5 (U .u8 (zs ++ ts)))) ?_ ?_
 ·refine AWP.seqTo 91 (.bool (upB (ds.drop n))) [1, 3, 6, 7, 8, 9] ?_ ?_
  ·-- region 24
   iterate 3 refine AX ?_
   refine zD (t := 88) rfl (fun hg88 => ?_) (fun hg88 => ?_)
   ·have hh88 := hg88; try simp only [aO] at hh88
    iterate 4 refine AX ?_
    exact ⟨rfl, zO rfl (by (rw [← hup, show decide ((0 : Int) ≤ bfE (ds.drop n)) = _ from hg88]; show (!decide (ds.drop n = [])) = true; rw [bD hdn]; rfl)) sX, rfl⟩
   have hh88 := hg88; try simp only [aM, dK] at hh88
   iterate 4 refine AX ?_
   exact ⟨rfl, zO rfl (by (rw [← hup, show decide ((0 : Int) ≤ bfE (ds.drop n)) = _ from hg88]; done)) sX, rfl⟩
  refine AWP.sub [(91, _), (1, _), (3, _), (6, _), (7, _), (8, _), (9, _)] sX ?_
  refine AWP.cx rfl (fun hc91 => ?_) (fun hc91 => ?_)
  ·iterate 9 refine AX ?_
   refine AWP.loopW (caE neg ds e n b6 b27 c27 ts H) (n) ⟨n, aT _, fun q h1 h2 => by omega, rfl, by rw [hrow0], rfl⟩ sX (hRa _) ?_
   rintro _ _ _ ⟨j, hj, h9, rfl, rfl, hk⟩
   refine AX ?_
   refine AWP.seqTo 102 (.bool (decide ((0 : Int) ≤ (j : Int) - 1) && decide ((((((ds.take n).map UInt8.toNat).take j ++ List.replicate (n - j) 48 ++ ts).getD (j - 1) 0 : Nat) : Int) = ((57 : Nat) : Int)))) [3, 6, 8, 9, 14] ?_ ?_
   ·-- region 26
    iterate 4 refine AX ?_
    refine zD (t := 96) rfl (fun hg96 => ?_) (fun hg96 => ?_)
    ·have hh96 := hg96; try simp only [aO] at hh96
     iterate 2 refine AX ?_
     refine .gp rfl rfl rfl aB (yI (j - 1) U142 Z5 (tm rfl) (tm rfl) aA aA) ?_
     refine .gs rfl rfl rfl aB (yY G5 (tm rfl) (oS _ _ _) (by (have := (aqD (ts := ts) hks (show j ≤ n by omega)).2; omega))) ?_
     rintro _ _ ⟨rfl, hH⟩
     obtain rfl := hH.symm
     iterate 3 refine AM ?_
     exact ⟨rfl, zO rfl (by (rw [show decide ((0 : Int) ≤ (j : Int) - 1) = _ from hg96]; rfl)) sX, rfl⟩
    have hh96 := hg96; try simp only [aM, dK] at hh96
    iterate 7 refine AX ?_
    exact ⟨rfl, zO rfl (by (rw [show decide ((0 : Int) ≤ (j : Int) - 1) = _ from hg96]; rfl)) sX, rfl⟩
   refine AWP.sub [(102, _), (3, _), (6, _), (8, _), (9, _), (14, _)] sX ?_
   refine AWP.cx rfl (fun hc102 => ?_) (fun hc102 => ?_)
   ·simp only [bK, aO] at hc102
    obtain ⟨hj1, hc102b⟩ := hc102
    have hgr := bdR (ts := ts) hks (show 1 ≤ j by omega) hj
    have h57 : (ds.take n).getD (j - 1) 0 = 57 := by
     have h := hc102b
     rw [hgr, aoV] at h
     exact UInt8.toNat_inj.1 (show _ = (57 : UInt8).toNat by simp only [UInt8.reduceToNat]; omega)
    iterate 7 refine AX ?_
    refine .p rfl (yI (j - 1) U142 Z5 (tm rfl) (tm rfl) aA aA) ?_
    refine .e0 (yW Z5 (tm rfl) (zI 48) (oS _ _ _) (by (have := (aqD (ts := ts) hks (show j ≤ n by omega)).2; omega))) ?_
    try first | rw [sS] | rw [sU aB]
    iterate 9 refine AX ?_
    rw [bvP hks aA hj]
    refine Round.mk (J := caE neg ds e n b6 b27 c27 ts H) ⟨j - 1, by omega, fun q h1 h2 => by rcases cD q j with h | h; rw [show q = j - 1 by omega]; exact h57; exact h9 q h h2, rfl, rfl, rfl⟩ (zJ rfl (zJ rfl (zJ rfl (zJ rfl (zN rfl (by congr 1; omega) yJ))))) (hRa _) aA
   simp only [bU, aM] at hc102
   have hne : 0 < j → (ds.take n).getD (j - 1) 0 ≠ 57 := fun hp h => hc102.elim (fun q => q aA) (fun q => q (by rw [bdR (ts := ts) hks hp hj, aoV, h]; rfl))
   have htr := atO (l := ds.take n) (c := 57) aA (fun q h1 h2 => h9 q h1 aA) hne
   iterate 11 refine AX ?_
   refine AWP.cx rfl (fun hc109 => ?_) (fun hc109 => ?_)
   ·have hj0 : j = 0 := by omega
    subst hj0
    refine AWP.frzU (t := 9) rfl hb27 (aqD (ts := ts) hks (Nat.zero_le _)).2 hcl hcm27 ?_
    rw [eP, cF, gB, List.take_left' bW]
    refine AX ?_
    refine .e rfl (qQ U142 Z5 V5 rfl (zI 49) (.inl rfl) ⟨rfl, rfl⟩) ?_
    refine AX ?_
    refine .s rfl (anR (xs := [49]) (ys := List.replicate n 48) U142 U142 Z5 typeInfo5 V5 aC (tm rfl) (tm rfl) (by show _ * 1 ≤ _; simp only [bW, aU, bH]; omega) (by rw [bW]; exact hn)) ?_
    rintro _ _ ⟨b112, c112, rfl, hb112, hcl112, hcm112, hH⟩
    obtain rfl := hH.symm
    iterate 3 refine AX ?_
    refine Meets.mk (M := fun env H2 => ∃ (b c : Nat) (zs ts : List Nat), zs = (if upB (ds.drop n) = true then auW (ds.take n) else ds.take n).map UInt8.toNat ∧ zs.length ≤ c ∧ c ≤ maxLen ∧ (H.set b6 (.box 58 [.bool false, .str [], .int .i64 0])).objs b = none ∧ env = [(3, .iptr [.bool neg, .str ds, .int .i64 e]), (6, .ptr (some ⟨b6, 0, none⟩)), (8, .int .i64 (e + (ds.length : Int) - (n : Int))), (9, .mslice (some ⟨b, 0, none⟩) zs.length c)] ∧ H2 = (H.set b6 (.box 58 [.bool false, .str [], .int .i64 0])).set b (.box 5 (U .u8 (zs ++ ts)))) ⟨b112, c112, [49] ++ List.replicate n 48, _, by rw [aN aB, cdL htr, hkn], hcl112, hcm112, hb112, rfl, rfl⟩ sX (hRa _)
   have hgr := bdR (ts := ts) hks (show 1 ≤ j by omega) hj
   have hbd := hkd.at (show j - 1 < (ds.take n).length by omega)
   rw [← aoV, ← hgr] at hbd
   iterate 3 refine AX ?_
   refine .p rfl (yI (j - 1) U142 Z5 (tm rfl) (tm rfl) aA aA) ?_
   refine .e rfl (yY G5 (tm rfl) (oS _ _ _) (by (have := (aqD (ts := ts) hks (show j ≤ n by omega)).2; omega))) ?_
   refine .p rfl (auN (tm rfl) (zI 1) aA) (.p rfl (yI (j - 1) U142 Z5 (tm rfl) (tm rfl) aA aA) ?_)
   refine .e0 (yW Z5 (tm rfl) (tm rfl) (oS _ _ _) (by (have := (aqD (ts := ts) hks (show j ≤ n by omega)).2; omega))) ?_
   try first | rw [sS] | rw [sU aB]
   iterate 2 refine AX ?_
   refine Meets.mk (M := fun env H2 => ∃ (b c : Nat) (zs ts : List Nat), zs = (if upB (ds.drop n) = true then auW (ds.take n) else ds.take n).map UInt8.toNat ∧ zs.length ≤ c ∧ c ≤ maxLen ∧ (H.set b6 (.box 58 [.bool false, .str [], .int .i64 0])).objs b = none ∧ env = [(3, .iptr [.bool neg, .str ds, .int .i64 e]), (6, .ptr (some ⟨b6, 0, none⟩)), (8, .int .i64 (e + (ds.length : Int) - (n : Int))), (9, .mslice (some ⟨b, 0, none⟩) zs.length c)] ∧ H2 = (H.set b6 (.box 58 [.bool false, .str [], .int .i64 0])).set b (.box 5 (U .u8 (zs ++ ts)))) ⟨b27, c27, ((ds.take n).map UInt8.toNat).take (j - 1) ++ [(((ds.take n).map UInt8.toNat).take j ++ List.replicate (n - j) 48 ++ ts).getD (j - 1) 0 + 1] ++ List.replicate (n - j) 48, ts, by rw [aN aB, cgG hkd aA aA htr, hkn, hgr], by rw [aP, aP, aS, bW, aU, bH]; omega, hcm27, hb27, rfl, by rw [bpJ hks aA hj]⟩ (zJ rfl (zJ rfl (zJ rfl (zN rfl (by rw [aP, aP, aS, bW, aU, bH]; congr 1; omega) yJ)))) (hRa _)
  iterate 2 refine AX ?_
  refine Meets.mk (M := fun env H2 => ∃ (b c : Nat) (zs ts : List Nat), zs = (if upB (ds.drop n) = true then auW (ds.take n) else ds.take n).map UInt8.toNat ∧ zs.length ≤ c ∧ c ≤ maxLen ∧ (H.set b6 (.box 58 [.bool false, .str [], .int .i64 0])).objs b = none ∧ env = [(3, .iptr [.bool neg, .str ds, .int .i64 e]), (6, .ptr (some ⟨b6, 0, none⟩)), (8, .int .i64 (e + (ds.length : Int) - (n : Int))), (9, .mslice (some ⟨b, 0, none⟩) zs.length c)] ∧ H2 = (H.set b6 (.box 58 [.bool false, .str [], .int .i64 0])).set b (.box 5 (U .u8 (zs ++ ts)))) ⟨b27, c27, ((ds.take n).map UInt8.toNat), ts, by rw [aL (by (rw [hc91]; decide))], by omega, hcm27, hb27, rfl, rfl⟩ (zJ rfl (zJ rfl (zJ rfl (zN rfl (by rw [hks]) yJ)))) (hRa _)
 rintro _ _ ⟨b, c, zs, ts2, hzs, hzc, hcm, hbz, rfl, rfl⟩
 have hne6 := Heap.fresh_ne hbz
 iterate 2 refine AX ?_
 refine .p rfl (zA U58 rfl Z4 (tm rfl)) ?_
 iterate 2 refine AX ?_
 refine .e rfl (ayX (l := (if upB (ds.drop n) = true then auW (ds.take n) else ds.take n)) U142 U9 U5 (tm rfl) (oS _ _ _) (by rw [hzs, eF]) (by rw [cT, caZ, fC, hzs, ceQ]) (bE hzc hcm)) ?_
 refine AX ?_
 refine .cl rfl C104 (evs3 rfl rfl rfl) (ahN neg (if upB (ds.drop n) = true then auW (ds.take n) else ds.take n) _ (by split; exact arQ hkd; exact hkd) (by split <;> omega) (by constructor <;> omega) _) ?_
 iterate 6 refine AX ?_
 refine AWP.dropb (bfH hbz _) ?_
 refine AWP.frz (t := 6) rfl hb6 ?_
 iterate 2 refine AX ?_
 refine ⟨?_, rfl⟩
 rfl

theorem bkN (neg : Bool) (ds : List UInt8) (e : Int) (n : Nat) (hr : yZ ds e = true) (hn : 0 < n) (hn2 : n ≤ 100000) : Fn 78 [dA neg ds e, .int .i64 (n : Int), .int .i64 1] (dT (buM neg ds e n)) := by
 intro H
 have hk1 : (!yZ ds e) = false := by rw [hr]; rfl
 have hrl := qM hr
 have hdd := qC hr
 refine .of_body func78 rfl ntmps78 results78 rfl ?_
 iterate 3 refine AX ?_
 refine .al zr58 (fun b6 hb6 => ?_)
 iterate 6 refine AX ?_
 refine .cl rfl call147 (evs1 rfl) (aiQ neg ds e (by rw [zK]; omega) _) ?_
 iterate 22 refine AX ?_
 refine .cond_false (tm rfl) (by exact bD aA) ?_
 iterate 5 refine AX ?_
 refine .p rfl (zA U58 rfl Z9 (tm rfl)) ?_
 iterate 6 refine AX ?_
 refine .cx rfl (fun hc30 => ?_) (fun hc30 => ?_)
 ·iterate 7 refine AX ?_
  refine .frz (t := 6) rfl (hb6) ?_
  iterate 3 refine AX ?_
  refine ⟨?_, rfl⟩
  unfold buM
  rw [aJ]; rfl
 iterate 7 refine AX ?_
 refine .cl rfl call148 (evs3 rfl rfl rfl) (bdV neg ds e n hdd hn aA aA aA _) ?_
 iterate 6 refine AX ?_
 refine .frz (t := 6) rfl (hb6) ?_
 iterate 2 refine AX ?_
 refine ⟨?_, rfl⟩
 unfold buM
 rw [aI]; rfl

end
end Go.Proofs.YtmmgbnolccpjoaaGreatDoor
