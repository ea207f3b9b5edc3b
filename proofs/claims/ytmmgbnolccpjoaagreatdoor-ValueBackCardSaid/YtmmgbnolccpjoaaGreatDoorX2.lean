import Derived.Test.YtmmgbnolccpjoaaGreatDoorD1
namespace Go.Proofs.YtmmgbnolccpjoaaGreatDoor
open Go Go.RowKit
variable {k m : Nat} {ds : List UInt8}
section
set_option maxRecDepth 100000

def afO : Nat → Nat → Nat × Nat
 | m, 0 => (m, 0)
 | m, k + 1 => if m % 2 = 0 ∧ 0 < m then afO (m / 2) k else (m, k + 1)
theorem alX : ∀ (k m : Nat), (afO m k).1 ≤ m ∧ (afO m k).2 ≤ k
 | 0, m => ⟨aX _, aX _⟩
 | k + 1, m => by
  unfold afO
  split
  ·have := alX k (m / 2)
   omega
  exact ⟨aX _, aX _⟩
theorem bbN (h : m % 2 = 0) (hm : 0 < m) (hk : 0 < k) : afO m k = afO (m / 2) (k - 1) := by
 obtain ⟨k, rfl⟩ : ∃ q, k = q + 1 := ⟨k - 1, by omega⟩
 rw [afO, aO ⟨h, hm⟩]; rfl
theorem auR (h : k = 0 ∨ m = 0 ∨ m % 2 ≠ 0) : afO m k = (m, k) := by
 cases k with
 | zero => rfl
 | succ k => rw [afO, aN (by omega)]
def ofN (neg : Bool) (m : Nat) (e : Int) : Bool × List UInt8 × Int :=
 if 0 ≤ e then (mkN neg (dec (m * 2 ^ e.toNat)) 0).1 else (mkN neg (dec ((afO m (-e).toNat).1 * 5 ^ (afO m (-e).toNat).2)) (-((afO m (-e).toNat).2 : Int))).1
def ofR (m : Nat) (e : Int) : Nat := if 0 ≤ e then m * 2 ^ e.toNat else (afO m (-e).toNat).1 * 5 ^ (afO m (-e).toNat).2
def ofX (m : Nat) (e : Int) : Int := if 0 ≤ e then 0 else -((afO m (-e).toNat).2 : Int)
theorem bkK (neg : Bool) (m : Nat) (e : Int) : ofN neg m e = (mkN neg (dec (ofR m e)) (ofX m e)).1 := by
 unfold ofN ofR ofX
 split <;> rfl
def dD (d : Bool × List UInt8 × Int) : AV := dA d.1 d.2.1 d.2.2
theorem auU (hk : k ≤ 3300) : 18014398509481984 * 2 ^ k < BIG := by
 obtain ⟨K, hK, hB⟩ : ∃ K, K = 8192 ∧ BIG = 2 ^ K := ⟨32 * 256, rfl, apO _ rfl⟩
 rw [hB, show (18014398509481984 : Nat) = 2 ^ 54 by decide, ← bB]
 exact dI (by decide) (by omega)
theorem abZ (hm : m < 18014398509481984) (hk : k ≤ 1075) : m * 5 ^ k < BIG ∧ 5 ^ k < BIG := by
 have h1 : 5 ^ k ≤ 2 ^ (3 * k) := by rw [dO]; exact Nat.pow_le_pow_left (by decide) k
 have h0 : 5 ^ k ≤ 18014398509481984 * 5 ^ k := Nat.le_mul_of_pos_left _ (by decide)
 have h2 : 18014398509481984 * 5 ^ k < BIG := aR (bT _ h1) (auU (by omega))
 exact ⟨aR (aV _ (by omega)) h2, aR h0 h2⟩
theorem ajI (hm : m < 18014398509481984) (hk : k ≤ 972) : m * 2 ^ k < BIG := by
 exact aR (aV _ (by omega)) (auU (by omega))
theorem ahG (hm : m < 18014398509481984) : m < BIG := cX hm (by unfold BIG; decide +kernel)
theorem bkY (h : 0 < m) : (zK m).getD 0 0 &&& 1 = m % 2 := by
 rw [qV h, dQ, show (1 : Nat) = 2 ^ 1 - 1 by decide, cO]
 omega
theorem apX : (zK m).length = 0 ↔ m = 0 := by
 constructor
 ·intro h
  rcases aY m with h0 | h0
  ·exact h0
  have := aiA h0; omega
 rintro rfl; rfl
theorem bkJ {e : Int} (hm : m < 18014398509481984) (he : -1075 ≤ e ∧ e ≤ 972) : ofR m e < BIG := by
 unfold ofR
 split
 ·exact ajI hm (by omega)
 have h := alX (-e).toNat m
 exact (abZ (by omega) (by omega)).1
theorem avX {e : Int} (he : -1075 ≤ e ∧ e ≤ 972) : -1075 ≤ ofX m e ∧ ofX m e ≤ 0 := by
 unfold ofX
 have h := alX (-e).toNat m
 split <;> omega
theorem shlZ (a s : Nat) (q : Int) (hq : q = (s : Int)) (h : a * 2 ^ s < BIG) (hs : s < 1000000000) (H : Heap) : ACall Tryz.prog 272 [aaT a, .int .i64 q] H (fun y H' => y = .tuple [aaT (a * 2 ^ s), .int .i64 0] ∧ H' = H) := by
 subst hq; exact shlB a s h hs H
theorem powZ (b n : Nat) (q : Int) (hq : q = (n : Int)) (hb : 2 ≤ b) (hb2 : b ≤ 1000000) (hn2 : n < 1000000000) (h : b ^ n < BIG) (H : Heap) : ACall Tryz.prog 268 [.int .i64 (b : Int), .int .i64 q] H (fun y H' => y = .tuple [aaT (b ^ n), .int .i64 0] ∧ H' = H) := by
 subst hq; exact apK b n hb hb2 hn2 h H
theorem mk_zero (neg : Bool) (e : Int) : (mkN neg (dec 0) e).1 = (neg, [], 0) := by
 unfold mkN
 rw [aO (show acH (dec 0) = [] by rw [alT (by decide)]; rfl)]

def xof_J (neg : Bool) (m0 k0 b : Nat) (H : Heap) : Nat → Env → Heap → Prop := fun k env H1 => ∃ m k1 : Nat, m < 18014398509481984 ∧ k1 ≤ 1075 ∧ afO m k1 = afO m0 k0 ∧ env = [(0, .bool neg), (1, aaT m), (2, .int .i64 (-(k1 : Int))), (6, .ptr (some ⟨b, 0, none⟩))] ∧ H1 = H.set b (.box 58 [.bool false, .str [], .int .i64 0]) ∧ k = k1

theorem bhW (neg : Bool) (m : Nat) (e : Int) (hm : m < 18014398509481984) (he : -1075 ≤ e ∧ e ≤ 972) (H : Heap) : ACall Tryz.prog 229 [.bool neg, aaT m, .int .i64 e] H (fun y H' => y = dD (ofN neg m e) ∧ H' = H) := by
 have hmB := ahG hm
 refine ACall.of_body Tryz.func229 rfl Tryz.ntmps229 Tryz.results229 rfl ?_
 refine .sr ?_
 refine .al zr58 (fun b6 hb6 => ?_)
 refine .nr (.p rfl (zA zE) (.ng ?_))
 refine AWP.seqToL [(1, aaT (ofR m e)), (7, .int .i64 (ofX m e))] [0, 6] ?_ ?_
 ·refine .sr (.mv rfl rfl (.p rfl (yS (tm rfl) zE) (.ng ?_)))
  refine AWP.cond (tm rfl) (fun hc13 => ?_) (fun hc13 => ?_)
  ·try simp only [aM] at hc13
   refine .region (.mv rfl rfl (.mv rfl rfl (.cl rfl C272 (evs2 rfl rfl) (shlZ m e.toNat e (by omega) (ajI hm (by omega)) (by omega) _) (.mv rfl rfl (.p rfl (zB (tm rfl) rfl) (.p rfl (zB (tm rfl) rfl) (.as rfl rfl (.nil ?_))))))))
   exact ⟨rfl, (zX rfl (by (unfold ofR; rw [aO (by omega)]; done)) (zX rfl (by (unfold ofX; rw [aO (by omega)]; done)) (zC rfl (zC rfl zU)))), rfl⟩
  try simp only [aL, cA] at hc13
  have hen : e = -(((-e).toNat : Nat) : Int) := by omega
  refine .seq (.block ?_)
  refine AWP.loopW (xof_J neg m (-e).toNat b6 H) ((-e).toNat) ⟨m, (-e).toNat, hm, by omega, rfl, rfl, rfl, rfl⟩ (zC rfl (zC rfl (zX rfl (by rw [← hen]) (zC rfl zU)))) (hRa _) ?_
  rintro _ _ _ ⟨m1, k1, hm1, hk1, hst, rfl, rfl, hk⟩
  have hg0 := Limbs.getD (zP m1) 0
  refine .seq ?_
  refine AWP.seqTo 33 (.bool (decide (-(k1 : Int) < 0) && decide ((0 : Int) < ((zK m1).length : Int)) && decide (((((zK m1).getD 0 0 &&& 1 : Nat)) : Int) = ((0 : Nat) : Int)))) [0, 1, 2, 6] ?_ ?_
  ·-- region 4
   refine .region (.mv rfl rfl (.p rfl (yN (tm rfl) zE) (.mv rfl rfl ?_)))
   refine zL (t := 22) rfl (fun hg22 => ?_) (fun hg22 => ?_)
   ·have hh22 := hg22; try simp only [aM] at hh22
    refine .gp rfl rfl rfl (by assumption) (zJ (tm rfl)) (.gp rfl rfl rfl (by assumption) (abD U239 (tm rfl)) (.gp rfl rfl rfl (by assumption) (yC (tm rfl) zE) (.p rfl (zO (tm rfl) (by assumption) (tm rfl)) (.mv rfl rfl ?_))))
    refine zL (t := 27) rfl (fun hg27 => ?_) (fun hg27 => ?_)
    ·have hh27 := hg27; try simp only [aM] at hh27
     refine .gp rfl rfl rfl (by assumption) (zJ (tm rfl)) (.gp rfl rfl rfl (by assumption) (yA (0) U239 Z166 (tm rfl) zE (by omega) (by omega)) (.gp rfl rfl rfl (by assumption) (zH G166 (tm rfl)) (.gp rfl rfl rfl (by assumption) (arC (tm rfl) (zI 1) (by assumption) (by omega)) (.gp rfl rfl rfl (by assumption) (zR (tm rfl) (zI 0)) (.p rfl (zO (tm rfl) (by assumption) (tm rfl)) (.nil ?_))))))
     exact ⟨rfl, zY rfl (by (rw [show decide (-(k1 : Int) < 0) = _ from hg22, show decide ((0 : Int) < ((zK m1).length : Int)) = _ from hg27]; rfl)) (zC rfl (zC rfl (zC rfl (zC rfl zU)))), rfl⟩
    have hh27 := hg27; try simp only [aL, bN] at hh27
    refine .gn rfl rfl rfl (by assumption) (.gn rfl rfl rfl (by assumption) (.gn rfl rfl rfl (by assumption) (.gn rfl rfl rfl (by assumption) (.gn rfl rfl rfl (by assumption) (.p rfl (zN (tm rfl) (by assumption) zM) (.nil ?_))))))
    exact ⟨rfl, zY rfl (by (rw [show decide (-(k1 : Int) < 0) = _ from hg22, show decide ((0 : Int) < ((zK m1).length : Int)) = _ from hg27]; rfl)) (zC rfl (zC rfl (zC rfl (zC rfl zU)))), rfl⟩
   have hh22 := hg22; try simp only [aL, bN] at hh22
   refine .gn rfl rfl rfl (by assumption) (.gn rfl rfl rfl (by assumption) (.gn rfl rfl rfl (by assumption) (.p rfl (zN (tm rfl) (by assumption) zM) (.mv rfl rfl (.gn rfl rfl rfl (by rfl) (.gn rfl rfl rfl (by rfl) (.gn rfl rfl rfl (by rfl) (.gn rfl rfl rfl (by rfl) ?_))))))))
   refine .gn rfl rfl rfl (by rfl) (.p rfl (zN (tm rfl) (by rfl) zM) (.nil ?_))
   exact ⟨rfl, zY rfl (by (rw [show decide (-(k1 : Int) < 0) = _ from hg22]; rfl)) (zC rfl (zC rfl (zC rfl (zC rfl zU)))), rfl⟩
  refine AWP.sub [(33, _), (0, _), (1, _), (2, _), (6, _)] (zC rfl (zC rfl (zC rfl (zC rfl (zC rfl zU))))) ?_
  refine AWP.cond (tm rfl) (fun hc33 => ?_) (fun hc33 => ?_)
  ·try simp only [aK] at hc33
   simp only [bK, aM] at hc33
   obtain ⟨⟨hk0, hl0⟩, hb0⟩ := hc33
   have hm0 : 0 < m1 := by rcases aY m1 with h | h; rw [h] at hl0; exact absurd hl0 (by decide); exact h
   rw [bkY hm0] at hb0
   have hst2 := bbN (m := m1) (k := k1) (by omega) hm0 (by omega)
   refine .skip ?_
   refine Next.go ?_
   refine .block (.sr (.mv rfl rfl (.cl rfl Tryz.call276 (.cons (tm rfl) (.cons zE .nil)) (shrB m1 1 (ahG hm1) (by decide) _) (.mv rfl rfl (.p rfl (zB (tm rfl) rfl) (.p rfl (zB (tm rfl) rfl) (.p rfl (zB (tm rfl) rfl) (.as rfl rfl ?_))))))))
   refine .ng (.region (.mv rfl rfl (.p rfl (yT (tm rfl) zE (by omega)) (.as rfl rfl (.nil ?_)))))
   refine Block.go ?_
   refine Next.go ?_
   refine Round.mk (J := xof_J neg m (-e).toNat b6 H) ⟨m1 / 2, k1 - 1, by omega, by omega, by rw [← hst2]; exact hst, rfl, rfl, rfl⟩ (zC rfl (zX rfl (by rw [Nat.pow_one]) (zX rfl (by congr 1; omega) (zC rfl zU)))) (hRa _) (by omega)
  try simp only [aK] at hc33
  simp only [cB, aL] at hc33
  have hse : afO m1 k1 = (m1, k1) := auR (by
    rcases aY m1 with h | h
    ·exact .inr (.inl h)
    have hnl := aiA h
    rw [bkY h] at hc33
    omega)
  rw [hst] at hse
  refine .exit ?_
  refine Next.ex ?_
  refine Next.ex ?_
  refine Block.hit ?_
  refine Next.go ?_
  refine .sr (.mv rfl rfl (.p rfl (abR (tm rfl) (by omega)) (.cl rfl C268 (.cons zE (evs1 rfl)) (powZ 5 k1 _ (by omega) (by decide) (by decide) (by omega) (abZ hm1 hk1).2 _) (.mv rfl rfl (.p rfl (zB (tm rfl) rfl) (.p rfl (zB (tm rfl) rfl) (.as rfl rfl (.as rfl rfl ?_))))))))
  refine .nr (.mv rfl rfl (.mv rfl rfl (.cl rfl C269 (evs2 rfl rfl) (mulB m1 (5 ^ k1) (ahG hm1) (abZ hm1 hk1).2 (abZ hm1 hk1).1 _) (.mv rfl rfl (.p rfl (zB (tm rfl) rfl) (.p rfl (zB (tm rfl) rfl) (.as rfl rfl (.ng ?_))))))))
  refine .region (.mv rfl rfl (.as rfl rfl (.nil ?_)))
  exact ⟨rfl, (zX rfl (by (unfold ofR; rw [aN (by omega), hse]; done)) (zX rfl (by (unfold ofX; rw [aN (by omega), hse]; done)) (zC rfl (zC rfl zU)))), rfl⟩
 refine AWP.sub [(1, _), (7, _), (0, _), (6, _)] (zC rfl (zC rfl (zC rfl (zC rfl zU)))) ?_
 have hRB := bkJ hm he
 have hX := avX (m := m) he
 refine .sr (.mv rfl rfl (.mv rfl rfl (.cl rfl Tryz.call277 (evs1 rfl) (axK (ofR m e) hRB _) (.mv rfl rfl (.cl rfl Tryz.call98 (evs3 rfl rfl rfl) (akZ neg (dec (ofR m e)) (ofX m e) (akA _) (aZ (apB hRB) (by decide)) (by omega) _) (.mv rfl rfl (.p rfl (zB (tm rfl) rfl) (.p rfl (zB (tm rfl) rfl) ?_))))))))
 refine .al zr58 (fun b10 hb10 => ?_)
 have hn6_10 := Heap.ne_of (oS _ _ _) hb10
 refine .e0 (zG Z58 (tm rfl) (tm rfl) rfl rfl (.inr ⟨_, rfl⟩) (oS _ _ _) (lB rfl)) ?_
 try first | rw [sS] | rw [sU (by assumption)]
 refine .as rfl rfl (.ng ?_)
 refine AWP.frz (t := 10) rfl (hb10) ?_
 refine .sr (.p rfl (zQ G58 Z58 (tm rfl) (lB rfl)) (.e0 (zG Z58 (tm rfl) (tm rfl) rfl rfl (.inr ⟨_, rfl⟩) (oS _ _ _) (lB rfl)) ?_))
 try first | rw [sS] | rw [sU (by assumption)]
 refine .ng ?_
 refine AWP.frz (t := 6) rfl (hb6) ?_
 refine .ret ?_
 refine Ret.go (.cons (.cellI _ _ _ _ rfl G58 Z58 rfl) .nil) _ (hRa _) ?_
 refine ⟨?_, rfl⟩
 rw [bkK]; rfl

def apC (x : Nat) : (Bool × List UInt8 × Int) × Int := if 3 ≤ yD x then ((false, [], 0), 11) else (ofN (alR x) (qI x) (qF x), 0)
def adT (x n : Nat) : (Bool × List UInt8 × Int) × Int := if 3 ≤ yD x then ((false, [], 0), 11) else sigD (apC x).1.1 (apC x).1.2.1 (apC x).1.2.2 n
theorem avZ (neg : Bool) (m : Nat) (e : Int) : qE (ofN neg m e).2.1 (ofN neg m e).2.2 = true := by
 rw [bkK]
 exact amE (akA _)
theorem bdF (x : Nat) : (apC x).2 = if 3 ≤ yD x then 11 else 0 := by unfold apC; split <;> rfl
theorem aiG (x : Nat) : qE (apC x).1.2.1 (apC x).1.2.2 = true := by
 unfold apC
 split
 ·rfl
 exact avZ _ _ _

theorem bdP (x : Nat) (hx : x < 18446744073709551616) (H : Heap) : ACall Tryz.prog 173 [.int .u64 (x : Int)] H (fun y H' => y = dT (apC x) ∧ H' = H) := by
 have hpm := acB x
 have hpe := aaS x
 refine ACall.of_body Tryz.func173 rfl Tryz.ntmps173 Tryz.results173 rfl ?_
 refine .sr ?_
 refine .al zr58 (fun b2 hb2 => ?_)
 refine .p rfl (zA zE) (.ng (.seq (.sr (.mv rfl rfl (.cl rfl C89 (evs1 rfl) (aaE x hx _) (.p rfl (yS (tm rfl) zE) (.ng ?_)))))))
 refine AWP.cond (tm rfl) (fun hc9 => ?_) (fun hc9 => ?_)
 ·try simp only [aM] at hc9
  refine .sr (.p rfl (yK zr58 pl58 .nil rfl) (.e0 (zG Z58 (tm rfl) (tm rfl) rfl rfl (.inr ⟨_, rfl⟩) (oS _ _ _) (lB rfl)) ?_))
  try first | rw [sS] | rw [sU (by assumption)]
  refine .p rfl (zA zE) (.ng ?_)
  refine AWP.frz (t := 2) rfl (hb2) ?_
  refine .ret ?_
  refine Next.rt ?_
  refine Ret.go (.cons (.cellI _ _ _ _ rfl G58 Z58 rfl) (.cons (.tmp _ _ rfl) .nil)) _ (hRa _) ?_
  refine ⟨?_, rfl⟩
  unfold apC
  rw [aO (by omega)]; rfl
 try simp only [aL, cA] at hc9
 refine .skip ?_
 refine Next.go ?_
 refine .sr (.mv rfl rfl (.cl rfl C181 (evs1 rfl) (abY x hx _) (.mv rfl rfl (.p rfl (zB (tm rfl) rfl) (.p rfl (zB (tm rfl) rfl) (.p rfl (zB (tm rfl) rfl) (.as rfl rfl (.as rfl rfl ?_))))))))
 refine .as rfl rfl (.nr (.mv rfl rfl (.mv rfl rfl (.cl rfl C230 (evs1 rfl) (amO (qI x) (by omega) _) (.mv rfl rfl (.cl rfl Tryz.call229 (evs3 rfl rfl rfl) (bhW (alR x) (qI x) (qF x) (by omega) hpe _) (.e0 (zG Z58 (tm rfl) (tm rfl) rfl rfl (.inr ⟨_, rfl⟩) (oS _ _ _) (lB rfl)) ?_)))))))
 try first | rw [sS] | rw [sU (by assumption)]
 refine .p rfl (zA zE) (.ng ?_)
 refine AWP.frz (t := 2) rfl (hb2) ?_
 refine .ret ?_
 refine Ret.go (.cons (.cellI _ _ _ _ rfl G58 Z58 rfl) (.cons (.tmp _ _ rfl) .nil)) _ (hRa _) ?_
 refine ⟨?_, rfl⟩
 unfold apC
 rw [aN (by omega)]; rfl

theorem bdO (x : Nat) (hx : x < 18446744073709551616) (n : Nat) (hn : 0 < n) (hn2 : n ≤ 100000) (H : Heap) : ACall Tryz.prog 106 [.int .u64 (x : Int), .int .i64 (n : Int), .int .i64 1] H (fun y H' => y = dT (adT x n) ∧ H' = H) := by
 refine ACall.of_body Tryz.func106 rfl Tryz.ntmps106 Tryz.results106 rfl ?_
 refine .sr ?_
 refine .al zr58 (fun b6 hb6 => ?_)
 refine .p rfl (zA zE) (.nr (.mv rfl rfl (.cl rfl Tryz.call173 (evs1 rfl) (bdP x hx _) (.mv rfl rfl (.p rfl (zB (tm rfl) rfl) (.p rfl (zB (tm rfl) rfl) ?_))))))
 refine .al zr58 (fun b8 hb8 => ?_)
 have hn6_8 := Heap.ne_of (oS _ _ _) hb8
 refine .e0 (zG Z58 (tm rfl) (tm rfl) rfl rfl (.inr ⟨_, rfl⟩) (oS _ _ _) (lB rfl)) ?_
 try first | rw [sS] | rw [sU (by assumption)]
 refine .as rfl rfl (.ng ?_)
 refine AWP.frz (t := 8) rfl (hb8) ?_
 refine .seq (.sr (.mv rfl rfl (.p rfl (qA (tm rfl) zE) (.ng ?_))))
 refine AWP.cond (tm rfl) (fun hc16 => ?_) (fun hc16 => ?_)
 ·try simp only [aM, ne_eq] at hc16
  have hk3 : 3 ≤ yD x := by rcases bZ (yD x) 3 with h | h; exact absurd (show (apC x).2 = 0 by unfold apC; rw [aN (by omega)]) (by assumption); exact h
  refine .sr (.p rfl (zQ G58 Z58 (tm rfl) (lB rfl)) (.mv rfl rfl (.e0 (zG Z58 (tm rfl) (tm rfl) rfl rfl (.inr ⟨_, rfl⟩) (oS _ _ _) (lB rfl)) ?_)))
  try first | rw [sS] | rw [sU (by assumption)]
  refine .as rfl rfl (.ng ?_)
  refine AWP.frz (t := 6) rfl (hb6) ?_
  refine .ret ?_
  refine Next.rt ?_
  refine Ret.go (.cons (.cellI _ _ _ _ rfl G58 Z58 rfl) (.cons (.tmp _ _ rfl) .nil)) _ (hRa _) ?_
  refine ⟨?_, rfl⟩
  unfold adT
  rw [aO hk3]
  rw [show apC x = ((false, [], 0), 11) by unfold apC; rw [aO hk3]]; rfl
 try simp only [aL, ne_eq, cG] at hc16
 have hk3 : ¬ 3 ≤ yD x := fun h => by rw [bdF, aO h] at hc16; exact absurd hc16 (by decide)
 refine .skip ?_
 refine Next.go ?_
 refine .sr (.p rfl (zQ G58 Z58 (tm rfl) (lB rfl)) (.mv rfl rfl (.mv rfl rfl (.cl rfl Tryz.call174 (evs3 rfl rfl rfl) (bnG _ _ _ n (aiG x) hn hn2 _) (.p rfl (zB (tm rfl) rfl) (.p rfl (zB (tm rfl) rfl) (.e0 (zG Z58 (tm rfl) (tm rfl) rfl rfl (.inr ⟨_, rfl⟩) (oS _ _ _) (lB rfl)) ?_)))))))
 try first | rw [sS] | rw [sU (by assumption)]
 refine .as rfl rfl (.ng ?_)
 refine AWP.frz (t := 6) rfl (hb6) ?_
 refine .ret ?_
 refine Ret.go (.cons (.cellI _ _ _ _ rfl G58 Z58 rfl) (.cons (.tmp _ _ rfl) .nil)) _ (hRa _) ?_
 refine ⟨?_, rfl⟩
 unfold adT
 rw [aN hk3]; rfl

def rxof_J (neg : Bool) (m0 k0 b : Nat) (H : Heap) : Nat → Env → Heap → Prop := fun k env H1 => ∃ m k1 : Nat, m < 18014398509481984 ∧ k1 ≤ 1075 ∧ afO m k1 = afO m0 k0 ∧ env = [(0, .bool neg), (1, aaT m), (2, .int .i64 (-(k1 : Int))), (6, .ptr (some ⟨b, 0, none⟩))] ∧ H1 = H.set b (.box 58 [.bool false, .str [], .int .i64 0]) ∧ k = k1

theorem beJ (neg : Bool) (m : Nat) (e : Int) (hm : m < 18014398509481984) (he : -1075 ≤ e ∧ e ≤ 972) (H : Heap) : ACall Tryz.prog 146 [.bool neg, aaT m, .int .i64 e] H (fun y H' => y = dD (ofN neg m e) ∧ H' = H) := by
 have hmB := ahG hm
 have hRB := bkJ hm he
 have hX := avX (m := m) he
 have hml := yU hmB
 have hrl := yU hRB
 refine ACall.of_body Tryz.func146 rfl Tryz.ntmps146 Tryz.results146 rfl ?_
 refine .sr ?_
 refine .al zr58 (fun b6 hb6 => ?_)
 refine .ng (.seq (.sr (.mv rfl rfl (.p rfl (yS (tm rfl) zE) (.ng ?_)))))
 refine AWP.cond (tm rfl) (fun hc12 => ?_) (fun hc12 => ?_)
 ·try simp only [aM] at hc12
  have hR2 : m * 2 ^ e.toNat < BIG := ajI hm (by omega)
  refine .sr (.mv rfl rfl (.mv rfl rfl (.mv rfl rfl (.cl rfl Tryz.call87 (evs2 rfl rfl) (anT (zK m) .shared (zP m) (by omega) e.toNat (by omega) e (by omega) (by rw [zT]; exact ajI hm (by omega)) _) ?_))))
  simp only [zT]
  refine .cl rfl Tryz.call202 (evs1 rfl) (ajL (zK (m * 2 ^ e.toNat)) .shared (zP _) (by have := yU hR2; omega) (by rw [zT]; exact hR2) _) ?_
  simp only [zT]
  refine .cl rfl Tryz.call104 (.cons (tm rfl) (.cons (tm rfl) (.cons zE .nil))) (aiW neg (dec (m * 2 ^ e.toNat)) 0 (akA _) (aZ (apB hR2) (by decide)) (by decide) _) (.mv rfl rfl (.p rfl (zB (tm rfl) rfl) (.p rfl (zB (tm rfl) rfl) ?_)))
  refine .al zr58 (fun b7 hb7 => ?_)
  have hn6_7 := Heap.ne_of (oS _ _ _) hb7
  refine .e0 (zG Z58 (tm rfl) (tm rfl) rfl rfl (.inr ⟨_, rfl⟩) (oS _ _ _) (lB rfl)) ?_
  try first | rw [sS] | rw [sU (by assumption)]
  refine .as rfl rfl (.ng ?_)
  refine AWP.frz (t := 7) rfl (hb7) ?_
  refine .sr (.p rfl (zQ G58 Z58 (tm rfl) (lB rfl)) (.e0 (zG Z58 (tm rfl) (tm rfl) rfl rfl (.inr ⟨_, rfl⟩) (oS _ _ _) (lB rfl)) ?_))
  try first | rw [sS] | rw [sU (by assumption)]
  refine .ng ?_
  refine AWP.frz (t := 6) rfl (hb6) ?_
  refine .ret ?_
  refine Next.rt ?_
  refine Ret.go (.cons (.cellI _ _ _ _ rfl G58 Z58 rfl) .nil) _ (hRa _) ?_
  refine ⟨?_, rfl⟩
  unfold ofN
  rw [aO (by omega)]; rfl
 try simp only [aL, cA] at hc12
 have hen : e = -(((-e).toNat : Nat) : Int) := by omega
 refine .skip ?_
 refine Next.go ?_
 refine .seq (.block ?_)
 refine AWP.loopW (rxof_J neg m (-e).toNat b6 H) ((-e).toNat) ⟨m, (-e).toNat, hm, by omega, rfl, rfl, rfl, rfl⟩ (zC rfl (zC rfl (zX rfl (by rw [← hen]) (zC rfl zU)))) (hRa _) ?_
 rintro _ _ _ ⟨m1, k1, hm1, hk1, hst, rfl, rfl, hk⟩
 have hm1l := yU (ahG hm1)
 refine .seq ?_
 refine AWP.seqTo 34 (.bool (decide (-(k1 : Int) < 0) && !decide (((m1 % 2 : Nat) : Int) = 1) && decide ((0 : Int) < ((zK m1).length : Int)))) [0, 1, 2, 6] ?_ ?_
 ·-- region 4
  refine .region (.mv rfl rfl (.p rfl (yN (tm rfl) zE) (.mv rfl rfl ?_)))
  refine zL (t := 25) rfl (fun hg25 => ?_) (fun hg25 => ?_)
  ·have hh25 := hg25; try simp only [aM] at hh25
   refine .gp rfl rfl rfl (by assumption) (zJ (tm rfl)) (.gs rfl rfl rfl (by assumption) (zF C151 (.cons (tm rfl) (.cons zE .nil)) (afU (zK m1) .shared (zP m1) (by omega) 0 (by decide) 0 rfl _)) ?_)
   rintro _ _ ⟨rfl, hH⟩
   obtain rfl := hH.symm
   rw [zT, dC, fN]
   refine .gp rfl rfl rfl (by assumption) (aaB (tm rfl)) (.p rfl (zO (tm rfl) (by assumption) (tm rfl)) (.mv rfl rfl ?_))
   refine zL (t := 30) rfl (fun hg30 => ?_) (fun hg30 => ?_)
   ·have hh30 := hg30; try simp only [aL, cK] at hh30
    refine .gp rfl rfl rfl (by assumption) (zJ (tm rfl)) (.gp rfl rfl rfl (by assumption) (abD U107 (tm rfl)) (.gp rfl rfl rfl (by assumption) (yC (tm rfl) zE) (.p rfl (zO (tm rfl) (by assumption) (tm rfl)) (.nil ?_))))
    exact ⟨rfl, zY rfl (by (rw [show decide (-(k1 : Int) < 0) = _ from hg25, show (!decide (((m1 % 2 : Nat) : Int) = 1)) = _ from hg30]; rfl)) (zC rfl (zC rfl (zC rfl (zC rfl zU)))), rfl⟩
   have hh30 := hg30; try simp only [aM, cJ] at hh30
   refine .gn rfl rfl rfl (by assumption) (.gn rfl rfl rfl (by assumption) (.gn rfl rfl rfl (by assumption) (.p rfl (zN (tm rfl) (by assumption) zM) (.nil ?_))))
   exact ⟨rfl, zY rfl (by (rw [show decide (-(k1 : Int) < 0) = _ from hg25, show (!decide (((m1 % 2 : Nat) : Int) = 1)) = _ from hg30]; rfl)) (zC rfl (zC rfl (zC rfl (zC rfl zU)))), rfl⟩
  have hh25 := hg25; try simp only [aL, bN] at hh25
  refine .gn rfl rfl rfl (by assumption) (.gn rfl rfl rfl (by assumption) (.gn rfl rfl rfl (by assumption) (.p rfl (zN (tm rfl) (by assumption) zM) (.mv rfl rfl (.gn rfl rfl rfl (by rfl) (.gn rfl rfl rfl (by rfl) (.gn rfl rfl rfl (by rfl) (.p rfl (zN (tm rfl) (by rfl) zM) ?_))))))))
  refine .nil ?_
  exact ⟨rfl, zY rfl (by (rw [show decide (-(k1 : Int) < 0) = _ from hg25]; rfl)) (zC rfl (zC rfl (zC rfl (zC rfl zU)))), rfl⟩
 refine AWP.sub [(34, _), (0, _), (1, _), (2, _), (6, _)] (zC rfl (zC rfl (zC rfl (zC rfl (zC rfl zU))))) ?_
 refine AWP.cond (tm rfl) (fun hc34 => ?_) (fun hc34 => ?_)
 ·try simp only [aK] at hc34
  simp only [bK, cK, aM, aL] at hc34
  obtain ⟨⟨hk0, hb0⟩, hl0⟩ := hc34
  have hm0 : 0 < m1 := by rcases aY m1 with h | h; rw [h] at hl0; exact absurd hl0 (by decide); exact h
  have hst2 := bbN (m := m1) (k := k1) (by omega) hm0 (by omega)
  refine .skip ?_
  refine Next.go ?_
  refine .block (.sr (.mv rfl rfl (.e rfl (aaF U107 Z166 V166 rfl (zI 2) (.inl rfl) ⟨rfl, rfl⟩) (.cl rfl Tryz.call86 (evs2 rfl rfl) (alN (zK m1) .shared (zP m1) (by omega) [2] .full (Limbs.mk (by decide) Limbs.nil) (by decide) (by decide) _) ?_))))
  rw [zT, show val [2] = 2 from rfl]
  refine .mv rfl rfl (.p rfl (zB (tm rfl) rfl) (.p rfl (zB (tm rfl) rfl) (.as rfl rfl (.ng (.region (.mv rfl rfl (.p rfl (yT (tm rfl) zE (by omega)) (.as rfl rfl ?_))))))))
  refine .nil ?_
  refine Block.go ?_
  refine Next.go ?_
  refine Round.mk (J := rxof_J neg m (-e).toNat b6 H) ⟨m1 / 2, k1 - 1, by omega, by omega, by rw [← hst2]; exact hst, rfl, rfl, rfl⟩ (zC rfl (zC rfl (zX rfl (by congr 1; omega) (zC rfl zU)))) (hRa _) (by omega)
 try simp only [aK] at hc34
 simp only [cB, cJ, aM, aL] at hc34
 have hse : afO m1 k1 = (m1, k1) := auR (by
   rcases aY m1 with h | h
   ·exact .inr (.inl h)
   have hnl := aiA h
   omega)
 rw [hst] at hse
 refine .exit ?_
 refine Next.ex ?_
 refine Next.ex ?_
 refine Block.hit ?_
 refine Next.go ?_
 refine .seq (.sr (.mv rfl rfl (.p rfl (abD U107 (tm rfl)) (.p rfl (zR (tm rfl) zE) (.ng ?_)))))
 refine AWP.cond (tm rfl) (fun hc45 => ?_) (fun hc45 => ?_)
 ·try simp only [aM] at hc45
  refine .sr (.mv rfl rfl (.p rfl (yK zr58 pl58 (.cons (tm rfl) (.inl rfl) .nil) rfl) (.e0 (zG Z58 (tm rfl) (tm rfl) rfl rfl (.inr ⟨_, rfl⟩) (oS _ _ _) (lB rfl)) ?_)))
  try first | rw [sS] | rw [sU (by assumption)]
  refine .ng ?_
  refine AWP.frz (t := 6) rfl (hb6) ?_
  refine .ret ?_
  refine Next.rt ?_
  refine Ret.go (.cons (.cellI _ _ _ _ rfl G58 Z58 rfl) .nil) _ (hRa _) ?_
  refine ⟨?_, rfl⟩
  have hm10 : m1 = 0 := apX.1 (by omega)
  unfold ofN
  rw [aN (by omega), hse, hm10, dF, mk_zero]; rfl
 try simp only [aL] at hc45
 refine .skip ?_
 refine Next.go ?_
 refine .sr (.mv rfl rfl (.mv rfl rfl (.mv rfl rfl (.p rfl (abR (tm rfl) (by omega)) (.cl rfl Tryz.call203 (evs1 rfl) (avE k1 (by omega) _ (by omega) (abZ hm1 hk1).2 _) ?_)))))
 refine .cl rfl C83 (evs2 rfl rfl) (adO (zK m1) .shared (zP m1) (by omega) (zK (5 ^ k1)) .shared (zP _) (by have := yU (abZ hm1 hk1).2; omega) _) ?_
 simp only [zT]
 refine .cl rfl Tryz.call202 (evs1 rfl) (ajL (zK (m1 * 5 ^ k1)) .shared (zP _) (by have := yU (abZ hm1 hk1).1; omega) (by rw [zT]; exact (abZ hm1 hk1).1) _) ?_
 simp only [zT]
 refine .mv rfl rfl (.cl rfl Tryz.call104 (evs3 rfl rfl rfl) (aiW neg (dec (m1 * 5 ^ k1)) (-(k1 : Int)) (akA _) (aZ (apB (abZ hm1 hk1).1) (by decide)) (by omega) _) (.mv rfl rfl (.p rfl (zB (tm rfl) rfl) (.p rfl (zB (tm rfl) rfl) ?_))))
 refine .al zr58 (fun b9 hb9 => ?_)
 have hn6_9 := Heap.ne_of (oS _ _ _) hb9
 refine .e0 (zG Z58 (tm rfl) (tm rfl) rfl rfl (.inr ⟨_, rfl⟩) (oS _ _ _) (lB rfl)) ?_
 try first | rw [sS] | rw [sU (by assumption)]
 refine .as rfl rfl (.ng ?_)
 refine AWP.frz (t := 9) rfl (hb9) ?_
 refine .sr (.p rfl (zQ G58 Z58 (tm rfl) (lB rfl)) (.e0 (zG Z58 (tm rfl) (tm rfl) rfl rfl (.inr ⟨_, rfl⟩) (oS _ _ _) (lB rfl)) ?_))
 try first | rw [sS] | rw [sU (by assumption)]
 refine .ng ?_
 refine AWP.frz (t := 6) rfl (hb6) ?_
 refine .ret ?_
 refine Ret.go (.cons (.cellI _ _ _ _ rfl G58 Z58 rfl) .nil) _ (hRa _) ?_
 refine ⟨?_, rfl⟩
 unfold ofN
 rw [aN (by omega), hse]; rfl

theorem asR (x : Nat) (hx : x < 18446744073709551616) (H : Heap) : ACall Tryz.prog 145 [.int .u64 (x : Int)] H (fun y H' => y = .bool (decide ((yD x : Int) < 3)) ∧ H' = H) := by
 refine ACall.of_body Tryz.func145 rfl Tryz.ntmps145 Tryz.results145 rfl ?_
 refine .sr (.p rfl (zA zM) (.nr (.mv rfl rfl (.cl rfl C25 (evs1 rfl) (agM x hx _) (.p rfl (yN (tm rfl) zE) (.as rfl rfl (.ng (.ret ?_))))))))
 refine Ret.go (.cons (.tmp _ _ rfl) .nil) _ (hRa _) ?_
 exact ⟨rfl, rfl⟩

theorem ayK (x : Nat) (hx : x < 18446744073709551616) (H : Heap) : ACall Tryz.prog 77 [.int .u64 (x : Int)] H (fun y H' => y = dT (apC x) ∧ H' = H) := by
 have hpm := acB x
 have hpe := aaS x
 refine ACall.of_body Tryz.func77 rfl Tryz.ntmps77 Tryz.results77 rfl ?_
 refine .sr ?_
 refine .al zr58 (fun b2 hb2 => ?_)
 refine .p rfl (zA zE) (.nr (.mv rfl rfl (.cl rfl Tryz.call145 (evs1 rfl) (asR x hx _) (.as rfl rfl (.ng (.seq (.sr (.mv rfl rfl ?_))))))))
 refine .p rfl (aaB (tm rfl)) (.ng ?_)
 refine AWP.cond (tm rfl) (fun hc11 => ?_) (fun hc11 => ?_)
 ·try simp only [aL, cK, bN] at hc11
  refine .sr (.p rfl (yK zr58 pl58 .nil rfl) (.e0 (zG Z58 (tm rfl) (tm rfl) rfl rfl (.inr ⟨_, rfl⟩) (oS _ _ _) (lB rfl)) ?_))
  try first | rw [sS] | rw [sU (by assumption)]
  refine .p rfl (zA zE) (.ng ?_)
  refine AWP.frz (t := 2) rfl (hb2) ?_
  refine .ret ?_
  refine Next.rt ?_
  refine Ret.go (.cons (.cellI _ _ _ _ rfl G58 Z58 rfl) (.cons (.tmp _ _ rfl) .nil)) _ (hRa _) ?_
  refine ⟨?_, rfl⟩
  unfold apC
  rw [aO (by omega)]; rfl
 try simp only [aM, cJ] at hc11
 refine .skip ?_
 refine Next.go ?_
 refine .sr (.mv rfl rfl (.cl rfl Tryz.call129 (evs1 rfl) (avM x hx _) (.mv rfl rfl (.p rfl (zB (tm rfl) rfl) (.p rfl (zB (tm rfl) rfl) (.p rfl (zB (tm rfl) rfl) (.as rfl rfl (.as rfl rfl ?_))))))))
 refine .as rfl rfl (.nr (.mv rfl rfl (.mv rfl rfl (.cl rfl Tryz.call130 (evs1 rfl) (beV (qI x) (by omega) _) (.mv rfl rfl (.cl rfl Tryz.call146 (evs3 rfl rfl rfl) (beJ (alR x) (qI x) (qF x) (by omega) hpe _) (.e0 (zG Z58 (tm rfl) (tm rfl) rfl rfl (.inr ⟨_, rfl⟩) (oS _ _ _) (lB rfl)) ?_)))))))
 try first | rw [sS] | rw [sU (by assumption)]
 refine .p rfl (zA zE) (.ng ?_)
 refine AWP.frz (t := 2) rfl (hb2) ?_
 refine .ret ?_
 refine Ret.go (.cons (.cellI _ _ _ _ rfl G58 Z58 rfl) (.cons (.tmp _ _ rfl) .nil)) _ (hRa _) ?_
 refine ⟨?_, rfl⟩
 unfold apC
 rw [aN (by omega)]; rfl

theorem ayJ (x : Nat) (hx : x < 18446744073709551616) (n : Nat) (hn : 0 < n) (hn2 : n ≤ 100000) (H : Heap) : ACall Tryz.prog 28 [.int .u64 (x : Int), .int .i64 (n : Int), .int .i64 1] H (fun y H' => y = dT (adT x n) ∧ H' = H) := by
 refine ACall.of_body Tryz.func28 rfl Tryz.ntmps28 Tryz.results28 rfl ?_
 refine .sr ?_
 refine .al zr58 (fun b6 hb6 => ?_)
 refine .p rfl (zA zE) (.nr (.mv rfl rfl (.cl rfl Tryz.call77 (evs1 rfl) (ayK x hx _) (.mv rfl rfl (.p rfl (zB (tm rfl) rfl) (.p rfl (zB (tm rfl) rfl) ?_))))))
 refine .al zr58 (fun b8 hb8 => ?_)
 have hn6_8 := Heap.ne_of (oS _ _ _) hb8
 refine .e0 (zG Z58 (tm rfl) (tm rfl) rfl rfl (.inr ⟨_, rfl⟩) (oS _ _ _) (lB rfl)) ?_
 try first | rw [sS] | rw [sU (by assumption)]
 refine .as rfl rfl (.ng ?_)
 refine AWP.frz (t := 8) rfl (hb8) ?_
 refine .seq (.sr (.mv rfl rfl (.p rfl (qA (tm rfl) zE) (.ng ?_))))
 refine AWP.cond (tm rfl) (fun hc16 => ?_) (fun hc16 => ?_)
 ·try simp only [aM, ne_eq] at hc16
  have hk3 : 3 ≤ yD x := by rcases bZ (yD x) 3 with h | h; exact absurd (show (apC x).2 = 0 by unfold apC; rw [aN (by omega)]) (by assumption); exact h
  refine .sr (.p rfl (zQ G58 Z58 (tm rfl) (lB rfl)) (.mv rfl rfl (.e0 (zG Z58 (tm rfl) (tm rfl) rfl rfl (.inr ⟨_, rfl⟩) (oS _ _ _) (lB rfl)) ?_)))
  try first | rw [sS] | rw [sU (by assumption)]
  refine .as rfl rfl (.ng ?_)
  refine AWP.frz (t := 6) rfl (hb6) ?_
  refine .ret ?_
  refine Next.rt ?_
  refine Ret.go (.cons (.cellI _ _ _ _ rfl G58 Z58 rfl) (.cons (.tmp _ _ rfl) .nil)) _ (hRa _) ?_
  refine ⟨?_, rfl⟩
  unfold adT
  rw [aO hk3]
  rw [show apC x = ((false, [], 0), 11) by unfold apC; rw [aO hk3]]; rfl
 try simp only [aL, ne_eq, cG] at hc16
 have hk3 : ¬ 3 ≤ yD x := fun h => by rw [bdF, aO h] at hc16; exact absurd hc16 (by decide)
 refine .skip ?_
 refine Next.go ?_
 refine .sr (.p rfl (zQ G58 Z58 (tm rfl) (lB rfl)) (.mv rfl rfl (.mv rfl rfl (.cl rfl Tryz.call78 (evs3 rfl rfl rfl) (beT _ _ _ n (aiG x) hn hn2 _) (.p rfl (zB (tm rfl) rfl) (.p rfl (zB (tm rfl) rfl) (.e0 (zG Z58 (tm rfl) (tm rfl) rfl rfl (.inr ⟨_, rfl⟩) (oS _ _ _) (lB rfl)) ?_)))))))
 try first | rw [sS] | rw [sU (by assumption)]
 refine .as rfl rfl (.ng ?_)
 refine AWP.frz (t := 6) rfl (hb6) ?_
 refine .ret ?_
 refine Ret.go (.cons (.cellI _ _ _ _ rfl G58 Z58 rfl) (.cons (.tmp _ _ rfl) .nil)) _ (hRa _) ?_
 refine ⟨?_, rfl⟩
 unfold adT
 rw [aN hk3]; rfl

end
section
open Go Go.RowKit
set_option maxRecDepth 100000

structure Loc where
 name : List UInt8
 dc : List UInt8
 grp : List UInt8
 lst : List UInt8
 minus : List UInt8
 pct : List UInt8
 cur : List UInt8
 first : Bool
 space : Bool
 second : Nat
def pL (l : Loc) (sz : AV) : AV := .agg [.str l.name, .str l.dc, .str l.grp, .str l.lst, .str l.minus, .str l.pct, .str l.cur, .bool l.first, .bool l.space, sz]
def rL (l : Loc) : AV := .agg [.str l.name, .str l.dc, .str l.grp, .str l.lst, .str l.minus, .str l.pct, .str l.cur, .bool l.first, .bool l.space, .int .i64 (l.second : Int)]
def Loc.ok (l : Loc) : Prop := l.dc.length ≤ 10 ∧ l.grp.length ≤ 10 ∧ l.minus.length ≤ 10 ∧ l.cur.length ≤ 10 ∧ l.pct.length ≤ 10
def qN (ds : List UInt8) (p : Int) : (List UInt8 × List UInt8) × Bool :=
 if 400 < p ∨ 400 < (ds.length : Int) - p then (([], []), false)
 else if p ≤ 0 then (([48], List.replicate (-p).toNat 48 ++ ds), true)
 else if (ds.length : Int) ≤ p then ((ds ++ List.replicate (p - ds.length).toNat 48, []), true)
 else ((ds.take p.toNat, ds.drop p.toNat), true)
def agX (l : Loc) (neg : Bool) (ds : List UInt8) (p : Int) : List UInt8 :=
 if (qN ds p).2 = true then (if neg = true then l.minus else []) ++ ((qN ds p).1.1 ++ (if (qN ds p).1.2 = [] then [] else l.dc ++ (qN ds p).1.2)) else []
theorem auY {p : Int} (hl : ds.length ≤ 1100) : (qN ds p).1.1.length ≤ 2000 ∧ (qN ds p).1.2.length ≤ 2000 := by
 unfold qN
 split
 ·simp
 split
 ·simp only [aS, bR, bE, bL]; omega
 split
 ·simp only [aS, bR, bL]; omega
 simp only [aQ, bS]; omega
theorem bhY {l : Loc} {neg : Bool} {p : Int} (hl : ds.length ≤ 1100) (hk : l.ok) : (agX l neg ds p).length ≤ 5000 := by
 have h := auY (p := p) hl
 obtain ⟨h1, h2, h3, h4, h5⟩ := hk
 unfold agX
 split
 ·simp only [aS]
  have a1 : (if neg = true then l.minus else []).length ≤ 10 := by split <;> first | omega | (simp; done) | (simp; omega)
  have a2 : (if (qN ds p).1.2 = [] then [] else l.dc ++ (qN ds p).1.2).length ≤ 2010 := by split <;> first | omega | (simp; done) | (simp; omega)
  omega
 simp
theorem bcD {e : Int} (h : qE ds e = true) : agZ ds e = (ds.length : Int) + e := by unfold agZ; rw [aO h]

theorem ayC (neg : Bool) (ds : List UInt8) (e : Int) (hr : qE ds e = true) (H : Heap) : ACall Tryz.prog 175 [dA neg ds e] H (fun y H' => y = .tuple [.str (qN ds ((ds.length : Int) + e)).1.1, .str (qN ds ((ds.length : Int) + e)).1.2, .bool (qN ds ((ds.length : Int) + e)).2] ∧ H' = H) := by
 have hpd := bcD hr
 have hrl := aaY hr
 have hdd := qQ hr
 have hml := zW
 generalize hpp : (ds.length : Int) + e = p at *
 refine ACall.of_body Tryz.func175 rfl Tryz.ntmps175 Tryz.results175 rfl ?_
 refine .sr (.e rfl (zZ (tm rfl) (.inr ⟨_, rfl⟩)) (.p rfl (zA (zS rfl)) (.p rfl (zA (zS rfl)) (.p rfl (zA zM) (.ng (.seq ?_))))))
 refine AWP.draw [(0, true), (2, true), (3, true), (4, true), (1, false), (5, true), (6, true)] rfl (by decide +kernel) ?_
 refine .p rfl rfl (zQ G58 Z58 (tm rfl) (lB rfl)) (.p rfl rfl (zD U58 rfl Z9 (tm rfl)) (.p rfl rfl (zH G9 (tm rfl)) (.p rfl rfl (yQ U9 (tm rfl)) (.s rfl rfl (zF Tryz.call107 (evs1 rfl) (ajF neg ds e hdd _)) ?_))))
 rintro _ _ ⟨rfl, hH⟩
 obtain rfl := hH.symm
 rw [hpd]
 refine .p rfl rfl (zA (tm rfl)) (.p rfl rfl (zA (tm rfl)) (.nil ?_))
 refine Next.go ?_
 refine .seq (.block (.sr (.mv rfl rfl (.p rfl (zR (tm rfl) zE) (.as rfl rfl (.ng ?_))))))
 refine AWP.cond (tm rfl) (fun hc12 => ?_) (fun hc12 => ?_)
 ·try simp only [aM] at hc12
  refine .sr (.p rfl (zA (zS rfl)) (.p rfl (zA (zS rfl)) (.p rfl (zA zM) (.ng (.ret ?_)))))
  refine Block.rt ?_
  refine Next.rt ?_
  refine Ret.go (.cons (.tmp _ _ rfl) (.cons (.tmp _ _ rfl) (.cons (.tmp _ _ rfl) .nil))) _ (hRa _) ?_
  refine ⟨?_, rfl⟩
  unfold qN
  have hn0 : ds = [] := dN.1 (by omega)
  have he0 : p = 0 := by rw [hn0] at hpp; have he := hr; rw [hn0] at he; unfold qE at he; rw [aO rfl] at he; have := of_decide_eq_true he; simp only [bL] at hpp; omega
  rw [hn0, he0]; rfl
 try simp only [aL] at hc12
 refine AWP.seqTo 15 (.bool (decide ((400 : Int) < p) || decide ((400 : Int) < (ds.length : Int) - p))) [1, 2, 3, 4, 5, 6] ?_ ?_
 ·-- region 4
  refine .region (.mv rfl rfl (.p rfl (yC (tm rfl) zE) (.mv rfl rfl ?_)))
  refine zL (t := 18) rfl (fun hg18 => ?_) (fun hg18 => ?_)
  ·have hh18 := hg18; try simp only [aM] at hh18
   refine .gn rfl rfl rfl (by assumption) (.gn rfl rfl rfl (by assumption) (.gn rfl rfl rfl (by assumption) (.gn rfl rfl rfl (by assumption) (.p rfl (zO (tm rfl) (by assumption) zM) (.as rfl rfl (.nil ?_))))))
   exact ⟨rfl, zY rfl (by (rw [show decide ((400 : Int) < p) = _ from hg18]; rfl)) (zC rfl (zC rfl (zC rfl (zC rfl (zC rfl (zC rfl zU)))))), rfl⟩
  have hh18 := hg18; try simp only [aL, bN] at hh18
  refine .gp rfl rfl rfl (by assumption) (zJ (tm rfl)) (.gp rfl rfl rfl (by assumption) (zJ (tm rfl)) (.gp rfl rfl rfl (by assumption) (yG (tm rfl) (tm rfl) (by omega)) (.gp rfl rfl rfl (by assumption) (yC (tm rfl) zE) (.p rfl (zN (tm rfl) (by assumption) (tm rfl)) (.as rfl rfl (.nil ?_))))))
  exact ⟨rfl, zY rfl (by (rw [show decide ((400 : Int) < p) = _ from hg18]; rfl)) (zC rfl (zC rfl (zC rfl (zC rfl (zC rfl (zC rfl zU)))))), rfl⟩
 refine AWP.sub [(15, _), (1, _), (2, _), (3, _), (4, _), (5, _), (6, _)] (zC rfl (zC rfl (zC rfl (zC rfl (zC rfl (zC rfl (zC rfl zU))))))) ?_
 refine AWP.cond (tm rfl) (fun hc15 => ?_) (fun hc15 => ?_)
 ·try simp only [aK] at hc15
  simp only [cV, aM] at hc15
  refine .sr (.p rfl (zA (zS rfl)) (.p rfl (zA (zS rfl)) (.p rfl (zA zM) (.ng (.ret ?_)))))
  refine Block.rt ?_
  refine Next.rt ?_
  refine Ret.go (.cons (.tmp _ _ rfl) (.cons (.tmp _ _ rfl) (.cons (.tmp _ _ rfl) .nil))) _ (hRa _) ?_
  refine ⟨?_, rfl⟩
  unfold qN
  rw [aO hc15]; rfl
 try simp only [aK] at hc15
 simp only [cP, aL] at hc15
 refine .sr (.mv rfl rfl (.p rfl (abJ (tm rfl) zE) (.as rfl rfl (.ng ?_))))
 refine AWP.cond (tm rfl) (fun hc24 => ?_) (fun hc24 => ?_)
 ·try simp only [aM] at hc24
  refine .seq ?_
  refine AWP.draw [(0, true), (1, true), (3, true), (4, true), (2, false), (5, true), (6, true), (7, true), (8, true)] rfl (by decide +kernel) ?_
  refine .p rfl rfl (zJ (tm rfl)) (.p rfl rfl (abR (tm rfl) (by omega)) (.p rfl rfl (zD U58 rfl Z9 (tm rfl)) (.p rfl rfl (zH G9 (tm rfl)) (.s rfl rfl (zF C232 (.cons (zS rfl) (evs1 rfl)) (repeatZ 48 _ (-p).toNat (by omega) (by omega) _)) ?_))))
  rintro _ _ ⟨rfl, hH⟩
  obtain rfl := hH.symm
  refine .p rfl rfl (yX (tm rfl) (tm rfl) (by rw [zW, bR]; omega)) (.p rfl rfl (zA (zS rfl)) (.p rfl rfl (zA (tm rfl)) (.p rfl rfl (zA zM) (.nil ?_))))
  refine Next.go ?_
  refine .ret ?_
  refine Block.rt ?_
  refine Next.rt ?_
  refine Ret.go (.cons (.tmp _ _ rfl) (.cons (.tmp _ _ rfl) (.cons (.tmp _ _ rfl) .nil))) _ (hRa _) ?_
  refine ⟨?_, rfl⟩
  unfold qN
  rw [aN (by omega), aO (by omega)]; rfl
 try simp only [aL, cA] at hc24
 refine .sr (.mv rfl rfl (.mv rfl rfl (.p rfl (yS (tm rfl) (tm rfl)) (.as rfl rfl (.ng ?_)))))
 refine AWP.cond (tm rfl) (fun hc33 => ?_) (fun hc33 => ?_)
 ·try simp only [aM] at hc33
  refine .seq ?_
  refine AWP.draw [(0, true), (1, true), (2, true), (3, true), (4, true), (5, false), (6, true), (7, true), (8, true), (9, true)] rfl (by decide +kernel) ?_
  refine .p rfl rfl (zD U58 rfl Z9 (tm rfl)) (.p rfl rfl (zH G9 (tm rfl)) (.p rfl rfl (zJ (tm rfl)) (.p rfl rfl (zJ (tm rfl)) (.p rfl rfl (yG (tm rfl) (tm rfl) (by omega)) (.s rfl rfl (zF C232 (.cons (zS rfl) (evs1 rfl)) (repeatZ 48 _ (p - ds.length).toNat (by omega) (by omega) _)) ?_)))))
  rintro _ _ ⟨rfl, hH⟩
  obtain rfl := hH.symm
  refine .p rfl rfl (yX (tm rfl) (tm rfl) (by rw [zW, bR]; omega)) (.p rfl rfl (zA (tm rfl)) (.p rfl rfl (zA (zS rfl)) (.p rfl rfl (zA zM) (.nil ?_))))
  refine Next.go ?_
  refine .ret ?_
  refine Block.rt ?_
  refine Next.rt ?_
  refine Ret.go (.cons (.tmp _ _ rfl) (.cons (.tmp _ _ rfl) (.cons (.tmp _ _ rfl) .nil))) _ (hRa _) ?_
  refine ⟨?_, rfl⟩
  unfold qN
  rw [aN (by omega), aN (by omega), aO (by omega)]; rfl
 try simp only [aL, cA] at hc33
 refine .skip ?_
 refine Block.go ?_
 refine Next.go ?_
 refine .seq ?_
 refine AWP.draw [(0, true), (1, true), (2, true), (3, true), (4, true), (5, true), (6, true), (7, true), (8, true), (9, true), (10, true)] rfl (by decide +kernel) ?_
 refine .p rfl rfl (zD U58 rfl Z9 (tm rfl)) (.p rfl rfl (zH G9 (tm rfl)) (.p rfl rfl (zJ (tm rfl)) (.p rfl rfl (abN U9 (tm rfl) (tm rfl) (by omega) (by omega)) (.p rfl rfl (zD U58 rfl Z9 (tm rfl)) (.p rfl rfl (zH G9 (tm rfl)) (.p rfl rfl (zJ (tm rfl)) (.p rfl rfl (abM U9 (tm rfl) (tm rfl) (by omega) (by omega)) (.p rfl rfl (zA (tm rfl)) ?_))))))))
 refine .p rfl rfl (zA (tm rfl)) (.p rfl rfl (zA zM) (.nil ?_))
 refine Next.go ?_
 refine .ret ?_
 refine Ret.go (.cons (.tmp _ _ rfl) (.cons (.tmp _ _ rfl) (.cons (.tmp _ _ rfl) .nil))) _ (hRa _) ?_
 refine ⟨?_, rfl⟩
 unfold qN
 rw [aN (by omega), aN (by omega), aN (by omega)]; rfl

theorem apH (l : Loc) (hk : l.ok) (sz : AV) (neg : Bool) (ds : List UInt8) (e : Int) (hr : qE ds e = true) (H : Heap) : ACall Tryz.prog 108 [pL l sz, dA neg ds e, .bool false] H (fun y H' => y = .str (agX l neg ds ((ds.length : Int) + e)) ∧ H' = H) := by
 have hsl := auY (ds := ds) (p := (ds.length : Int) + e) (aaY hr).1
 have hml := zW
 have hdd := qQ hr
 obtain ⟨hk1, hk2, hk3, hk4, hk5⟩ := hk
 generalize hsv : qN ds ((ds.length : Int) + e) = sv at *
 obtain ⟨⟨w, r⟩, ok⟩ := sv
 obtain ⟨hsl1, hsl2⟩ := hsl
 simp only [] at hsl1 hsl2
 refine ACall.of_body Tryz.func108 rfl Tryz.ntmps108 Tryz.results108 rfl ?_
 refine .sr (.e rfl (zZ (tm rfl) (.inr ⟨_, rfl⟩)) (.e rfl (zZ (tm rfl) (.inr ⟨_, rfl⟩)) (.p rfl (zA (zS rfl)) (.nr (.p rfl (zQ G58 Z58 (tm rfl) (lB rfl)) (.cl rfl Tryz.call175 (evs1 rfl) (ayC neg ds e hr _) ?_))))))
 rw [hsv]
 dsimp only
 refine .mv rfl rfl (.p rfl (zB (tm rfl) rfl) (.p rfl (zB (tm rfl) rfl) (.p rfl (zB (tm rfl) rfl) (.as rfl rfl (.as rfl rfl (.as rfl rfl (.ng (.seq ?_))))))))
 refine AWP.seqTo 22 (.bool (!ok)) [2, 3, 4, 6, 7, 8] ?_ ?_
 ·-- region 2
  refine .region (.mv rfl rfl (.p rfl (aaB (tm rfl)) (.mv rfl rfl ?_)))
  refine zL (t := 18) rfl (fun hg18 => ?_) (fun hg18 => ?_)
  ·have hh18 := hg18; try simp only [cK] at hh18
   refine .gn rfl rfl rfl (by assumption) (.gn rfl rfl rfl (by assumption) (.gn rfl rfl rfl (by assumption) (.p rfl (zO (tm rfl) (by assumption) zM) (.nil ?_))))
   exact ⟨rfl, zY rfl (by (cases ok <;> first | rfl | (simp at hg18))) (zC rfl (zC rfl (zC rfl (zC rfl (zC rfl (zC rfl zU)))))), rfl⟩
  have hh18 := hg18; try simp only [cJ] at hh18
  refine .gp rfl rfl rfl (by assumption) (zQ G58 Z58 (tm rfl) (lB rfl)) (.gs rfl rfl rfl (by assumption) (zF C165 (evs1 rfl) (aeY neg ds e hdd _)) ?_)
  rintro _ _ ⟨rfl, hH⟩
  obtain rfl := hH.symm
  rw [hr]
  refine .gp rfl rfl rfl (by assumption) (aaB (tm rfl)) (.p rfl (zN (tm rfl) (by assumption) (tm rfl)) (.nil ?_))
  exact ⟨rfl, zY rfl (by (cases ok <;> first | rfl | (simp at hg18))) (zC rfl (zC rfl (zC rfl (zC rfl (zC rfl (zC rfl zU)))))), rfl⟩
 refine AWP.sub [(22, _), (2, _), (3, _), (4, _), (6, _), (7, _), (8, _)] (zC rfl (zC rfl (zC rfl (zC rfl (zC rfl (zC rfl (zC rfl zU))))))) ?_
 refine AWP.cond (tm rfl) (fun hc22 => ?_) (fun hc22 => ?_)
 ·try simp only [cK] at hc22
  refine .sr (.p rfl (zA (zS rfl)) (.ng (.ret ?_)))
  refine Next.rt ?_
  refine Ret.go (.cons (.tmp _ _ rfl) .nil) _ (hRa _) ?_
  refine ⟨?_, rfl⟩
  unfold agX
  rw [hsv]
  simp only []
  rw [aN (show ¬ ok = true by simpa using hc22)]; rfl
 try simp only [cJ] at hc22
 refine .skip ?_
 refine Next.go ?_
 refine .seq (.sr (.mv rfl rfl (.ng ?_)))
 refine AWP.cond_false (tm rfl) (by rfl) ?_
 refine .skip ?_
 refine Next.go ?_
 refine AWP.seqToL [(7, .str ((if neg = true then l.minus else []) ++ w))] [3, 6, 8] ?_ ?_
 ·refine .sr (.p rfl (zD U58 rfl Z4 (tm rfl)) (.p rfl (zH G4 (tm rfl)) (.ng ?_)))
  refine AWP.cond (tm rfl) (fun hc28 => ?_) (fun hc28 => ?_)
  ·try simp only [aK] at hc28
   refine .region (.p rfl (zD U29 rfl Z9 (tm rfl)) (.p rfl (zH G9 (tm rfl)) (.mv rfl rfl (.p rfl (yX (tm rfl) (tm rfl) (by rw [zW]; omega)) (.as rfl rfl (.nil ?_))))))
   exact ⟨rfl, (zX rfl (by (rw [aO (by assumption)]; done)) (zC rfl (zC rfl (zC rfl zU)))), rfl⟩
  try simp only [aK] at hc28
  refine .skip ?_
  exact ⟨rfl, (zX rfl (by (rw [aN (by (rw [hc28]; decide))]; rfl)) (zC rfl (zC rfl (zC rfl zU)))), rfl⟩
 refine AWP.sub [(7, _), (3, _), (6, _), (8, _)] (zC rfl (zC rfl (zC rfl (zC rfl zU)))) ?_
 have hmw : (if neg = true then l.minus else []).length ≤ 10 := by split <;> first | omega | (simp; done) | (simp; omega)
 refine .seq (.sr (.mv rfl rfl (.p rfl (qO (tm rfl) (zS rfl)) (.ng ?_))))
 refine AWP.cond (tm rfl) (fun hc34 => ?_) (fun hc34 => ?_)
 ·try simp only [aL, cK] at hc34
  refine .region (.mv rfl rfl (.p rfl (zD U29 rfl Z9 (tm rfl)) (.p rfl (zH G9 (tm rfl)) (.mv rfl rfl (.p rfl (yX (tm rfl) (tm rfl) (by rw [zW]; omega)) (.p rfl (yX (tm rfl) (tm rfl) (by simp only [zW, aS]; first | omega | (split <;> first | omega | (simp; done) | (simp; omega)))) (.as rfl rfl (.nr ?_))))))))
  refine .mv rfl rfl (.as rfl rfl (.ng (.ret ?_)))
  refine Ret.go (.cons (.tmp _ _ rfl) .nil) _ (hRa _) ?_
  refine ⟨?_, rfl⟩
  unfold agX
  rw [hsv]
  simp only []
  rw [aO (show ok = true by simpa using hc22), aN (show ¬ r = [] by simpa using hc34), bV]; rfl
 try simp only [aM, cJ] at hc34
 refine .skip ?_
 refine Next.go ?_
 refine .sr (.mv rfl rfl (.as rfl rfl (.ng (.ret ?_))))
 refine Ret.go (.cons (.tmp _ _ rfl) .nil) _ (hRa _) ?_
 refine ⟨?_, rfl⟩
 unfold agX
 rw [hsv]
 simp only []
 rw [aO (show ok = true by simpa using hc22), aO (show r = [] by simpa using hc34), cS]; rfl

end

section
open Go Go.RowKit
set_option maxRecDepth 100000

theorem itoaZ (q : Int) (n : Nat) (hq : q = (n : Int)) (hn : n ≤ 9223372036854775807) (H : Heap) : ACall Tryz.prog 109 [.int .i64 q] H (fun y H' => y = .str (dec n) ∧ H' = H) := by
 subst hq; exact itoaA n hn H
def apV (l : Loc) (neg : Bool) (ds : List UInt8) : List UInt8 := (if neg = true then l.minus else []) ++ ds.take 1 ++ (if (1 : Int) < (ds.length : Int) then l.dc ++ ds.drop 1 else [])
def adX (p : Int) : Nat := (if p < 1 then 1 - p else p - 1).toNat
def bcX (l : Loc) (s : (Bool × List UInt8 × Int) × Int) : List UInt8 :=
 if s.2 ≠ 0 then []
 else if s.1.2.1 = [] ∨ (-4 ≤ (s.1.2.1.length : Int) + s.1.2.2 ∧ (s.1.2.1.length : Int) + s.1.2.2 ≤ 15) then agX l s.1.1 s.1.2.1 ((s.1.2.1.length : Int) + s.1.2.2)
 else apV l s.1.1 s.1.2.1 ++ [69] ++ [if (s.1.2.1.length : Int) + s.1.2.2 < 1 then 45 else 43] ++ (if (dec (adX ((s.1.2.1.length : Int) + s.1.2.2))).length < 2 then [48] else []) ++ dec (adX ((s.1.2.1.length : Int) + s.1.2.2))
theorem bhX {l : Loc} {neg : Bool} (h : ds ≠ []) (hl : ds.length ≤ 300) : agX l neg ds 1 = apV l neg ds := by
 have hp := cI.2 h
 unfold agX apV qN
 rw [aN (show ¬ ((400 : Int) < 1 ∨ 400 < (ds.length : Int) - 1) by omega), aN (show ¬ (1 : Int) ≤ 0 by decide)]
 by_cases h1 : (ds.length : Int) ≤ 1
 ·rw [aO h1, aN (show ¬ (1 : Int) < (ds.length : Int) by omega), aU (show ds.length ≤ 1 by omega)]
  rw [show ((1 : Int) - (ds.length : Int)).toNat = 0 by omega]
  simp
 rw [aN h1, aO (show (1 : Int) < (ds.length : Int) by omega)]
 have hd : ds.drop 1 ≠ [] := fun q => by have := congrArg List.length q; rw [bS] at this; simp only [bL] at this; omega
 show (if true = true then _ ++ (ds.take 1 ++ (if ds.drop 1 = [] then [] else l.dc ++ ds.drop 1)) else []) = _
 rw [aO rfl, aN hd, bV]
theorem aeE (x n : Nat) : qE (adT x n).1.2.1 (adT x n).1.2.2 = true := by
 unfold adT
 split
 ·rfl
 unfold sigD
 split
 ·exact aiG x
 unfold cutD
 have hd := qQ (aiG x)
 exact amE (by split; exact aoP (hd.take _); exact hd.take _)
theorem mk_len (neg : Bool) (ds : List UInt8) (e : Int) : (mkN neg ds e).1.2.1.length ≤ ds.length := by
 have h : (acH ds).length ≤ ds.length := aZ (ahE _ _) (aoY _ _)
 unfold mkN
 split
 ·simp
 split
 ·exact h
 simp
theorem alZ (x n : Nat) : (adT x n).1.2.1.length ≤ n + 1 := by
 unfold adT
 split
 ·simp
 unfold sigD
 split
 ·rename_i h; exact Nat.le_succ_of_le h
 unfold cutD
 refine aZ (mk_len _ _ _) ?_
 split
 ·refine aZ (amL _) ?_
  rw [aQ]; omega
 rw [aQ]; omega

theorem auH (l : Loc) (hk : l.ok) (sz : AV) (x : Nat) (hx : x < 18446744073709551616) (H : Heap) : ACall Tryz.prog 43 [.int .u64 (x : Int), pL l sz] H (fun y H' => y = .str (bcX l (adT x 15)) ∧ H' = H) := by
 have hsr := aeE x 15
 have hsl := alZ x 15
 generalize hs : adT x 15 = s at *
 obtain ⟨⟨neg, ds, e⟩, er⟩ := s
 dsimp only at hsr hsl
 have hml := zW
 have hrl := aaY hsr
 have hdd := qQ hsr
 have hpd := bcD hsr
 have hwl := bhY (l := l) (neg := neg) (ds := ds) (p := (ds.length : Int) + e) (by omega) hk
 have hkk := hk
 obtain ⟨hk1, hk2, hk3, hk4, hk5⟩ := hkk
 have hel : (dec (adX ((ds.length : Int) + e))).length ≤ 10 := (ahR (by decide)).2 (by unfold adX; split <;> omega)
 have hmn : (apV l neg ds).length ≤ 200 := by
  unfold apV
  have a1 : (if neg = true then l.minus else []).length ≤ 10 := by split <;> first | omega | (simp; done)
  have a2 : (if (1 : Int) < (ds.length : Int) then l.dc ++ ds.drop 1 else []).length ≤ 110 := by split <;> simp only [aS, bS, bL] <;> omega
  simp only [aS, aQ]; omega
 have hzl : (if (dec (adX ((ds.length : Int) + e))).length < 2 then ([48] : List UInt8) else []).length ≤ 1 := by split <;> simp
 refine ACall.of_body Tryz.func43 rfl Tryz.ntmps43 Tryz.results43 rfl ?_
 refine .sr (.e rfl (zZ (tm rfl) (.inr ⟨_, rfl⟩)) (.p rfl (zA (zS rfl)) (.nr (.mv rfl rfl (.cl rfl Tryz.call106 (.cons (tm rfl) (.cons zE (.cons zE .nil))) (bdO x hx 15 (by decide) (by decide) _) ?_)))))
 rw [hs]
 unfold dT
 dsimp only
 refine .mv rfl rfl (.p rfl (zB (tm rfl) rfl) (.p rfl (zB (tm rfl) rfl) ?_))
 refine .al zr58 (fun b5 hb5 => ?_)
 refine .e0 (zG Z58 (tm rfl) (tm rfl) rfl rfl (.inr ⟨_, rfl⟩) (oS _ _ _) (lB rfl)) ?_
 try first | rw [sS] | rw [sU (by assumption)]
 refine .as rfl rfl (.ng ?_)
 refine AWP.frz (t := 5) rfl (hb5) ?_
 refine .seq (.sr (.mv rfl rfl (.p rfl (qA (tm rfl) zE) (.ng ?_))))
 refine AWP.cond (tm rfl) (fun hc16 => ?_) (fun hc16 => ?_)
 ·try simp only [aM, ne_eq] at hc16
  refine .sr (.p rfl (zA (zS rfl)) (.ng (.ret ?_)))
  refine Next.rt ?_
  refine Ret.go (.cons (.tmp _ _ rfl) .nil) _ (hRa _) ?_
  refine ⟨?_, rfl⟩
  unfold bcX
  dsimp only
  rw [aO (show er ≠ 0 by simpa using hc16)]; rfl
 try simp only [aL, ne_eq, cG] at hc16
 have her : er = 0 := by simpa using hc16
 subst her
 refine .skip ?_
 refine Next.go ?_
 refine .sr (.p rfl (zQ G58 Z58 (tm rfl) (lB rfl)) (.cl rfl Tryz.call107 (evs1 rfl) (ajF neg ds e hdd _) ?_))
 rw [hpd]
 refine .as rfl rfl (.ng (.seq ?_))
 refine AWP.seqTo 29 (.bool (decide (ds = []) || (decide (-4 ≤ ((ds.length : Int) + e)) && decide (((ds.length : Int) + e) ≤ 15)))) [3, 4, 5, 7] ?_ ?_
 ·-- region 5
  refine .region (.p rfl (zD U58 rfl Z9 (tm rfl)) (.p rfl (zH G9 (tm rfl)) (.p rfl (yM (tm rfl) (zS rfl)) (.mv rfl rfl ?_))))
  refine zL (t := 22) rfl (fun hg22 => ?_) (fun hg22 => ?_)
  ·have hh22 := hg22; try simp only [aM] at hh22
   refine .gn rfl rfl rfl (by assumption) (.gn rfl rfl rfl (by assumption) (.gn rfl rfl rfl (by assumption) ?_))
   refine AList.gdead rfl rfl rfl ?_
   refine AList.gdead rfl rfl rfl ?_
   refine .gn rfl rfl rfl (by assumption) (.p rfl (zO (tm rfl) (by assumption) zM) (.nil ?_))
   exact ⟨rfl, zY rfl (by (rw [show decide (ds = []) = _ from hg22]; rfl)) (zC rfl (zC rfl (zC rfl (zC rfl zU)))), rfl⟩
  have hh22 := hg22; try simp only [aL] at hh22
  refine .gp rfl rfl rfl (by assumption) (zJ (tm rfl)) (.gp rfl rfl rfl (by assumption) (yS (tm rfl) zE) (.gp rfl rfl rfl (by assumption) (zJ (tm rfl)) ?_))
  refine zL (t := 25) rfl (fun hg25 => ?_) (fun hg25 => ?_)
  ·have hh25 := hg25; try simp only [aM] at hh25
   refine .gp rfl rfl rfl (by assumption) (zJ (tm rfl)) (.gp rfl rfl rfl (by assumption) (abJ (tm rfl) zE) (.gp rfl rfl rfl (by assumption) (zO (tm rfl) (by assumption) (tm rfl)) (.p rfl (zN (tm rfl) (by assumption) (tm rfl)) (.nil ?_))))
   exact ⟨rfl, zY rfl (by (rw [show decide (ds = []) = _ from hg22, show decide (-4 ≤ ((ds.length : Int) + e)) = _ from hg25]; rfl)) (zC rfl (zC rfl (zC rfl (zC rfl zU)))), rfl⟩
  have hh25 := hg25; try simp only [aL, cA] at hh25
  refine .gn rfl rfl rfl (by assumption) (.gn rfl rfl rfl (by assumption) (.gp rfl rfl rfl (by assumption) (zN (tm rfl) (by assumption) zM) (.p rfl (zN (tm rfl) (by assumption) (tm rfl)) (.nil ?_))))
  exact ⟨rfl, zY rfl (by (rw [show decide (ds = []) = _ from hg22, show decide (-4 ≤ ((ds.length : Int) + e)) = _ from hg25]; rfl)) (zC rfl (zC rfl (zC rfl (zC rfl zU)))), rfl⟩
 refine AWP.sub [(29, _), (3, _), (4, _), (5, _), (7, _)] (zC rfl (zC rfl (zC rfl (zC rfl (zC rfl zU))))) ?_
 refine AWP.cond (tm rfl) (fun hc29 => ?_) (fun hc29 => ?_)
 ·try simp only [aK] at hc29
  simp only [cV, bK, aM] at hc29
  refine .sr (.p rfl (zQ G29 Z29 (tm rfl) (lB rfl)) (.p rfl (zQ G58 Z58 (tm rfl) (lB rfl)) (.cl rfl Tryz.call108 (.cons (tm rfl) (.cons (tm rfl) (.cons zM .nil))) (apH l hk sz neg ds e hsr _) (.as rfl rfl (.ng (.ret ?_))))))
  refine Next.rt ?_
  refine Ret.go (.cons (.tmp _ _ rfl) .nil) _ (hRa _) ?_
  refine ⟨?_, rfl⟩
  unfold bcX
  dsimp only
  rw [aN (show ¬ ((0 : Int) ≠ 0) by simp), aO hc29]; rfl
 try simp only [aK] at hc29
 simp only [cP, cB, aL] at hc29
 have hdn : ds ≠ [] := hc29.1
 have hdp := cI.2 hdn
 have hr1 : qE ds (1 - (ds.length : Int)) = true := by
  have h := hsr
  rw [anO hdn] at h ⊢
  unfold anP at h ⊢
  simp only [bK, aM] at h ⊢
  refine ⟨⟨⟨⟨⟨h.1.1.1.1.1, by omega⟩, by omega⟩, h.1.1.2⟩, h.1.2⟩, h.2⟩
 refine .skip ?_
 refine Next.go ?_
 refine .sr (.p rfl (zQ G29 Z29 (tm rfl) (lB rfl)) (.p rfl (zD U58 rfl Z4 (tm rfl)) (.p rfl (zH G4 (tm rfl)) (.p rfl (zD U58 rfl Z9 (tm rfl)) (.p rfl (zH G9 (tm rfl)) (.p rfl (zD U58 rfl Z9 (tm rfl)) (.p rfl (zH G9 (tm rfl)) (.p rfl (yQ U9 (tm rfl)) ?_))))))))
 refine .p rfl (yG zE (tm rfl) (by omega)) (.p rfl (yK zr58 pl58 (.cons (tm rfl) (.inl rfl) (.cons (tm rfl) (.inl rfl) (.cons (tm rfl) (.inl rfl) .nil))) rfl) (.cl rfl Tryz.call108 (.cons (tm rfl) (.cons (tm rfl) (.cons zM .nil))) (apH l hk sz neg ds (1 - (ds.length : Int)) hr1 _) ?_))
 rw [show (ds.length : Int) + (1 - (ds.length : Int)) = 1 by omega, bhX hdn (by omega)]
 refine .p rfl (yX (tm rfl) (zS rfl) (by rw [zW]; simp only [bE, bL]; omega)) (.as rfl rfl (.nr (.mv rfl rfl (.p rfl (yG (tm rfl) zE (by omega)) (.mv rfl rfl (.p rfl (yG zE (tm rfl) (by omega)) (.p rfl (aeS (tm rfl) (tm rfl)) (.cl rfl Tryz.call109 (evs1 rfl) (itoaZ _ (adX ((ds.length : Int) + e)) (by unfold adX; simp only [awK]; split <;> split <;> omega) (by unfold adX; split <;> omega) _) ?_))))))))
 refine .as rfl rfl (.ng ?_)
 refine AWP.seqToL [(8, .str (apV l neg ds ++ [69] ++ [if ((ds.length : Int) + e) < 1 then 45 else 43]))] [4, 9] ?_ ?_
 ·refine .sr (.mv rfl rfl (.p rfl (yN (tm rfl) zE) (.ng ?_)))
  refine AWP.cond (tm rfl) (fun hc52 => ?_) (fun hc52 => ?_)
  ·try simp only [aM] at hc52
   refine .region (.mv rfl rfl (.p rfl (yX (tm rfl) (zS rfl) (by rw [zW]; simp only [aS, bE, bL]; omega)) (.as rfl rfl (.nil ?_))))
   exact ⟨rfl, (zX rfl (by (rw [aO (by assumption)]; done)) (zC rfl (zC rfl zU))), rfl⟩
  try simp only [aL, bN] at hc52
  refine .region (.mv rfl rfl (.p rfl (yX (tm rfl) (zS rfl) (by rw [zW]; simp only [aS, bE, bL]; omega)) (.as rfl rfl (.nil ?_))))
  exact ⟨rfl, (zX rfl (by (rw [aN (by omega)]; done)) (zC rfl (zC rfl zU))), rfl⟩
 refine AWP.sub [(8, _), (4, _), (9, _)] (zC rfl (zC rfl (zC rfl zU))) ?_
 refine AWP.seqToL [(8, .str (apV l neg ds ++ [69] ++ [if ((ds.length : Int) + e) < 1 then 45 else 43] ++ (if (dec (adX ((ds.length : Int) + e))).length < 2 then ([48] : List UInt8) else [])))] [4, 9] ?_ ?_
 ·refine .sr (.mv rfl rfl (.p rfl (yQ U9 (tm rfl)) (.p rfl (yN (tm rfl) zE) (.ng ?_))))
  refine AWP.cond (tm rfl) (fun hc59 => ?_) (fun hc59 => ?_)
  ·try simp only [aM] at hc59
   refine .region (.mv rfl rfl (.p rfl (yX (tm rfl) (zS rfl) (by rw [zW]; simp only [aS, bE, bL]; omega)) (.as rfl rfl (.nil ?_))))
   exact ⟨rfl, (zX rfl (by (rw [aO (show (dec (adX ((ds.length : Int) + e))).length < 2 by omega)]; done)) (zC rfl (zC rfl zU))), rfl⟩
  try simp only [aL, bN] at hc59
  refine .skip ?_
  exact ⟨rfl, (zX rfl (by (rw [aN (show ¬ (dec (adX ((ds.length : Int) + e))).length < 2 by omega), cS]; done)) (zC rfl (zC rfl zU))), rfl⟩
 refine AWP.sub [(8, _), (4, _), (9, _)] (zC rfl (zC rfl (zC rfl zU))) ?_
 refine .sr (.mv rfl rfl (.mv rfl rfl (.p rfl (yX (tm rfl) (tm rfl) (by rw [zW]; simp only [aS, bE, bL]; omega)) (.as rfl rfl (.ng (.ret ?_))))))
 refine Ret.go (.cons (.tmp _ _ rfl) .nil) _ (hRa _) ?_
 refine ⟨?_, rfl⟩
 unfold bcX
 dsimp only
 rw [aN (show ¬ ((0 : Int) ≠ 0) by simp), aN (show ¬ (ds = [] ∨ (-4 ≤ ((ds.length : Int) + e) ∧ ((ds.length : Int) + e) ≤ 15)) by rintro (q | q); exact hdn q; omega)]; rfl

end
end Go.Proofs.YtmmgbnolccpjoaaGreatDoor
