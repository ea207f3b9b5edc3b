import Derived.Test.YtmmgbnolccpjoaaGreatDoorP2
import Derived.Test.YtmmgbnolccpjoaaGreatDoorN3
namespace Go.Proofs.YtmmgbnolccpjoaaGreatDoor
open Go Go.RowKit
variable {c i v : Nat} {more : Bool} {k : Int}
section
set_option maxRecDepth 100000

def aqJ (v i : Nat) : Nat := v / 4294967296 ^ ((zK v).length - i) % M2
theorem amW (v : Nat) : aqJ v 0 = 0 := by
 have h := ajZ (zP v) (aX (zK v).length)
 rw [fX, zT] at h
 unfold aqJ
 rw [Nat.sub_zero, ← h]; rfl
theorem bbJ (v : Nat) : aqJ v (zK v).length = v % M2 := by
 unfold aqJ
 rw [Nat.sub_self, dC, fN]
theorem biI (h : i < (zK v).length) : aqJ v (i + 1) = (aqJ v i * 4294967296 + (zK v).getD ((zK v).length - 1 - i) 0) % M2 := by
 have h1 := ajZ (zP v) (show (zK v).length - 1 - i ≤ (zK v).length by omega)
 have h2 := ajZ (zP v) (show (zK v).length - i ≤ (zK v).length by omega)
 rw [zT] at h1 h2
 have h3 : (zK v).drop ((zK v).length - 1 - i) = (zK v).getD ((zK v).length - 1 - i) 0 :: (zK v).drop ((zK v).length - i) := by
  rw [cN (show (zK v).length - 1 - i < (zK v).length by omega), aP, bF (show (zK v).length - 1 - i < (zK v).length by omega), show (zK v).length - 1 - i + 1 = (zK v).length - i by omega]
  rfl
 rw [h3, val, h2] at h1
 unfold aqJ
 rw [show (zK v).length - (i + 1) = (zK v).length - 1 - i by omega, ← h1]
 generalize v / 4294967296 ^ ((zK v).length - i) = q
 generalize (zK v).getD ((zK v).length - 1 - i) 0 = x
 unfold M2; omega
theorem auN (h : i < (zK v).length) : putRow (u2 (aqJ v i * 2 ^ 32 % M2)).cells 1 [.int .u64 (((aqJ v i * 2 ^ 32 % M2 % M1 ||| (zK v).getD ((zK v).length - 1 - i) 0 : Nat)) : Int)] = (u2 (aqJ v (i + 1))).cells := by
 obtain ⟨e1, e2⟩ := take_in (v := aqJ v i) (Limbs.getD (zP v) ((zK v).length - 1 - i))
 rw [biI h, e2]
 show putRow [.int .u64 (((aqJ v i * 2 ^ 32 % M2 / M1 : Nat)) : Int), _] 1 _ = _
 rw [e1]; rfl
theorem azU : ∀ (c v : Nat), (zK v).drop c = zK (v / 4294967296 ^ c)
 | 0, v => by rw [dK, dC, fN]
 | c + 1, v => by
  rcases aY v with h | h
  ·subst h; rw [Nat.zero_div, aaZ, List.drop_nil]
  rw [qV h, List.drop_succ_cons, azU c, bU, bO, bD]
theorem low_mod (h : c ≤ (zK v).length) : val ((zK v).take c) = v % 4294967296 ^ c := by
 have h1 := afF h
 have h2 := akM (zP v) h
 rw [zT] at h1
 conv => rhs; rw [h1]
 rw [dB, aW h2]
theorem atC (c : Nat) : 4294967296 ^ c = 2 ^ (32 * c) := by rw [show (4294967296 : Nat) = 2 ^ 32 by decide, ← dO]
theorem limbs4 (h : (zK v).length ≤ 4) : v < M2 := by
 have := afE (zP v)
 rw [zT] at this
 refine bM this ?_
 rw [atC, show M2 = 2 ^ 128 by decide +kernel]
 exact aT (by decide) (by omega)
theorem awF (h : (zK v).length = c + 4) : 55 ≤ yJ (v / 2 ^ (32 * c)) ∧ v / 2 ^ (32 * c) < M2 ∧ (zK (v / 2 ^ (32 * c))).length = 4 := by
 have e := azU c v
 rw [atC] at e
 have el : (zK (v / 2 ^ (32 * c))).length = 4 := by rw [← e, bS]; omega
 refine ⟨?_, limbs4 (by omega), el⟩
 have hp : 0 < v / 2 ^ (32 * c) := by
  rcases aY (v / 2 ^ (32 * c)) with h0 | h0
  ·rw [h0] at el; simp [aaZ] at el
  exact h0
 have := aiH hp
 omega

def biA (v b2 b3 : Nat) (H : Heap) : Nat → Env → Heap → Prop := fun k env H1 => ∃ i : Nat, i ≤ (zK v).length ∧ env = [(0, aaT v), (2, .ptr (some ⟨b2, 0, none⟩)), (3, .ptr (some ⟨b3, 0, none⟩)), (6, .int .i64 ((zK v).length : Int)), (7, .int .i64 (i : Int))] ∧ H1 = (H.set b2 (.box 149 [.int .u64 0, .int .u64 0])).set b3 (.box 149 (u2 (aqJ v i)).cells) ∧ k = (zK v).length - i

theorem axR (v : Nat) (hv : (zK v).length ≤ 1000000) (H : Heap) : ACall Tryz.prog 338 [aaT v] H (fun y H' => y = u2 (v % M2) ∧ H' = H) := by
 refine ACall.of_body Tryz.func338 rfl Tryz.ntmps338 Tryz.results338 rfl ?_
 iterate 2 refine AX ?_
 refine .al zr149 (fun b2 hb2 => ?_)
 iterate 4 refine AX ?_
 refine .al zr149 (fun b3 hb3 => ?_)
 have hn2_3 := Heap.ne_of (oS _ _ _) hb3
 iterate 11 refine AX ?_
 rw [show ([.int .u64 0, .int .u64 0] : List AV) = (u2 (aqJ v 0)).cells by rw [amW]; rfl]
 refine AWP.loopW (biA v b2 b3 H) ((zK v).length) ⟨0, Nat.zero_le _, rfl, by rw [amW]; rfl, rfl⟩ sX (hRa _) ?_
 rintro _ _ _ ⟨i, hi, rfl, rfl, rfl⟩
 iterate 6 refine AX ?_
 refine AWP.cx rfl (fun hc8 => ?_) (fun hc8 => ?_)
 ·have hlv : i < (zK v).length := by omega
  have hgx := Limbs.getD (zP v) ((zK v).length - 1 - i)
  have hlo : aqJ v i * 2 ^ 32 % M2 % M1 < 18446744073709551616 := aeV _
  iterate 13 refine AX ?_
  refine .cl rfl C187 (.cons (tm rfl) (.cons zE .nil)) (afR (aqJ v i) 32 (by decide) 32 rfl _) ?_
  iterate 3 refine AX ?_
  refine AWP.draw [(0, true), (2, true), (3, true), (4, true), (5, true), (6, true), (7, true), (8, true), (9, true), (10, true), (1, false), (11, true), (12, true), (13, false)] rfl (by decide +kernel) ?_
  refine .p rfl rfl (zV U149 rfl Z22 (tm rfl)) ?_
  iterate 6 refine AX ?_
  refine .p rfl rfl (yA ((zK v).length - 1 - i) U239 Z166 (tm rfl) (tm rfl) (by omega) (by omega)) ?_
  iterate 2 refine AX ?_
  refine .s rfl rfl (yE G22 (tm rfl) (oS _ _ _) rfl) ?_
  rintro _ _ ⟨rfl, hH⟩
  obtain rfl := hH.symm
  refine AX ?_
  refine .p rfl rfl (zV U149 rfl Z22 (tm rfl)) (.s0 rfl (zG Z22 (tm rfl) (tm rfl) rfl rfl (.inl rfl) (oS _ _ _) (lB rfl)) ?_)
  rintro _ _ ⟨rfl, hH⟩
  obtain rfl := hH.symm
  try first | rw [sS] | rw [sU (by assumption)]
  iterate 8 refine AX ?_
  refine Round.mk (J := biA v b2 b3 H) ⟨i + 1, by omega, rfl, rfl, rfl⟩ (zC rfl (zC rfl (zC rfl (zC rfl (zX rfl (by congr 1) zU))))) (by rw [← auN hlv]; exact hRa _) (by omega)
 obtain rfl : i = (zK v).length := by omega
 rw [bbJ]
 iterate 11 refine AX ?_
 refine AWP.dropb (fS hb3 _) ?_
 refine AWP.frz (t := 2) rfl (hb2) ?_
 iterate 2 refine AX ?_
 exact ⟨rfl, rfl⟩

def ahD (v : Nat) : Nat := (zK v).length - 4
def lowB (v : Nat) (more : Bool) : Bool := more || decide (v % 2 ^ (32 * ahD v) ≠ 0)
theorem bjG {neg : Bool} {e : Int} (he : -10000 ≤ e ∧ e ≤ 2000) : yB neg v e more = yB neg (v / 2 ^ (32 * ahD v)) (e + 32 * (ahD v : Int)) (lowB v more) := by
 rcases aY (ahD v) with h | h
 ·unfold lowB
  rw [h]
  simp [Nat.mod_one]
 have hl : (zK v).length = ahD v + 4 := by unfold ahD at *; omega
 have := anK (neg := neg) (n := v) (j := 32 * ahD v) (more := more) (awF hl).1 he.1 he.2
 rw [this]
 unfold lowB
 congr 1 <;> omega
theorem cut_lt (v : Nat) : v / 2 ^ (32 * ahD v) < M2 ∧ (zK (v / 2 ^ (32 * ahD v))).length ≤ 4 := by
 rcases aY (ahD v) with h | h
 ·rw [h, cW, dC, fN]
  have : (zK v).length ≤ 4 := by unfold ahD at h; omega
  exact ⟨limbs4 this, this⟩
 have hl : (zK v).length = ahD v + 4 := by unfold ahD at *; omega
 have := awF hl
 exact ⟨this.2.1, by omega⟩
theorem awD {c x : Nat} (hx : x = (zK v).getD i 0) : (more || decide (val ((zK v).take i) ≠ 0) || decide (((0 : Nat) : Int) < (x : Int))) = (more || decide (val ((zK v).take (i + 1)) ≠ 0)) := by
 rw [qC, ← hx, Bool.or_assoc]
 congr 1
 rw [← Bool.decide_or]
 refine bA.2 ?_
 have hp : 0 < 4294967296 ^ i := bI (by decide)
 generalize 4294967296 ^ i = q at *
 generalize val ((zK v).take i) = y
 rcases aY x with h | h
 ·subst h; simp
 have h2 : 0 < q * x := fO hp h
 constructor
 ·intro _; omega
 intro _; exact .inr (by omega)
theorem bgH {l : List Nat} (h : i < c) : (l.take c).getD i 0 = l.getD i 0 := by
 rw [aP, eH, aO h, aP]
theorem low_all : (more || decide (val ((zK v).take (ahD v)) ≠ 0)) = lowB v more := by
 unfold lowB
 rw [low_mod (show ahD v ≤ (zK v).length by unfold ahD; omega), atC]

def ayR (neg more : Bool) (e : Int) (v : Nat) (H : Heap) : Nat → Env → Heap → Prop := fun k env H1 => ∃ i : Nat, i ≤ ahD v ∧ env = [(0, .bool neg), (1, aaT v), (2, .int .i64 e), (3, .bool (more || decide (val ((zK v).take i) ≠ 0))), (8, .int .u64 ((0 : Nat) : Int)), (9, .int .i64 (((zK v).length : Int) - 4)), (23, .slice 1 (U .u32 ((zK v).take (ahD v))) .shared), (24, .int .i64 (((zK v).take (ahD v)).length : Int)), (25, .int .i64 (i : Int))] ∧ H = H1 ∧ k = ahD v - i

def bjH (neg more : Bool) (e : Int) (v b : Nat) (H : Heap) : Nat → Env → Heap → Prop := fun k env H1 => ∃ i : Nat, i ≤ (zK v).length ∧ env = [(0, .bool neg), (1, aaT v), (2, .int .i64 e), (3, .bool more), (12, .ptr (some ⟨b, 0, none⟩)), (45, .int .i64 ((zK v).length : Int)), (46, .int .i64 (i : Int))] ∧ H1 = H.set b (.box 149 (u2 (aqJ v i)).cells) ∧ k = (zK v).length - i

theorem apJ (neg : Bool) (xs : List Nat) (tl : Tail) (hx : Limbs xs) (hl : xs.length ≤ 1000) (e : Int) (he : -10000 ≤ e ∧ e ≤ 2000) (more : Bool) (H : Heap) : ACall Tryz.prog 270 [.bool neg, .slice 1 (U .u32 xs) tl, .int .i64 e, .bool more] H (fun y H' => y = .int .u64 ((yB neg (val xs) e more : Nat) : Int) ∧ H' = H) := by
 have hr := bjG (neg := neg) (v := val xs) (e := e) (more := more) he
 have hcl := cut_lt (val xs)
 have hvl : (zK (val xs)).length ≤ xs.length := by rw [← abF hx]; exact aaW xs
 have hcd : ahD (val xs) = (zK (val xs)).length - 4 := rfl
 have hdr := azU (ahD (val xs)) (val xs)
 rw [atC] at hdr
 have hla := low_all (v := val xs) (more := more)
 have hT := akY xs tl hx (by omega)
 generalize val xs = v0 at *
 refine ACall.of_body Tryz.func270 rfl Tryz.ntmps270 Tryz.results270 rfl ?_
 iterate 2 refine AX ?_
 refine .p rfl (zA (zI 0)) ?_
 iterate 5 refine AX ?_
 refine .cl rfl C278 (evs1 rfl) (hT _) ?_
 iterate 3 refine AX ?_
 refine AWP.seqToL [(1, aaT (v0 / 2 ^ (32 * ahD v0))), (2, .int .i64 (e + 32 * (ahD v0 : Int))), (3, .bool (lowB v0 more))] [0, 8] ?_ ?_
 ·iterate 14 refine AX ?_
  refine AWP.cx rfl (fun hc20 => ?_) (fun hc20 => ?_)
  ·iterate 5 refine AX ?_
   refine .p rfl (acT (ahD v0) U239 Z166 (tm rfl) (tm rfl) (by omega) (by omega)) ?_
   iterate 5 refine AX ?_
   refine AWP.loopW (ayR neg more e v0 H) (ahD v0) ⟨0, Nat.zero_le _, rfl, rfl, rfl⟩ (zC rfl (zC rfl (zC rfl (zX rfl (by simp [val]) sX)))) (hRa _) ?_
   rintro _ _ _ ⟨i, hi, rfl, rfl, rfl⟩
   have htl : ((zK v0).take (ahD v0)).length = ahD v0 := by rw [aQ]; omega
   have hgq : ((zK v0).take (ahD v0)).getD i 0 < 18446744073709551616 := cX (Limbs.getD ((zP v0).take _) i) (by decide)
   iterate 6 refine AX ?_
   refine AWP.cx rfl (fun hc26 => ?_) (fun hc26 => ?_)
   ·have hgt := bgH (l := zK v0) (c := ahD v0) (i := i) (by omega)
    iterate 6 refine AX ?_
    refine .p rfl (yA (i) U239 Z166 (tm rfl) (tm rfl) (by omega) (by omega)) ?_
    iterate 7 refine AX ?_
    refine zL (t := 30) rfl (fun hg30 => ?_) (fun hg30 => ?_)
    ·have hh30 := hg30; try simp only [ne_eq] at hh30
     iterate 12 refine AX ?_
     refine Round.mk (J := ayR neg more e v0 H) ⟨i + 1, by omega, rfl, rfl, rfl⟩ (zC rfl (zC rfl (zC rfl (zX rfl (by rw [← awD (c := 0) hgt, hg30]; rfl) sX)))) (hRa _) (by omega)
    have hh30 := hg30; try simp only [ne_eq] at hh30
    refine AX ?_
    refine .gp rfl rfl rfl (by assumption) (yC (tm rfl) (zI 0)) ?_
    iterate 10 refine AX ?_
    refine Round.mk (J := ayR neg more e v0 H) ⟨i + 1, by omega, rfl, rfl, rfl⟩ (zC rfl (zC rfl (zC rfl (zX rfl (by rw [← awD (c := 0) hgt, hg30]; rfl) sX)))) (hRa _) (by omega)
   obtain rfl : i = ahD v0 := by omega
   iterate 12 refine AX ?_
   refine AWP.cond_true (tm rfl) (by exact bH (by omega)) ?_
   iterate 11 refine AX ?_
   refine .p rfl (ajN (ahD v0) U239 Z166 (tm rfl) (tm rfl) (by omega) (by omega)) ?_
   iterate 2 refine AX ?_
   exact ⟨rfl, (zX rfl (by (rw [hdr]; rfl)) (zX rfl (by (congr 1; omega)) (zX rfl (by (rw [← hla]; done)) sX))), rfl⟩
  have hc0 : ahD v0 = 0 := by omega
  refine AX ?_
  exact ⟨rfl, (zX rfl (by (rw [hc0, cW, dC, fN]; done)) (zX rfl (by (congr 1; omega)) (zX rfl (by (rw [← hla, hc0]; simp [val])) sX))), rfl⟩
 refine AWP.sub [(1, _), (2, _), (3, _), (0, _), (8, _)] sX ?_
 have he2 : -10000 ≤ e + 32 * (ahD v0 : Int) ∧ e + 32 * (ahD v0 : Int) ≤ 100000 := by omega
 rw [hr]
 generalize e + 32 * (ahD v0 : Int) = e2 at he2 ⊢
 generalize lowB v0 more = more2
 obtain ⟨hv, hv4⟩ := hcl
 clear hla hdr hr
 generalize v0 / 2 ^ (32 * ahD v0) = v at hv hv4 ⊢
 iterate 2 refine AX ?_
 refine .al zr149 (fun b12 hb12 => ?_)
 iterate 11 refine AX ?_
 rw [show ([.int .u64 0, .int .u64 0] : List AV) = (u2 (aqJ v 0)).cells by rw [amW]; rfl]
 refine AWP.loopW (bjH neg more2 e2 v b12 H) ((zK v).length) ⟨0, Nat.zero_le _, rfl, rfl, rfl⟩ sX (hRa _) ?_
 rintro _ _ _ ⟨i, hi, rfl, rfl, rfl⟩
 iterate 6 refine AX ?_
 refine AWP.cx rfl (fun hc47 => ?_) (fun hc47 => ?_)
 ·have hlv : i < (zK v).length := by omega
  have hgx := Limbs.getD (zP v) ((zK v).length - 1 - i)
  have hlo : aqJ v i * 2 ^ 32 % M2 % M1 < 18446744073709551616 := aeV _
  iterate 13 refine AX ?_
  refine .cl rfl C187 (.cons (tm rfl) (.cons zE .nil)) (afR (aqJ v i) 32 (by decide) 32 rfl _) ?_
  iterate 3 refine AX ?_
  refine AWP.draw [(0, true), (2, true), (3, true), (4, true), (5, true), (6, true), (7, true), (8, true), (9, true), (10, true), (1, false), (11, true), (12, true), (13, false)] rfl (by decide +kernel) ?_
  refine .p rfl rfl (zV U149 rfl Z22 (tm rfl)) ?_
  iterate 6 refine AX ?_
  refine .p rfl rfl (yA ((zK v).length - 1 - i) U239 Z166 (tm rfl) (tm rfl) (by omega) (by omega)) ?_
  iterate 2 refine AX ?_
  refine .s rfl rfl (yE G22 (tm rfl) (oS _ _ _) rfl) ?_
  rintro _ _ ⟨rfl, hH⟩
  obtain rfl := hH.symm
  refine AX ?_
  refine .p rfl rfl (zV U149 rfl Z22 (tm rfl)) (.s0 rfl (zG Z22 (tm rfl) (tm rfl) rfl rfl (.inl rfl) (oS _ _ _) (lB rfl)) ?_)
  rintro _ _ ⟨rfl, hH⟩
  obtain rfl := hH.symm
  try first | rw [sS] | rw [sU (by assumption)]
  iterate 8 refine AX ?_
  refine Round.mk (J := bjH neg more2 e2 v b12 H) ⟨i + 1, by omega, rfl, rfl, rfl⟩ sX (by rw [← auN hlv]; exact hRa _) (by omega)
 obtain rfl : i = (zK v).length := by omega
 rw [bbJ, aW hv]
 iterate 11 refine AX ?_
 refine .cl rfl C122 (.cons (tm rfl) (evs3 rfl rfl rfl)) (acP neg v hv e2 (by constructor <;> omega) more2 _) ?_
 iterate 3 refine AX ?_
 refine AWP.dropb (hb12) ?_
 iterate 2 refine AX ?_
 refine ⟨?_, rfl⟩
 rfl

end
section
open Go Go.RowKit
set_option maxRecDepth 100000

theorem zr184 : ZR 184 [.int .u64 0, .int .u64 0, .int .i64 0, .bool false] := ZRi Tryz.zeroValue184
theorem pl184 : PL 184 [(0, 2), (2, 1), (3, 1)] := PLi U184

def six (w : Nat) : List Nat := [w % M1 % 2 ^ IntKind.u32.bits, w % M1 / 2 ^ 32 % 2 ^ IntKind.u32.bits, w / M1 % M1 % 2 ^ IntKind.u32.bits, w / M1 % M1 / 2 ^ 32 % 2 ^ IntKind.u32.bits, w / M2 % 2 ^ IntKind.u32.bits, w / M2 / 2 ^ 32 % 2 ^ IntKind.u32.bits]
theorem six_val {w : Nat} (h : w < M3) : val (six w) = w := by
 have h3 := bcT h
 unfold six val
 simp only [val, IntKind.bits]
 have e1 := cD w M1
 have e2 := cD (w / M1) M1
 rw [bdD] at e2
 have ha := aeV w
 generalize w % M1 = a at *
 generalize hb : w / M1 = b at *
 generalize w / M2 = c at *
 have hbm : b % M1 < M1 := aeV b
 generalize b % M1 = d at *
 unfold M1 at *
 omega
theorem biW (w : Nat) : Limbs (six w) := by
 have k : ∀ x : Nat, x % 2 ^ IntKind.u32.bits < 4294967296 := fun x => bQ _ (by decide)
 exact Limbs.mk (k _) (Limbs.mk (k _) (Limbs.mk (k _) (Limbs.mk (k _) (Limbs.mk (k _) (Limbs.mk (k _) Limbs.nil)))))
theorem round6 (w : Nat) (h : w < M3) (e : Int) (he : -10000 ≤ e ∧ e ≤ 2000) (H : Heap) : ACall Tryz.prog 270 [.bool false, .slice 1 (U .u32 (six w)) .full, .int .i64 e, .bool false] H (fun y H' => y = .int .u64 ((yB false w e false : Nat) : Int) ∧ H' = H) := by
 have q := apJ false (six w) .full (biW w) (by show 6 ≤ 1000; decide) e he false H
 rw [six_val h] at q; exact q
theorem roundB (n : Nat) (h : n < BIG) (e : Int) (he : -10000 ≤ e ∧ e ≤ 2000) (more : Bool) (H : Heap) : ACall Tryz.prog 270 [.bool false, aaT n, .int .i64 e, .bool more] H (fun y H' => y = .int .u64 ((yB false n e more : Nat) : Int) ∧ H' = H) := by
 have q := apJ false (zK n) .shared (zP n) (by have := yU h; omega) e he more H
 rw [zT] at q; exact q

theorem arK (w : Nat) (hw : w < M3) (e : Int) (he : -10000 ≤ e ∧ e ≤ 2000) (H : Heap) : ACall Tryz.prog 266 [u3 w, .int .i64 e] H (fun y H' => y = .int .u64 ((yB false w e false : Nat) : Int) ∧ H' = H) := by
 have hh := bcT hw
 have hm := aeV (w / M1)
 have hl := aeV w
 have q1 : w % M1 < 18446744073709551616 := hl
 have q2 : w / M1 % M1 < 18446744073709551616 := hm
 have q3 : w / M2 < 18446744073709551616 := hh
 refine ACall.of_body Tryz.func266 rfl Tryz.ntmps266 Tryz.results266 rfl ?_
 refine .seq (.region (.e rfl (zZ (tm rfl) (.inr ⟨_, rfl⟩)) (.p rfl (zA (zI 0)) (.nil ?_))))
 refine Next.go ?_
 refine .seq (.region (.p rfl (zD U247 rfl Z22 (tm rfl)) (.p rfl (zH G22 (tm rfl)) (.p rfl (adF U22 U166 rfl (tm rfl)) (.p rfl (zD U247 rfl Z22 (tm rfl)) (.p rfl (zH G22 (tm rfl)) (.p rfl (yF (tm rfl) (zI 32) (by assumption)) (.p rfl (adF U22 U166 rfl (tm rfl)) ?_))))))))
 refine .p rfl (zD U247 rfl Z22 (tm rfl)) (.p rfl (zH G22 (tm rfl)) (.p rfl (adF U22 U166 rfl (tm rfl)) (.p rfl (zD U247 rfl Z22 (tm rfl)) (.p rfl (zH G22 (tm rfl)) (.p rfl (yF (tm rfl) (zI 32) (by assumption)) (.p rfl (adF U22 U166 rfl (tm rfl)) (.p rfl (zD U247 rfl Z22 (tm rfl)) (.p rfl (zH G22 (tm rfl)) ?_))))))))
 refine .p rfl (adF U22 U166 rfl (tm rfl)) (.p rfl (zD U247 rfl Z22 (tm rfl)) ?_)
 refine AX ?_
 refine .p rfl (yF (tm rfl) (zI 32) (by assumption)) ?_
 refine AX ?_
 refine .e rfl (bbP U239 Z166 V166 rfl rfl rfl (.cons (tm rfl) (.inl rfl) (.cons (tm rfl) (.inl rfl) (.cons (tm rfl) (.inl rfl) (.cons (tm rfl) (.inl rfl) (.cons (tm rfl) (.inl rfl) (.cons (tm rfl) (.inl rfl) .nil)))))) (agY ⟨rfl, rfl⟩ (agY ⟨rfl, rfl⟩ (agY ⟨rfl, rfl⟩ (agY ⟨rfl, rfl⟩ (agY ⟨rfl, rfl⟩ (agY ⟨rfl, rfl⟩ rowq_n))))))) ?_
 iterate 7 refine AX ?_
 refine .cl rfl Tryz.call270 (.cons zM (.cons (tm rfl) (.cons (tm rfl) (.cons zM .nil)))) (round6 w hw e he _) ?_
 iterate 5 refine AX ?_
 exact ⟨rfl, rfl⟩

theorem adZ {j n : Nat} (hj : j ≤ 1500) (hn : n ≤ 3000) : 10 ^ j * 2 ^ n < BIG ∧ 10 ^ j < BIG ∧ 2 ^ n < BIG := by
 obtain ⟨K, hK, hB⟩ : ∃ K, K = 8192 ∧ BIG = 2 ^ K := ⟨32 * 256, rfl, apO _ rfl⟩
 have h10 : 10 ^ j ≤ 2 ^ (10 * j / 3 + 1) := by
  have h3 : ∀ q r : Nat, r < 3 → 10 ^ (3 * q + r) ≤ 2 ^ (10 * q + (10 * r / 3 + 1)) := by
   intro q r hr
   rw [bB, bB 2, dO, dO 2]
   refine dZ (Nat.pow_le_pow_left (by decide) q) ?_
   rcases (by omega : r = 0 ∨ r = 1 ∨ r = 2) with rfl | rfl | rfl <;> decide
  have := h3 (j / 3) (j % 3) (bQ _ (by decide))
  rw [show 3 * (j / 3) + j % 3 = j by omega] at this
  refine aZ this (aT (by decide) (by omega))
 have h4 : 10 ^ j * 2 ^ n ≤ 2 ^ (10 * j / 3 + 1 + n) := by rw [bB]; exact aV _ h10
 rw [hB]
 refine ⟨aR h4 (dI (by decide) ?_), aR h10 (dI (by decide) ?_), dI (by decide) ?_⟩ <;> (clear h4 h10 hB; omega)
theorem aiK (j : Nat) : yJ (10 ^ j) ≤ 10 * j / 3 + 2 := by
 rw [qB]
 have h3 : ∀ q r : Nat, r < 3 → 10 ^ (3 * q + r) < 2 ^ (10 * q + (10 * r / 3 + 2)) := by
  intro q r hr
  rw [bB, bB 2, dO, dO 2]
  refine Nat.mul_lt_mul_of_le_of_lt (Nat.pow_le_pow_left (by decide) q) ?_ (bI (by decide))
  rcases (by omega : r = 0 ∨ r = 1 ∨ r = 2) with rfl | rfl | rfl <;> decide
 have := h3 (j / 3) (j % 3) (bQ _ (by decide))
 rw [show 3 * (j / 3) + j % 3 = j by omega] at this
 exact bM this (aT (by decide) (by omega))
theorem bcI : ∀ m : Nat, ¬ 5 ∣ 2 ^ m
 | 0 => by decide
 | m + 1 => fun h => by
  rw [bO] at h
  have := bcI m
  omega
def akQ (k : Int) : AV := .agg [.int .u64 ((ahB k / M1 : Nat) : Int), .int .u64 ((ahB k % M1 : Nat) : Int), .int .i64 (apU k), .bool (axM k)]

theorem pow10Z (j : Nat) (q : Int) (hq : q = (j : Int)) (hj : j ≤ 1500) (H : Heap) : ACall Tryz.prog 268 [.int .i64 10, .int .i64 q] H (fun y H' => y = .tuple [aaT (10 ^ j), .int .i64 0] ∧ H' = H) := by
 subst hq
 exact apK 10 j (by decide) (by decide) (by omega) (adZ (n := 0) hj (by decide)).2.1 H
theorem oneB (s : Nat) (q : Int) (hq : q = (s : Int)) (hs : s ≤ 3000) (H : Heap) : ACall Tryz.prog 272 [.slice 1 [.int .u32 1] .full, .int .i64 q] H (fun y H' => y = .tuple [aaT (2 ^ s), .int .i64 0] ∧ H' = H) := by
 subst hq
 have h := axH [1] .full (Limbs.mk (by decide) Limbs.nil) (by decide) s (by rw [show val [1] = 1 from rfl, cL]; exact (adZ (j := 0) (by decide) hs).2.2) (by omega) H
 rw [show val [1] = 1 from rfl, cL] at h
 exact h
theorem bcB (h : k < 0) : ahB k = 2 ^ (yJ (10 ^ (-k).toNat) + 127) / 10 ^ (-k).toNat ∧ apU k = -((yJ (10 ^ (-k).toNat) : Int) + 127) ∧ axM k = false := by
 refine ⟨?_, ?_, ?_⟩
 ·unfold ahB; rw [aO h]
 ·unfold apU; rw [aO h]; omega
 unfold axM; rw [aO h]
theorem arE (h : ¬ k < 0) (hb : yJ (10 ^ k.toNat) ≤ 128) : ahB k = 10 ^ k.toNat * 2 ^ (128 - yJ (10 ^ k.toNat)) ∧ apU k = (yJ (10 ^ k.toNat) : Int) - 128 ∧ axM k = true := by
 refine ⟨?_, ?_, ?_⟩
 ·unfold ahB; rw [aN h, aO hb]
 ·unfold apU; rw [aN h]
 unfold axM; rw [aN h]; exact bH (.inl hb)
theorem bcC (h : ¬ k < 0) (hb : ¬ yJ (10 ^ k.toNat) ≤ 128) : ahB k = 10 ^ k.toNat / 2 ^ (yJ (10 ^ k.toNat) - 128) ∧ apU k = (yJ (10 ^ k.toNat) : Int) - 128 ∧ axM k = decide (10 ^ k.toNat % 2 ^ (yJ (10 ^ k.toNat) - 128) = 0) := by
 refine ⟨?_, ?_, ?_⟩
 ·unfold ahB; rw [aN h, aN hb]
 ·unfold apU; rw [aN h]
 unfold axM; rw [aN h]; exact bA.2 ⟨fun q => q.resolve_left hb, .inr⟩
theorem atD (k : Int) : ahB k < M2 := by
 have e128 : M2 = 2 ^ 128 := by decide +kernel
 rw [e128]
 rcases Int.lt_or_le k 0 with h | h
 ·rw [(bcB h).1]
  have ht := acF (-k).toNat
  have hlo := apG ht
  have hb := adQ ht
  rw [bJ ht]
  rcases Nat.lt_or_eq_of_le hlo with hl | hl
  ·have e : 2 ^ (yJ (10 ^ (-k).toNat) + 127) = 2 ^ 128 * 2 ^ (yJ (10 ^ (-k).toNat) - 1) := by rw [← bB]; congr 1; omega
   rw [e]
   exact fB hl (bI (by decide))
  -- a power of ten that is a power of two
  exfalso
  have hj : 0 < (-k).toNat := by omega
  have h5 : 10 ^ (-k).toNat = 2 ^ (-k).toNat * 5 ^ (-k).toNat := by rw [← Nat.mul_pow]
  have hodd : 5 ∣ 2 ^ (yJ (10 ^ (-k).toNat) - 1) := by
   rw [hl, h5]
   exact Nat.dvd_trans (Nat.dvd_trans ⟨5 ^ ((-k).toNat - 1), by rw [← Nat.pow_succ', show ((-k).toNat - 1).succ = (-k).toNat by omega]⟩ (Nat.dvd_mul_left _ _)) (Nat.dvd_refl _)
  exact bcI _ hodd
 rcases bZ 128 (yJ (10 ^ k.toNat)) with hl | hl
 ·rw [(bcC (by omega) (by omega)).1, bJ (bI (by decide)), ← bB]
  refine bM (afM _) (aT (by decide) (by omega))
 rw [(arE (by omega) hl).1]
 refine bM (Nat.mul_lt_mul_of_pos_right (afM _) (bI (by decide))) ?_
 rw [← bB]
 exact aT (by decide) (by omega)

theorem shrZ (a s : Nat) (q : Int) (hq : q = (s : Int)) (h : a < BIG) (hs : s < 1000000000) (H : Heap) : ACall Tryz.prog 276 [aaT a, .int .i64 q] H (fun y H' => y = .tuple [aaT (a / 2 ^ s), .bool (decide (a % 2 ^ s ≠ 0)), .int .i64 0] ∧ H' = H) := by
 subst hq; exact shrB a s h hs H
theorem shlQ (a s : Nat) (q : Int) (hq : q = (s : Int)) (h : a * 2 ^ s < BIG) (hs : s < 1000000000) (H : Heap) : ACall Tryz.prog 272 [aaT a, .int .i64 q] H (fun y H' => y = .tuple [aaT (a * 2 ^ s), .int .i64 0] ∧ H' = H) := by
 subst hq; exact shlB a s h hs H
theorem powP_BIG (k : Int) : ahB k < BIG := cX (atD k) (by
  obtain ⟨K, hK, hB⟩ : ∃ K, K = 8192 ∧ BIG = 2 ^ K := ⟨32 * 256, rfl, apO _ rfl⟩
  rw [hB, show M2 = 2 ^ 128 by decide +kernel]
  exact dI (by decide) (by omega))
theorem valueP (k : Int) (H : Heap) : ACall Tryz.prog 338 [aaT (ahB k)] H (fun y H' => y = u2 (ahB k) ∧ H' = H) := by
 have h := axR (ahB k) (by have := yU (powP_BIG k); omega) H
 rw [aW (atD k)] at h; exact h

theorem bfV (k : Int) (hk : -400 ≤ k ∧ k ≤ 400) (H : Heap) : ACall Tryz.prog 308 [.int .i64 k] H (fun y H' => y = akQ k ∧ H' = H) := by
 have hbl := aiK k.natAbs
 have hp0 := acF k.natAbs
 have htB := (adZ (j := k.natAbs) (n := 0) (by omega) (by decide)).2.1
 refine ACall.of_body Tryz.func308 rfl Tryz.ntmps308 Tryz.results308 rfl ?_
 iterate 2 refine AX ?_
 refine .al zr184 (fun b2 hb2 => ?_)
 iterate 8 refine AX ?_
 refine .cl rfl C268 (.cons zE (evs1 rfl)) (pow10Z k.natAbs _ (by simp only [awK]; split <;> omega) (by omega) _) ?_
 iterate 14 refine AX ?_
 refine AWP.cx rfl (fun hc23 => ?_) (fun hc23 => ?_)
 ·have hP := bcB (k := k) (by omega)
  rw [show (-k).toNat = k.natAbs by omega] at hP
  iterate 3 refine AX ?_
  refine .cl rfl C271 (evs1 rfl) (lenB _ htB _) ?_
  iterate 6 refine AX ?_
  refine .e rfl (aaF U239 Z166 V166 rfl (zI 1) (.inl rfl) ⟨rfl, rfl⟩) ?_
  refine AX ?_
  refine .cl rfl C272 (evs2 rfl rfl) (oneB (yJ (10 ^ k.natAbs) + 127) _ (by omega) (by omega) _) ?_
  iterate 11 refine AX ?_
  refine .cl rfl Tryz.call273 (evs2 rfl rfl) (alV _ _ (adZ (j := 0) (by decide) (by omega)).2.2 hp0 htB _) ?_
  iterate 10 refine AX ?_
  rw [← hP.1]
  iterate 2 refine AX ?_
  refine .cl rfl Tryz.call338 (evs1 rfl) (valueP k _) ?_
  iterate 2 refine AX ?_
  refine .p rfl (yK zr184 pl184 (.cons (tm rfl) (.inr ⟨_, rfl⟩) (.cons (tm rfl) (.inl rfl) (.cons zM (.inl rfl) .nil))) rfl) ?_
  iterate 3 refine AX ?_
  refine AWP.frz (t := 2) rfl (hb2) ?_
  iterate 3 refine AX ?_
  refine ⟨?_, rfl⟩
  unfold akQ
  rw [hP.2.1, hP.2.2]
  rfl
 have hkt : k.toNat = k.natAbs := by omega
 iterate 5 refine AX ?_
 refine .cl rfl C271 (evs1 rfl) (lenB _ htB _) ?_
 iterate 11 refine AX ?_
 refine AWP.cx rfl (fun hc49 => ?_) (fun hc49 => ?_)
 ·have hP := arE (k := k) (by omega) (by rw [hkt]; omega)
  rw [hkt] at hP
  iterate 5 refine AX ?_
  refine .cl rfl C272 (evs2 rfl rfl) (shlQ _ (128 - yJ (10 ^ k.natAbs)) _ (by omega) (adZ (by omega) (by omega)).1 (by omega) _) ?_
  iterate 7 refine AX ?_
  rw [← hP.1]
  iterate 2 refine AX ?_
  refine .cl rfl Tryz.call338 (evs1 rfl) (valueP k _) ?_
  refine AX ?_
  refine .p rfl (yK zr184 pl184 (.cons (tm rfl) (.inr ⟨_, rfl⟩) (.cons (tm rfl) (.inl rfl) (.cons zM (.inl rfl) .nil))) rfl) ?_
  iterate 3 refine AX ?_
  refine AWP.frz (t := 2) rfl (hb2) ?_
  iterate 3 refine AX ?_
  refine ⟨?_, rfl⟩
  unfold akQ
  rw [hP.2.1, hP.2.2]
  rfl
 have hP := bcC (k := k) (by omega) (by rw [hkt]; omega)
 rw [hkt] at hP
 iterate 6 refine AX ?_
 refine .cl rfl Tryz.call276 (evs2 rfl rfl) (shrZ _ (yJ (10 ^ k.natAbs) - 128) _ (by omega) htB (by omega) _) ?_
 iterate 10 refine AX ?_
 rw [← hP.1]
 iterate 2 refine AX ?_
 refine .cl rfl Tryz.call338 (evs1 rfl) (valueP k _) ?_
 iterate 3 refine AX ?_
 refine .p rfl (yK zr184 pl184 (.cons (tm rfl) (.inr ⟨_, rfl⟩) (.cons (tm rfl) (.inl rfl) (.cons (tm rfl) (.inl rfl) .nil))) rfl) ?_
 iterate 3 refine AX ?_
 refine AWP.frz (t := 2) rfl (hb2) ?_
 iterate 2 refine AX ?_
 refine ⟨?_, rfl⟩
 unfold akQ
 rw [hP.2.1, hP.2.2]
 have e : (!decide (10 ^ k.natAbs % 2 ^ (yJ (10 ^ k.natAbs) - 128) ≠ 0)) = decide (10 ^ k.natAbs % 2 ^ (yJ (10 ^ k.natAbs) - 128) = 0) := by simp
 rw [← e]
 rfl

end
end Go.Proofs.YtmmgbnolccpjoaaGreatDoor
