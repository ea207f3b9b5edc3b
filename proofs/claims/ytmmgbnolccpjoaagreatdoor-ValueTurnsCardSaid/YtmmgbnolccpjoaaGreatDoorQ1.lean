import Derived.Test.YtmmgbnolccpjoaaGreatDoorP2
import Derived.Test.YtmmgbnolccpjoaaGreatDoorN3
namespace Go.Proofs.YtmmgbnolccpjoaaGreatDoor
open Go.Proofs.Tryz
open Go Go.RowKit
variable {c i v : Nat} {more : Bool} {k : Int}
section
set_option maxRecDepth 100000

def atR (v i : Nat) : Nat := v / 4294967296 ^ ((zE v).length - i) % M2
theorem apN (v : Nat) : atR v 0 = 0 := by
 have h := amC (zF v) (aT (zE v).length)
 rw [eZ, zL] at h
 unfold atR
 rw [gB, ← h]; rfl
theorem bgP (v : Nat) : atR v (zE v).length = v % M2 := by
 unfold atR
 rw [Nat.sub_self, dN, fY]
theorem boG (h : i < (zE v).length) : atR v (i + 1) = (atR v i * 4294967296 + (zE v).getD ((zE v).length - 1 - i) 0) % M2 := by
 have h1 := amC (zF v) (show (zE v).length - 1 - i ≤ (zE v).length by omega)
 have h2 := amC (zF v) (show (zE v).length - i ≤ (zE v).length by omega)
 rw [zL] at h1 h2
 have h3 : (zE v).drop ((zE v).length - 1 - i) = (zE v).getD ((zE v).length - 1 - i) 0 :: (zE v).drop ((zE v).length - i) := by
  rw [cA (show (zE v).length - 1 - i < (zE v).length by omega), aR, bA (show (zE v).length - 1 - i < (zE v).length by omega), show (zE v).length - 1 - i + 1 = (zE v).length - i by omega]
  rfl
 rw [h3, val, h2] at h1
 unfold atR
 rw [show (zE v).length - (i + 1) = (zE v).length - 1 - i by omega, ← h1]
 generalize v / 4294967296 ^ ((zE v).length - i) = q
 generalize (zE v).getD ((zE v).length - 1 - i) 0 = x
 unfold M2; omega
theorem ayS (h : i < (zE v).length) : putRow (u2 (atR v i * 2 ^ 32 % M2)).cells 1 [.int .u64 (((atR v i * 2 ^ 32 % M2 % M1 ||| (zE v).getD ((zE v).length - 1 - i) 0 : Nat)) : Int)] = (u2 (atR v (i + 1))).cells := by
 obtain ⟨e1, e2⟩ := cbO (v := atR v i) (Limbs.getD (zF v) ((zE v).length - 1 - i))
 rw [boG h, e2]
 show putRow [.int .u64 (((atR v i * 2 ^ 32 % M2 / M1 : Nat)) : Int), _] 1 _ = _
 rw [e1]; rfl
theorem beX : ∀ (c v : Nat), (zE v).drop c = zE (v / 4294967296 ^ c)
 | 0, v => by rw [cT, dN, fY]
 | c + 1, v => by
  rcases bF v with h | h
  ·subst h; rw [Nat.zero_div, aaR, List.drop_nil]
  rw [qJ h, eM, beX c, bY, bR, bL]
theorem ccZ (h : c ≤ (zE v).length) : val ((zE v).take c) = v % 4294967296 ^ c := by
 have h1 := afX h
 have h2 := amT (zF v) h
 rw [zL] at h1
 conv => rhs; rw [h1]
 rw [dL, bB h2]
theorem axA (c : Nat) : 4294967296 ^ c = 2 ^ (32 * c) := by rw [show (4294967296 : Nat) = 2 ^ 32 by decide, ← dW]
theorem limbs4 (h : (zE v).length ≤ 4) : v < M2 := by
 have := afW (zF v)
 rw [zL] at this
 refine bQ this ?_
 rw [axA, show M2 = 2 ^ 128 by decide +kernel]
 exact aZ aC aA
theorem baU (h : (zE v).length = c + 4) : 55 ≤ yG (v / 2 ^ (32 * c)) ∧ v / 2 ^ (32 * c) < M2 ∧ (zE (v / 2 ^ (32 * c))).length = 4 := by
 have e := beX c v
 rw [axA] at e
 have el : (zE (v / 2 ^ (32 * c))).length = 4 := by rw [← e, aW]; omega
 refine ⟨?_, limbs4 aA, el⟩
 have hp : 0 < v / 2 ^ (32 * c) := by
  rcases bF (v / 2 ^ (32 * c)) with h0 | h0
  ·rw [h0] at el; simp [aaR] at el
  exact h0
 have := ajT hp
 omega

def boA (v b2 b3 : Nat) (H : Heap) : Nat → Env → Heap → Prop := fun k env H1 => ∃ i : Nat, i ≤ (zE v).length ∧ env = [(0, aaN v), (2, .ptr (some ⟨b2, 0, none⟩)), (3, .ptr (some ⟨b3, 0, none⟩)), (6, .int .i64 ((zE v).length : Int)), (7, .int .i64 (i : Int))] ∧ H1 = (H.set b2 (.box 149 [.int .u64 0, .int .u64 0])).set b3 (.box 149 (u2 (atR v i)).cells) ∧ k = (zE v).length - i

theorem bcU (v : Nat) (hv : (zE v).length ≤ 1000000) (H : Heap) : ACall prog 338 [aaN v] H (fun y H' => y = u2 (v % M2) ∧ H' = H) := by
 refine ACall.of_body func338 rfl ntmps338 results338 rfl ?_
 iterate 2 refine AX ?_
 refine .al zr149 (fun b2 hb2 => ?_)
 iterate 4 refine AX ?_
 refine .al zr149 (fun b3 hb3 => ?_)
 have hn2_3 := Heap.ne_of (oS _ _ _) hb3
 iterate 11 refine AX ?_
 rw [show ([.int .u64 0, .int .u64 0] : List AV) = (u2 (atR v 0)).cells by rw [apN]; rfl]
 refine AWP.loopW (boA v b2 b3 H) ((zE v).length) ⟨0, Nat.zero_le _, rfl, by rw [apN]; rfl, rfl⟩ sX (hRa _) ?_
 rintro _ _ _ ⟨i, hi, rfl, rfl, rfl⟩
 iterate 6 refine AX ?_
 refine AWP.cx rfl (fun hc8 => ?_) (fun hc8 => ?_)
 ·have hlv : i < (zE v).length := by omega
  have hgx := Limbs.getD (zF v) ((zE v).length - 1 - i)
  have hlo : atR v i * 2 ^ 32 % M2 % M1 < 18446744073709551616 := afN _
  iterate 13 refine AX ?_
  refine .cl rfl C187 (.cons (tm rfl) (.cons zH .nil)) (agO (atR v i) 32 aC 32 rfl _) ?_
  iterate 3 refine AX ?_
  refine AWP.draw [(0, true), (2, true), (3, true), (4, true), (5, true), (6, true), (7, true), (8, true), (9, true), (10, true), (1, false), (11, true), (12, true), (13, false)] rfl aE ?_
  refine .p rfl rfl (zC U149 rfl Z22 (tm rfl)) ?_
  iterate 6 refine AX ?_
  refine .p rfl rfl (zU ((zE v).length - 1 - i) U239 Z166 (tm rfl) (tm rfl) aA aA) ?_
  iterate 2 refine AX ?_
  refine .s rfl rfl (yD G22 (tm rfl) (oS _ _ _) rfl) ?_
  rintro _ _ ⟨rfl, hH⟩
  obtain rfl := hH.symm
  refine AX ?_
  refine .p rfl rfl (zC U149 rfl Z22 (tm rfl)) (.s0 rfl (zP Z22 (tm rfl) (tm rfl) rfl rfl (.inl rfl) (oS _ _ _) (lB rfl)) ?_)
  rintro _ _ ⟨rfl, hH⟩
  obtain rfl := hH.symm
  try first | rw [sS] | rw [sU aB]
  iterate 8 refine AX ?_
  refine Round.mk (J := boA v b2 b3 H) ⟨i + 1, by omega, rfl, rfl, rfl⟩ (zJ rfl (zJ rfl (zJ rfl (zJ rfl (zN rfl (by congr 1) yJ))))) (by rw [← ayS hlv]; exact hRa _) aA
 obtain rfl : i = (zE v).length := by omega
 rw [bgP]
 iterate 11 refine AX ?_
 refine AWP.dropb (fS hb3 _) ?_
 refine AWP.frz (t := 2) rfl (hb2) ?_
 iterate 2 refine AX ?_
 exact ⟨rfl, rfl⟩

def aiE (v : Nat) : Nat := (zE v).length - 4
def cdC (v : Nat) (more : Bool) : Bool := more || decide (v % 2 ^ (32 * aiE v) ≠ 0)
theorem bpL {neg : Bool} {e : Int} (he : -10000 ≤ e ∧ e ≤ 2000) : zX neg v e more = zX neg (v / 2 ^ (32 * aiE v)) (e + 32 * (aiE v : Int)) (cdC v more) := by
 rcases bF (aiE v) with h | h
 ·unfold cdC
  rw [h]
  simp [Nat.mod_one]
 have hl : (zE v).length = aiE v + 4 := by unfold aiE at *; omega
 have := aqF (neg := neg) (n := v) (j := 32 * aiE v) (more := more) (baU hl).1 he.1 he.2
 rw [this]
 unfold cdC
 congr 1 <;> omega
theorem cgP (v : Nat) : v / 2 ^ (32 * aiE v) < M2 ∧ (zE (v / 2 ^ (32 * aiE v))).length ≤ 4 := by
 rcases bF (aiE v) with h | h
 ·rw [h, dG, dN, fY]
  have : (zE v).length ≤ 4 := by unfold aiE at h; omega
  exact ⟨limbs4 this, this⟩
 have hl : (zE v).length = aiE v + 4 := by unfold aiE at *; omega
 have := baU hl
 exact ⟨this.2.1, by omega⟩
theorem baP {c x : Nat} (hx : x = (zE v).getD i 0) : (more || decide (val ((zE v).take i) ≠ 0) || decide (((0 : Nat) : Int) < (x : Int))) = (more || decide (val ((zE v).take (i + 1)) ≠ 0)) := by
 rw [yS, ← hx, Bool.or_assoc]
 congr 1
 rw [← Bool.decide_or]
 refine aY.2 ?_
 have hp : 0 < 4294967296 ^ i := bN aC
 generalize 4294967296 ^ i = q at *
 generalize val ((zE v).take i) = y
 rcases bF x with h | h
 ·subst h; simp
 have h2 : 0 < q * x := fZ hp h
 constructor
 ·intro _; omega
 intro _; exact .inr aA
theorem bmD {l : List Nat} (h : i < c) : (l.take c).getD i 0 = l.getD i 0 := by
 rw [aR, eQ, aN h, aR]
theorem cdB : (more || decide (val ((zE v).take (aiE v)) ≠ 0)) = cdC v more := by
 unfold cdC
 rw [ccZ (show aiE v ≤ (zE v).length by unfold aiE; omega), axA]

def bdT (neg more : Bool) (e : Int) (v : Nat) (H : Heap) : Nat → Env → Heap → Prop := fun k env H1 => ∃ i : Nat, i ≤ aiE v ∧ env = [(0, .bool neg), (1, aaN v), (2, .int .i64 e), (3, .bool (more || decide (val ((zE v).take i) ≠ 0))), (8, .int .u64 ((0 : Nat) : Int)), (9, .int .i64 (((zE v).length : Int) - 4)), (23, .slice 1 (U .u32 ((zE v).take (aiE v))) .shared), (24, .int .i64 (((zE v).take (aiE v)).length : Int)), (25, .int .i64 (i : Int))] ∧ H = H1 ∧ k = aiE v - i

def bpM (neg more : Bool) (e : Int) (v b : Nat) (H : Heap) : Nat → Env → Heap → Prop := fun k env H1 => ∃ i : Nat, i ≤ (zE v).length ∧ env = [(0, .bool neg), (1, aaN v), (2, .int .i64 e), (3, .bool more), (12, .ptr (some ⟨b, 0, none⟩)), (45, .int .i64 ((zE v).length : Int)), (46, .int .i64 (i : Int))] ∧ H1 = H.set b (.box 149 (u2 (atR v i)).cells) ∧ k = (zE v).length - i

theorem asN (neg : Bool) (xs : List Nat) (tl : Tail) (hx : Limbs xs) (hl : xs.length ≤ 1000) (e : Int) (he : -10000 ≤ e ∧ e ≤ 2000) (more : Bool) (H : Heap) : ACall prog 270 [.bool neg, .slice 1 (U .u32 xs) tl, .int .i64 e, .bool more] H (fun y H' => y = .int .u64 ((zX neg (val xs) e more : Nat) : Int) ∧ H' = H) := by
 have hr := bpL (neg := neg) (v := val xs) (e := e) (more := more) he
 have hcl := cgP (val xs)
 have hvl : (zE (val xs)).length ≤ xs.length := by rw [← abC hx]; exact aaO xs
 have hcd : aiE (val xs) = (zE (val xs)).length - 4 := rfl
 have hdr := beX (aiE (val xs)) (val xs)
 rw [axA] at hdr
 have hla := cdB (v := val xs) (more := more)
 have hT := anL xs tl hx aA
 generalize val xs = v0 at *
 refine ACall.of_body func270 rfl ntmps270 results270 rfl ?_
 iterate 2 refine AX ?_
 refine .p rfl (zG (zI 0)) ?_
 iterate 5 refine AX ?_
 refine .cl rfl C278 (evs1 rfl) (hT _) ?_
 iterate 3 refine AX ?_
 refine AWP.seqToL [(1, aaN (v0 / 2 ^ (32 * aiE v0))), (2, .int .i64 (e + 32 * (aiE v0 : Int))), (3, .bool (cdC v0 more))] [0, 8] ?_ ?_
 ·iterate 14 refine AX ?_
  refine AWP.cx rfl (fun hc20 => ?_) (fun hc20 => ?_)
  ·iterate 5 refine AX ?_
   refine .p rfl (adJ (aiE v0) U239 Z166 (tm rfl) (tm rfl) aA aA) ?_
   iterate 5 refine AX ?_
   refine AWP.loopW (bdT neg more e v0 H) (aiE v0) ⟨0, Nat.zero_le _, rfl, rfl, rfl⟩ (zJ rfl (zJ rfl (zJ rfl (zN rfl (by simp [val]) sX)))) (hRa _) ?_
   rintro _ _ _ ⟨i, hi, rfl, rfl, rfl⟩
   have htl : ((zE v0).take (aiE v0)).length = aiE v0 := by rw [aS]; omega
   have hgq : ((zE v0).take (aiE v0)).getD i 0 < 18446744073709551616 := dI (Limbs.getD ((zF v0).take _) i) aC
   iterate 6 refine AX ?_
   refine AWP.cx rfl (fun hc26 => ?_) (fun hc26 => ?_)
   ·have hgt := bmD (l := zE v0) (c := aiE v0) (i := i) aA
    iterate 6 refine AX ?_
    refine .p rfl (zU (i) U239 Z166 (tm rfl) (tm rfl) aA aA) ?_
    iterate 7 refine AX ?_
    refine zD (t := 30) rfl (fun hg30 => ?_) (fun hg30 => ?_)
    ·have hh30 := hg30; try simp only [ne_eq] at hh30
     iterate 12 refine AX ?_
     refine Round.mk (J := bdT neg more e v0 H) ⟨i + 1, by omega, rfl, rfl, rfl⟩ (zJ rfl (zJ rfl (zJ rfl (zN rfl (by rw [← baP (c := 0) hgt, hg30]; rfl) sX)))) (hRa _) aA
    have hh30 := hg30; try simp only [ne_eq] at hh30
    refine AX ?_
    refine .gp rfl rfl rfl aB (qW (tm rfl) (zI 0)) ?_
    iterate 10 refine AX ?_
    refine Round.mk (J := bdT neg more e v0 H) ⟨i + 1, by omega, rfl, rfl, rfl⟩ (zJ rfl (zJ rfl (zJ rfl (zN rfl (by rw [← baP (c := 0) hgt, hg30]; rfl) sX)))) (hRa _) aA
   obtain rfl : i = aiE v0 := by omega
   iterate 12 refine AX ?_
   refine AWP.cond_true (tm rfl) (by exact bG aA) ?_
   iterate 11 refine AX ?_
   refine .p rfl (alN (aiE v0) U239 Z166 (tm rfl) (tm rfl) aA aA) ?_
   iterate 2 refine AX ?_
   exact ⟨rfl, (zN rfl (by (rw [hdr]; rfl)) (zN rfl (by (congr 1; omega)) (zN rfl (by (rw [← hla]; done)) sX))), rfl⟩
  have hc0 : aiE v0 = 0 := by omega
  refine AX ?_
  exact ⟨rfl, (zN rfl (by (rw [hc0, dG, dN, fY]; done)) (zN rfl (by (congr 1; omega)) (zN rfl (by (rw [← hla, hc0]; simp [val])) sX))), rfl⟩
 refine AWP.sub [(1, _), (2, _), (3, _), (0, _), (8, _)] sX ?_
 have he2 : -10000 ≤ e + 32 * (aiE v0 : Int) ∧ e + 32 * (aiE v0 : Int) ≤ 100000 := by omega
 rw [hr]
 generalize e + 32 * (aiE v0 : Int) = e2 at he2 ⊢
 generalize cdC v0 more = more2
 obtain ⟨hv, hv4⟩ := hcl
 clear hla hdr hr
 generalize v0 / 2 ^ (32 * aiE v0) = v at hv hv4 ⊢
 iterate 2 refine AX ?_
 refine .al zr149 (fun b12 hb12 => ?_)
 iterate 11 refine AX ?_
 rw [show ([.int .u64 0, .int .u64 0] : List AV) = (u2 (atR v 0)).cells by rw [apN]; rfl]
 refine AWP.loopW (bpM neg more2 e2 v b12 H) ((zE v).length) ⟨0, Nat.zero_le _, rfl, rfl, rfl⟩ sX (hRa _) ?_
 rintro _ _ _ ⟨i, hi, rfl, rfl, rfl⟩
 iterate 6 refine AX ?_
 refine AWP.cx rfl (fun hc47 => ?_) (fun hc47 => ?_)
 ·have hlv : i < (zE v).length := by omega
  have hgx := Limbs.getD (zF v) ((zE v).length - 1 - i)
  have hlo : atR v i * 2 ^ 32 % M2 % M1 < 18446744073709551616 := afN _
  iterate 13 refine AX ?_
  refine .cl rfl C187 (.cons (tm rfl) (.cons zH .nil)) (agO (atR v i) 32 aC 32 rfl _) ?_
  iterate 3 refine AX ?_
  refine AWP.draw [(0, true), (2, true), (3, true), (4, true), (5, true), (6, true), (7, true), (8, true), (9, true), (10, true), (1, false), (11, true), (12, true), (13, false)] rfl aE ?_
  refine .p rfl rfl (zC U149 rfl Z22 (tm rfl)) ?_
  iterate 6 refine AX ?_
  refine .p rfl rfl (zU ((zE v).length - 1 - i) U239 Z166 (tm rfl) (tm rfl) aA aA) ?_
  iterate 2 refine AX ?_
  refine .s rfl rfl (yD G22 (tm rfl) (oS _ _ _) rfl) ?_
  rintro _ _ ⟨rfl, hH⟩
  obtain rfl := hH.symm
  refine AX ?_
  refine .p rfl rfl (zC U149 rfl Z22 (tm rfl)) (.s0 rfl (zP Z22 (tm rfl) (tm rfl) rfl rfl (.inl rfl) (oS _ _ _) (lB rfl)) ?_)
  rintro _ _ ⟨rfl, hH⟩
  obtain rfl := hH.symm
  try first | rw [sS] | rw [sU aB]
  iterate 8 refine AX ?_
  refine Round.mk (J := bpM neg more2 e2 v b12 H) ⟨i + 1, by omega, rfl, rfl, rfl⟩ sX (by rw [← ayS hlv]; exact hRa _) aA
 obtain rfl : i = (zE v).length := by omega
 rw [bgP, bB hv]
 iterate 11 refine AX ?_
 refine .cl rfl C122 (.cons (tm rfl) (evs3 rfl rfl rfl)) (adE neg v hv e2 (by constructor <;> omega) more2 _) ?_
 iterate 3 refine AX ?_
 refine AWP.dropb (hb12) ?_
 iterate 2 refine AX ?_
 refine ⟨?_, rfl⟩
 rfl

end
section
open Go Go.RowKit
set_option maxRecDepth 100000

theorem zr184 : ZR 184 [.int .u64 0, .int .u64 0, .int .i64 0, .bool false] := ZRi zeroValue184
theorem pl184 : PL 184 [(0, 2), (2, 1), (3, 1)] := PLi U184

def six (w : Nat) : List Nat := [w % M1 % 2 ^ IntKind.u32.bits, w % M1 / 2 ^ 32 % 2 ^ IntKind.u32.bits, w / M1 % M1 % 2 ^ IntKind.u32.bits, w / M1 % M1 / 2 ^ 32 % 2 ^ IntKind.u32.bits, w / M2 % 2 ^ IntKind.u32.bits, w / M2 / 2 ^ 32 % 2 ^ IntKind.u32.bits]
theorem cbU {w : Nat} (h : w < M3) : val (six w) = w := by
 have h3 := biL h
 unfold six val
 simp only [val, IntKind.bits]
 have e1 := cJ w M1
 have e2 := cJ (w / M1) M1
 rw [biU] at e2
 have ha := afN w
 generalize w % M1 = a at *
 generalize hb : w / M1 = b at *
 generalize w / M2 = c at *
 have hbm : b % M1 < M1 := afN b
 generalize b % M1 = d at *
 unfold M1 at *
 omega
theorem boX (w : Nat) : Limbs (six w) := by
 have k : ∀ x : Nat, x % 2 ^ IntKind.u32.bits < 4294967296 := fun x => bT _ aC
 exact Limbs.mk (k _) (Limbs.mk (k _) (Limbs.mk (k _) (Limbs.mk (k _) (Limbs.mk (k _) (Limbs.mk (k _) Limbs.nil)))))
theorem round6 (w : Nat) (h : w < M3) (e : Int) (he : -10000 ≤ e ∧ e ≤ 2000) : Fn 270 [.bool false, .slice 1 (U .u32 (six w)) .full, .int .i64 e, .bool false] (.int .u64 ((zX false w e false : Nat) : Int)) := by
 intro H
 have q := asN false (six w) .full (boX w) (by show 6 ≤ 1000; decide) e he false H
 rw [cbU h] at q; exact q
theorem roundB (n : Nat) (h : n < BIG) (e : Int) (he : -10000 ≤ e ∧ e ≤ 2000) (more : Bool) : Fn 270 [.bool false, aaN n, .int .i64 e, .bool more] (.int .u64 ((zX false n e more : Nat) : Int)) := by
 intro H
 have q := asN false (zE n) .shared (zF n) (by have := yK h; omega) e he more H
 rw [zL] at q; exact q

theorem auV (w : Nat) (hw : w < M3) (e : Int) (he : -10000 ≤ e ∧ e ≤ 2000) (H : Heap) : ACall prog 266 [u3 w, .int .i64 e] H (fun y H' => y = .int .u64 ((zX false w e false : Nat) : Int) ∧ H' = H) := by
 have hh := biL hw
 have hm := afN (w / M1)
 have hl := afN w
 have q1 : w % M1 < 18446744073709551616 := hl
 have q2 : w / M1 % M1 < 18446744073709551616 := hm
 have q3 : w / M2 < 18446744073709551616 := hh
 refine ACall.of_body func266 rfl ntmps266 results266 rfl ?_
 refine .seq (.region (.e rfl (qG (tm rfl) (.inr ⟨_, rfl⟩)) (.p rfl (zG (zI 0)) (.nil ?_))))
 refine Next.go ?_
 refine .seq (.region (.p rfl (zA U247 rfl Z22 (tm rfl)) (.p rfl (zY G22 (tm rfl)) (.p rfl (aeV U22 U166 rfl (tm rfl)) (.p rfl (zA U247 rfl Z22 (tm rfl)) (.p rfl (zY G22 (tm rfl)) (.p rfl (yQ (tm rfl) (zI 32) aB) (.p rfl (aeV U22 U166 rfl (tm rfl)) ?_))))))))
 refine .p rfl (zA U247 rfl Z22 (tm rfl)) (.p rfl (zY G22 (tm rfl)) (.p rfl (aeV U22 U166 rfl (tm rfl)) (.p rfl (zA U247 rfl Z22 (tm rfl)) (.p rfl (zY G22 (tm rfl)) (.p rfl (yQ (tm rfl) (zI 32) aB) (.p rfl (aeV U22 U166 rfl (tm rfl)) (.p rfl (zA U247 rfl Z22 (tm rfl)) (.p rfl (zY G22 (tm rfl)) ?_))))))))
 refine .p rfl (aeV U22 U166 rfl (tm rfl)) (.p rfl (zA U247 rfl Z22 (tm rfl)) ?_)
 refine AX ?_
 refine .p rfl (yQ (tm rfl) (zI 32) aB) ?_
 refine AX ?_
 refine .e rfl (bgV U239 Z166 V166 rfl rfl rfl (.cons (tm rfl) (.inl rfl) (.cons (tm rfl) (.inl rfl) (.cons (tm rfl) (.inl rfl) (.cons (tm rfl) (.inl rfl) (.cons (tm rfl) (.inl rfl) (.cons (tm rfl) (.inl rfl) .nil)))))) (ahZ ⟨rfl, rfl⟩ (ahZ ⟨rfl, rfl⟩ (ahZ ⟨rfl, rfl⟩ (ahZ ⟨rfl, rfl⟩ (ahZ ⟨rfl, rfl⟩ (ahZ ⟨rfl, rfl⟩ bzV))))))) ?_
 iterate 7 refine AX ?_
 refine .cl rfl call270 (.cons yH (.cons (tm rfl) (.cons (tm rfl) (.cons yH .nil)))) (round6 w hw e he _) ?_
 iterate 5 refine AX ?_
 exact ⟨rfl, rfl⟩

theorem aeP {j n : Nat} (hj : j ≤ 1500) (hn : n ≤ 3000) : 10 ^ j * 2 ^ n < BIG ∧ 10 ^ j < BIG ∧ 2 ^ n < BIG := by
 obtain ⟨K, hK, hB⟩ : ∃ K, K = 8192 ∧ BIG = 2 ^ K := ⟨32 * 256, rfl, asT _ rfl⟩
 have h10 : 10 ^ j ≤ 2 ^ (10 * j / 3 + 1) := by
  have h3 : ∀ q r : Nat, r < 3 → 10 ^ (3 * q + r) ≤ 2 ^ (10 * q + (10 * r / 3 + 1)) := by
   intro q r hr
   rw [bI, bI 2, dW, dW 2]
   refine eE (Nat.pow_le_pow_left aC q) ?_
   rcases (by omega : r = 0 ∨ r = 1 ∨ r = 2) with rfl | rfl | rfl <;> decide
  have := h3 (j / 3) (j % 3) (bT _ aC)
  rw [show 3 * (j / 3) + j % 3 = j by omega] at this
  refine bE this (aZ aC aA)
 have h4 : 10 ^ j * 2 ^ n ≤ 2 ^ (10 * j / 3 + 1 + n) := by rw [bI]; exact bC _ h10
 rw [hB]
 refine ⟨aV h4 (dU aC ?_), aV h10 (dU aC ?_), dU aC ?_⟩ <;> (clear h4 h10 hB; omega)
theorem ajY (j : Nat) : yG (10 ^ j) ≤ 10 * j / 3 + 2 := by
 rw [yP]
 have h3 : ∀ q r : Nat, r < 3 → 10 ^ (3 * q + r) < 2 ^ (10 * q + (10 * r / 3 + 2)) := by
  intro q r hr
  rw [bI, bI 2, dW, dW 2]
  refine Nat.mul_lt_mul_of_le_of_lt (Nat.pow_le_pow_left aC q) ?_ (bN aC)
  rcases (by omega : r = 0 ∨ r = 1 ∨ r = 2) with rfl | rfl | rfl <;> decide
 have := h3 (j / 3) (j % 3) (bT _ aC)
 rw [show 3 * (j / 3) + j % 3 = j by omega] at this
 exact bQ this (aZ aC aA)
theorem bhZ : ∀ m : Nat, ¬ 5 ∣ 2 ^ m
 | 0 => by decide
 | m + 1 => fun h => by
  rw [bR] at h
  have := bhZ m
  omega
def anA (k : Int) : AV := .agg [.int .u64 ((aiC k / M1 : Nat) : Int), .int .u64 ((aiC k % M1 : Nat) : Int), .int .i64 (atB k), .bool (bcL k)]

theorem pow10Z (j : Nat) (q : Int) (hq : q = (j : Int)) (hj : j ≤ 1500) : Fn 268 [.int .i64 10, .int .i64 q] (.tuple [aaN (10 ^ j), .int .i64 0]) := by
 intro H
 subst hq
 exact asO 10 j aC aC aA (aeP (n := 0) hj aC).2.1 H
theorem oneB (s : Nat) (q : Int) (hq : q = (s : Int)) (hs : s ≤ 3000) : Fn 272 [.slice 1 [.int .u32 1] .full, .int .i64 q] (.tuple [aaN (2 ^ s), .int .i64 0]) := by
 intro H
 subst hq
 have h := bcF [1] .full (Limbs.mk aC Limbs.nil) aC s (by rw [show val [1] = 1 from rfl, cP]; exact (aeP (j := 0) aC hs).2.2) aA H
 rw [show val [1] = 1 from rfl, cP] at h
 exact h
theorem bhQ (h : k < 0) : aiC k = 2 ^ (yG (10 ^ (-k).toNat) + 127) / 10 ^ (-k).toNat ∧ atB k = -((yG (10 ^ (-k).toNat) : Int) + 127) ∧ bcL k = false := by
 refine ⟨?_, ?_, ?_⟩
 ·unfold aiC; rw [aN h]
 ·unfold atB; rw [aN h]; omega
 unfold bcL; rw [aN h]
theorem auO (h : ¬ k < 0) (hb : yG (10 ^ k.toNat) ≤ 128) : aiC k = 10 ^ k.toNat * 2 ^ (128 - yG (10 ^ k.toNat)) ∧ atB k = (yG (10 ^ k.toNat) : Int) - 128 ∧ bcL k = true := by
 refine ⟨?_, ?_, ?_⟩
 ·unfold aiC; rw [aL h, aN hb]
 ·unfold atB; rw [aL h]
 unfold bcL; rw [aL h]; exact bG (.inl hb)
theorem bhR (h : ¬ k < 0) (hb : ¬ yG (10 ^ k.toNat) ≤ 128) : aiC k = 10 ^ k.toNat / 2 ^ (yG (10 ^ k.toNat) - 128) ∧ atB k = (yG (10 ^ k.toNat) : Int) - 128 ∧ bcL k = decide (10 ^ k.toNat % 2 ^ (yG (10 ^ k.toNat) - 128) = 0) := by
 refine ⟨?_, ?_, ?_⟩
 ·unfold aiC; rw [aL h, aL hb]
 ·unfold atB; rw [aL h]
 unfold bcL; rw [aL h]; exact aY.2 ⟨fun q => q.resolve_left hb, .inr⟩
theorem axB (k : Int) : aiC k < M2 := by
 have e128 : M2 = 2 ^ 128 := by decide +kernel
 rw [e128]
 rcases Int.lt_or_le k 0 with h | h
 ·rw [(bhQ h).1]
  have ht := acL (-k).toNat
  have hlo := asJ ht
  have hb := aeE ht
  rw [bO ht]
  rcases Nat.lt_or_eq_of_le hlo with hl | hl
  ·have e : 2 ^ (yG (10 ^ (-k).toNat) + 127) = 2 ^ 128 * 2 ^ (yG (10 ^ (-k).toNat) - 1) := by rw [← bI]; congr 1; omega
   rw [e]
   exact fJ hl (bN aC)
  -- a power of ten that is a power of two
  exfalso
  have hj : 0 < (-k).toNat := by omega
  have h5 : 10 ^ (-k).toNat = 2 ^ (-k).toNat * 5 ^ (-k).toNat := by rw [← Nat.mul_pow]
  have hodd : 5 ∣ 2 ^ (yG (10 ^ (-k).toNat) - 1) := by
   rw [hl, h5]
   exact Nat.dvd_trans (Nat.dvd_trans ⟨5 ^ ((-k).toNat - 1), by rw [← Nat.pow_succ', show ((-k).toNat - 1).succ = (-k).toNat by omega]⟩ (Nat.dvd_mul_left _ _)) (Nat.dvd_refl _)
  exact bhZ _ hodd
 rcases cD 128 (yG (10 ^ k.toNat)) with hl | hl
 ·rw [(bhR aA aA).1, bO (bN aC), ← bI]
  refine bQ (agD _) (aZ aC aA)
 rw [(auO aA hl).1]
 refine bQ (Nat.mul_lt_mul_of_pos_right (agD _) (bN aC)) ?_
 rw [← bI]
 exact aZ aC aA

theorem shrZ (a s : Nat) (q : Int) (hq : q = (s : Int)) (h : a < BIG) (hs : s < 1000000000) : Fn 276 [aaN a, .int .i64 q] (.tuple [aaN (a / 2 ^ s), .bool (decide (a % 2 ^ s ≠ 0)), .int .i64 0]) := by
 intro H
 subst hq; exact shrB a s h hs H
theorem shlQ (a s : Nat) (q : Int) (hq : q = (s : Int)) (h : a * 2 ^ s < BIG) (hs : s < 1000000000) : Fn 272 [aaN a, .int .i64 q] (.tuple [aaN (a * 2 ^ s), .int .i64 0]) := by
 intro H
 subst hq; exact shlB a s h hs H
theorem bwB (k : Int) : aiC k < BIG := dI (axB k) (by
  obtain ⟨K, hK, hB⟩ : ∃ K, K = 8192 ∧ BIG = 2 ^ K := ⟨32 * 256, rfl, asT _ rfl⟩
  rw [hB, show M2 = 2 ^ 128 by decide +kernel]
  exact dU aC aA)
theorem valueP (k : Int) : Fn 338 [aaN (aiC k)] (u2 (aiC k)) := by
 intro H
 have h := bcU (aiC k) (by have := yK (bwB k); omega) H
 rw [bB (axB k)] at h; exact h

theorem blP (k : Int) (hk : -400 ≤ k ∧ k ≤ 400) : Fn 308 [.int .i64 k] (anA k) := by
 intro H
 have hbl := ajY k.natAbs
 have hp0 := acL k.natAbs
 have htB := (aeP (j := k.natAbs) (n := 0) aA aC).2.1
 refine .of_body func308 rfl ntmps308 results308 rfl ?_
 iterate 2 refine AX ?_
 refine .al zr184 (fun b2 hb2 => ?_)
 iterate 8 refine AX ?_
 refine .cl rfl C268 (.cons zH (evs1 rfl)) (pow10Z k.natAbs _ (by simp only [baZ]; split <;> omega) aA _) ?_
 iterate 14 refine AX ?_
 refine .cx rfl (fun hc23 => ?_) (fun hc23 => ?_)
 ·have hP := bhQ (k := k) aA
  rw [show (-k).toNat = k.natAbs by omega] at hP
  iterate 3 refine AX ?_
  refine .cl rfl C271 (evs1 rfl) (lenB _ htB _) ?_
  iterate 6 refine AX ?_
  refine .e rfl (qQ U239 Z166 V166 rfl (zI 1) (.inl rfl) ⟨rfl, rfl⟩) ?_
  refine AX ?_
  refine .cl rfl C272 (evs2 rfl rfl) (oneB (yG (10 ^ k.natAbs) + 127) _ aA aA _) ?_
  iterate 11 refine AX ?_
  refine .cl rfl call273 (evs2 rfl rfl) (aoL _ _ (aeP (j := 0) aC aA).2.2 hp0 htB _) ?_
  iterate 10 refine AX ?_
  rw [← hP.1]
  iterate 2 refine AX ?_
  refine .cl rfl call338 (evs1 rfl) (valueP k _) ?_
  iterate 2 refine AX ?_
  refine .p rfl (yB zr184 pl184 (.cons (tm rfl) (.inr ⟨_, rfl⟩) (.cons (tm rfl) (.inl rfl) (.cons yH (.inl rfl) .nil))) rfl) ?_
  iterate 3 refine AX ?_
  refine .frz (t := 2) rfl (hb2) ?_
  iterate 3 refine AX ?_
  refine ⟨?_, rfl⟩
  unfold anA
  rw [hP.2.1, hP.2.2]
  rfl
 have hkt : k.toNat = k.natAbs := by omega
 iterate 5 refine AX ?_
 refine .cl rfl C271 (evs1 rfl) (lenB _ htB _) ?_
 iterate 11 refine AX ?_
 refine .cx rfl (fun hc49 => ?_) (fun hc49 => ?_)
 ·have hP := auO (k := k) aA (by rw [hkt]; omega)
  rw [hkt] at hP
  iterate 5 refine AX ?_
  refine .cl rfl C272 (evs2 rfl rfl) (shlQ _ (128 - yG (10 ^ k.natAbs)) _ aA (aeP aA aA).1 aA _) ?_
  iterate 7 refine AX ?_
  rw [← hP.1]
  iterate 2 refine AX ?_
  refine .cl rfl call338 (evs1 rfl) (valueP k _) ?_
  refine AX ?_
  refine .p rfl (yB zr184 pl184 (.cons (tm rfl) (.inr ⟨_, rfl⟩) (.cons (tm rfl) (.inl rfl) (.cons yH (.inl rfl) .nil))) rfl) ?_
  iterate 3 refine AX ?_
  refine .frz (t := 2) rfl (hb2) ?_
  iterate 3 refine AX ?_
  refine ⟨?_, rfl⟩
  unfold anA
  rw [hP.2.1, hP.2.2]
  rfl
 have hP := bhR (k := k) aA (by rw [hkt]; omega)
 rw [hkt] at hP
 iterate 6 refine AX ?_
 refine .cl rfl call276 (evs2 rfl rfl) (shrZ _ (yG (10 ^ k.natAbs) - 128) _ aA htB aA _) ?_
 iterate 10 refine AX ?_
 rw [← hP.1]
 iterate 2 refine AX ?_
 refine .cl rfl call338 (evs1 rfl) (valueP k _) ?_
 iterate 3 refine AX ?_
 refine .p rfl (yB zr184 pl184 (.cons (tm rfl) (.inr ⟨_, rfl⟩) (.cons (tm rfl) (.inl rfl) (.cons (tm rfl) (.inl rfl) .nil))) rfl) ?_
 iterate 3 refine AX ?_
 refine .frz (t := 2) rfl (hb2) ?_
 iterate 2 refine AX ?_
 refine ⟨?_, rfl⟩
 unfold anA
 rw [hP.2.1, hP.2.2]
 have e : (!decide (10 ^ k.natAbs % 2 ^ (yG (10 ^ k.natAbs) - 128) ≠ 0)) = decide (10 ^ k.natAbs % 2 ^ (yG (10 ^ k.natAbs) - 128) = 0) := by simp
 rw [← e]
 rfl

end
end Go.Proofs.YtmmgbnolccpjoaaGreatDoor
