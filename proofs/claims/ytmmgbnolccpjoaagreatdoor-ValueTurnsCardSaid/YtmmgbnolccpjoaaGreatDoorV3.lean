import Derived.Test.YtmmgbnolccpjoaaGreatDoorV2
set_option maxHeartbeats 1000000
namespace Go.Proofs.YtmmgbnolccpjoaaGreatDoor
open Go.Proofs.Tryz
open Go Go.RowKit

variable {L a m n x : Nat} {more : Bool}
theorem bvS {k : Nat} (h : n < 2 ^ (k - 1)) : rne n k more = 0 := by
 have h1 : n / 2 ^ (k - 1) = 0 := cB h
 have h2 : n / 2 ^ k = 0 := cB (bQ h (aZ aC aA))
 unfold rne
 rw [h1, h2, aI]
theorem bdS {e : Int} (h : e + yG n ≤ -1076) (he : e ≤ 0) : zX false n e more = 0 := by
 unfold zX
 split
 ·rfl
 rw [aI]
 have hu : yC n e = -1074 := by unfold yC; rw [aJ]
 have hm : acN n e more = 0 := by
  rcases bF n with h0 | h0
  ·rename_i hn; exact absurd (.inl h0) hn
  have hb := aeE h0
  unfold acN
  rw [hu, aI]
  refine bvS (bQ (agD n) (aZ aC aA))
 rw [hm, hu]; rfl
theorem aqE {e : Int} (h : 1026 ≤ e + yG n) (he : -10000 ≤ e) (hn : 0 < n) : zX false n e more = aoG := by
 unfold zX
 rw [aI]
 split
 ·unfold aaA; simp
 rw [axD]
 have hu : yC n e = e + yG n - 53 := by unfold yC; rw [aI]
 have hg := brK (n := n) (e := e) (more := more) aA hn
 unfold aaA pk
 rw [aL aC, bZ]
 split
 ·unfold adF; rw [aI, aJ]
 unfold adF; rw [aI, aJ]
theorem cbL : ∃ a b : Nat, a = 1080 ∧ b = 330 ∧ 2 ^ a ≤ 10 ^ b := ⟨1080, 330, rfl, rfl, by decide +kernel⟩
theorem cbM : ∃ a b : Nat, a = 1026 ∧ b = 310 ∧ 2 ^ a ≤ 10 ^ b := ⟨1026, 310, rfl, rfl, by decide +kernel⟩
theorem bkK {k : Int} (hm : m < 10 ^ L) (hp : (L : Int) + k ≤ -330) (hk : -2000 ≤ k) : akO m k = 0 := by
 obtain ⟨A, B, hA, hB, h330⟩ := cbL
 unfold akO
 rw [aI]
 obtain ⟨j, hj⟩ : ∃ j : Nat, k = -(j : Int) := ⟨(-k).toNat, by omega⟩
 subst hj
 rw [show (-(-(j : Int))).toNat = j by omega]
 have hjl := ajC j
 unfold azP
 refine bdS ?_ aA
 generalize hK : yG (10 ^ j) + 127 = K
 have h1 : m * 2 ^ K / 10 ^ j < 2 ^ (K - A) ∧ A ≤ K ∨ K < A := by
  rcases cD K A with h | h
  ·exact .inr h
  refine .inl ⟨?_, h⟩
  rw [bO (acL j)]
  have e1 : 2 ^ K = 2 ^ (K - A) * 2 ^ A := by rw [← bI]; congr 1; omega
  have e2 : 10 ^ L * 10 ^ B ≤ 10 ^ j := by rw [← bI]; exact aZ aC aA
  rw [e1, bL m, bJ]
  refine fJ ?_ (bN aC)
  calc 2 ^ A * m ≤ 10 ^ B * m := bC _ h330
   _ < 10 ^ B * 10 ^ L := fJ hm (acL _)
   _ = 10 ^ L * 10 ^ B := bL _ _
   _ ≤ 10 ^ j := e2
 rcases h1 with ⟨h1, hKA⟩ | h1
 ·have := yP.2 h1
  omega
 exfalso
 have h2 : 2 ^ A ≤ 10 ^ j := bE h330 (aZ aC aA)
 have := aaQ.2 h2
 omega
theorem bkL {k : Int} (hm : 10 ^ L ≤ m) (hp : 310 ≤ (L : Int) + k) (hk : -2000 ≤ k) : akO m k = aoG := by
 obtain ⟨A, B, hA, hB, h310⟩ := cbM
 have hm0 : 0 < m := bQ (acL L) hm
 unfold akO
 split
 ·refine aqE ?_ aC (fZ hm0 (acL _))
  have h1 : 2 ^ A ≤ m * 10 ^ k.toNat := by
   refine bE h310 (bE (aZ aC (show B ≤ L + k.toNat by omega)) ?_)
   rw [bI]; exact bC _ hm
  have := aaQ.2 h1
  omega
 obtain ⟨j, hj⟩ : ∃ j : Nat, k = -(j : Int) := ⟨(-k).toNat, by omega⟩
 subst hj
 rw [show (-(-(j : Int))).toNat = j by omega]
 have hjl := ajC j
 have h1 : 2 ^ (yG (10 ^ j) + 127 + A) ≤ m * 2 ^ (yG (10 ^ j) + 127) / 10 ^ j := by
  rw [dJ (acL j), bI, bL m, bJ]
  refine bX _ ?_
  refine bE (bC _ h310) ?_
  rw [← bI]
  exact bE (aZ aC aA) hm
 have h2 := aaQ.2 h1
 unfold azP
 refine aqE aA aA (bQ (bN aC) h1)
/-! ### short decimals -/
theorem apH {t : Nat} (h0 : 0 < n) (h : n < 9007199254740992) (ht : t ≤ 500) : ∃ j : Nat, j ≤ 52 ∧ yX (zX false n t false) = n * 2 ^ j ∧ yU (zX false n t false) = (t : Int) - j ∧ zV (zX false n t false) = 2 ∧ zX false n t false < 9223372036854775808 := by
 have e53 : (9007199254740992 : Nat) = 2 ^ 53 := by decide
 have hb : yG n ≤ 53 := yP.2 (by rw [← e53]; exact h)
 have hb0 := aeE h0
 have hu : yC n t = (t : Int) + yG n - 53 := by unfold yC; rw [aI]
 refine ⟨53 - yG n, by omega, ?_⟩
 have hm : acN n t false = n * 2 ^ (53 - yG n) := by
  unfold acN
  rw [hu, aJ]
  congr 2; omega
 have hlo : 4503599627370496 ≤ n * 2 ^ (53 - yG n) := by
  have h1 := asJ h0
  have h2 := bC (2 ^ (53 - yG n)) h1
  rw [← bI, show yG n - 1 + (53 - yG n) = 52 by omega] at h2
  have e52 : (4503599627370496 : Nat) = 2 ^ 52 := by decide
  omega
 have hhi : n * 2 ^ (53 - yG n) < 9007199254740992 := by
  have h2 := Nat.mul_lt_mul_of_pos_right (agD n) (show 0 < 2 ^ (53 - yG n) from bN aC)
  rw [← bI, show yG n + (53 - yG n) = 53 by omega] at h2
  omega
 have hr : zX false n t false = n * 2 ^ (53 - yG n) + (t + yG n + 1021) * 4503599627370496 := by
  unfold zX
  rw [aI, aI, hm, hu, axD]
  unfold aaA pk adF
  rw [aL aC, bZ, aI, aI, aI]
  congr 2
  omega
 rw [hr]
 generalize n * 2 ^ (53 - yG n) = q at *
 have hd : (q + (t + yG n + 1021) * 4503599627370496) / 4503599627370496 % 2048 = t + yG n + 1022 := by omega
 have hmod : (q + (t + yG n + 1021) * 4503599627370496) % 4503599627370496 = q - 4503599627370496 := by omega
 have hk : zV (q + (t + yG n + 1021) * 4503599627370496) = 2 := by
  unfold zV
  rw [hd, aI, aI]
 refine ⟨?_, ?_, hk, by omega⟩
 ·unfold yX
  rw [hk, aL aC, aN rfl, hmod]; omega
 unfold yU
 rw [hk, aL aC, aN rfl, hd]; omega
theorem bmF {b s t : Nat} (ha0 : 0 < a) (ha : a < 9007199254740992) (hb0 : 0 < b) (hb : b < 9007199254740992) (hs : s ≤ 500) (ht : t ≤ 500) : aeQ (zX false a s false) (zX false b t false) = zX false (a * b) ((s + t : Nat) : Int) false := by
 obtain ⟨i, hi, a1, a2, a3, a4⟩ := apH ha0 ha hs
 obtain ⟨j, hj, b1, b2, b3, b4⟩ := apH hb0 hb ht
 have hn : alW (zX false a s false) (zX false b t false) = false := by
  unfold alW
  refine bD ?_
  rw [cB (show _ < 2 ^ 63 from a4), cB (show _ < 2 ^ 63 from b4)]
  simp
 unfold aeQ
 rw [a3, b3, aL aC, aL aC, hn, a1, a2, b1, b2]
 rw [show a * 2 ^ i * (b * 2 ^ j) = a * b * 2 ^ (i + j) by rw [bI, Nat.mul_mul_mul_comm], afG aA aA]
 congr 1; omega
theorem buX (i : Nat) (hi : i ≤ 500) : zX false (10 ^ i) 0 false = zX false (5 ^ i) (i : Int) false := by
 rw [show (10 : Nat) = 5 * 2 by decide, Nat.mul_pow, afG aC aA]
 congr 1; omega
theorem boJ : ∀ i : Fin 23, cbN i.1 = zX false (10 ^ i.1) 0 false := by decide +kernel
theorem bsP {j : Nat} (hm : 0 < m) (hm2 : m < 9007199254740992) (hj : j ≤ 22) : cdW m j = akO m (j : Int) := by
 have h5 : 5 ^ j < 9007199254740992 := aV (aZ aC hj) aC
 have hf := bmF (s := 0) (t := j) hm hm2 (bN aC : 0 < 5 ^ j) h5 aC aA
 unfold cdW akO
 rw [aJ, boJ ⟨j, by omega⟩, buX j aA]
 rw [show ((0 : Nat) : Int) = 0 from rfl, bZ] at hf
 rw [hf, show ((j : Int)).toNat = j by omega, show (10 : Nat) = 5 * 2 by decide, Nat.mul_pow, ← bJ, afG aC aA]
 congr 1; omega
theorem ccS {c : UInt8} {r : List UInt8} (hc : isD c) (h0 : c ≠ 48) : 10 ^ r.length ≤ num (c :: r) := by
 rw [axG]
 have : 49 ≤ c.toNat := by
  rcases cD c.toNat 49 with h | h
  ·have h48 : c.toNat = 48 := by unfold isD at hc; omega
   exact absurd (UInt8.toNat_inj.1 (show c.toNat = (48 : UInt8).toNat by simp only [UInt8.reduceToNat]; omega)) h0
  exact h
 exact bE (Nat.le_mul_of_pos_left _ aA) (gG _ _)
theorem azE {ds : List UInt8} {e : Int} (h : yZ ds e = true) (hne : ds ≠ []) : 10 ^ (ds.length - 1) ≤ num ds ∧ num ds < 10 ^ ds.length := by
 have hd := qC h
 refine ⟨?_, agY hd⟩
 match ds, hne with
 | c :: r, _ =>
  refine ccS (hd c aF) ?_
  rintro rfl
  unfold yZ at h
  simp at h
theorem boV {ds : List UInt8} {e : Int} (h : yZ ds e = true) (hne : ds ≠ []) (hp : -400 ≤ (ds.length : Int) + e ∧ (ds.length : Int) + e ≤ 400) : aiL ds e = akO (num ds) e := by
 have hd := qC h
 have hl := qM h
 have hlp := bP.2 hne
 obtain ⟨hn1, hn2⟩ := azE h hne
 have hn0 : 0 < num ds := bQ (acL _) hn1
 unfold aiL
 by_cases h1 : (ds.length : Int) + e < -330
 ·rw [aN (.inr h1), bkK hn2 aA aA]
 rw [aL (fun q => q.elim hne h1)]
 by_cases h2 : 310 < (ds.length : Int) + e
 ·rw [aN h2, bkL hn1 aA aA]
 rw [aL h2]
 by_cases h3 : ds.length ≤ 19
 ·rw [aN h3]
  by_cases h4 : ds.length ≤ 15 ∧ 0 ≤ e ∧ e ≤ 22
  ·rw [aN h4]
   have h15 : num ds < 9007199254740992 := bQ hn2 (bE (aZ aC h4.1) aC)
   have := bsP hn0 h15 (j := e.toNat) aA
   rw [this]; congr 1; omega
  rw [aL h4]
  split
  ·rename_i hq
   exact beB hn0 aA hq
  exact azA hn0 aA
 rw [aL h3]
 exact azA hn0 aA
section
open Go Go.RowKit
set_option maxRecDepth 100000

theorem aoW (h : 1 ≤ zV x ∧ zV x ≤ 2) : 4503599627370496 ≤ acK x ∧ acK x < 9007199254740992 ∧ yG (yX x) ≤ 53 := by
 have h0 : 0 < yX x := by
  unfold yX
  split
  ·rename_i q
   unfold zV at h q
   revert h q
   repeat' split
   all_goals omega
  rw [aJ]; omega
 have hl := acG x
 have hb : yG (yX x) ≤ 53 := yP.2 (cZ hl aC)
 have h1 : 0 < yG (yX x) := aaQ.2 (by rw [dN]; exact h0)
 have h2 : yX x < 2 ^ yG (yX x) := yP.1 (aT _)
 have h3 : 2 ^ (yG (yX x) - 1) ≤ yX x := aaQ.1 aA
 unfold acK
 refine ⟨?_, ?_, hb⟩
 ·have := bC (2 ^ (53 - yG (yX x))) h3
  rw [← bI, show yG (yX x) - 1 + (53 - yG (yX x)) = 52 by omega] at this
  exact bE aC this
 have := (Nat.mul_lt_mul_right (a := 2 ^ (53 - yG (yX x))) (bN aC)).2 h2
 rw [← bI, show yG (yX x) + (53 - yG (yX x)) = 53 by omega] at this
 exact cZ this aC
theorem aiT (x : Nat) (h : yG (yX x) ≤ 53) : -1128 ≤ akC x ∧ akC x ≤ 972 := by
 have := aaM x
 unfold akC; omega
theorem cbG : u2 (m * 2 ^ 64) = .agg [.int .u64 (m : Int), .int .u64 0] := by
 unfold u2 w2
 rw [← afR, fM _ aC, Nat.mul_mod_left]; rfl
theorem cdM (h : m < 9007199254740992) : m * 2 ^ 64 < M2 := by
 have h2 : m * 2 ^ 64 ≤ 9007199254740991 * 2 ^ 64 := bC _ aA
 exact aV h2 aE
theorem cbC {neg : Bool} : neg = true → x < 9223372036854775808 → (x ||| 9223372036854775808) = aaA neg + x := by
 intro h hx; rw [beR hx, h]; rfl
theorem cbT (h : acK x < 9007199254740992) : akK x < 170141183460469231731687303715884105728 ∧ (akL x = 73 ∨ akL x = 74) := by
 have hk : akL x = 73 ∨ akL x = 74 := by unfold akL; split <;> omega
 refine ⟨?_, hk⟩
 have h1 : 2 ^ akL x ≤ 2 ^ 74 := aZ aC aA
 have h2 : akK x ≤ 9007199254740991 * 2 ^ 74 := eE aA h1
 exact aV h2 aC
section
variable {P : Program} {env : Env} {H : Heap} {dst : Option Tmp} {ty : TypeId} {pos : String} {af : Array Edge} {gd : Option (Nat × Bool)}
def bxL (m q : Int) : Int := IntKind.i64.wrap ((BitVec.ofInt 64 m &&& BitVec.ofInt 64 q).toNat : Int)
theorem bsA (m : Int) : bxL m 1 = m % 2 := by
 unfold bxL
 rw [BitVec.toNat_and, BitVec.toNat_ofInt, BitVec.toNat_ofInt]
 have e : ((1 : Int) % ((2 ^ 64 : Nat) : Int)).toNat = 2 ^ 1 - 1 := by decide
 rw [e, cW]
 rw [ahF (by simp [IntKind.min, IntKind.signed, IntKind.bits]; omega) (by simp [IntKind.max, IntKind.bits, IntKind.signed]; omega)]
 omega
theorem bqH {T T' : TypeId} {x y : Operand} {m q : Int} (hx : Ev env x (.int .i64 m)) (hy : Ev env y (.int .i64 q)) : APure P ⟨dst, .binOp .and T x y T', ty, pos, af, gd⟩ env (.int .i64 (bxL m q)) :=
 qH hx hy fun _ => ⟨_, .int _ _, fun w => by simp [binOp, Op.intBits, bxL]; rfl⟩
theorem bkZ {T T' : TypeId} {x y : Operand} {m : Int} (hx : Ev env x (.int .i64 m)) (hy : Ev env y (.int .i64 1)) : APure P ⟨dst, .binOp .and T x y T', ty, pos, af, gd⟩ env (.int .i64 (m % 2)) := by
 rw [← bsA]; exact bqH hx hy
end
theorem biB {n : Int} (h0 : n < 0) (h1 : -1000000 ≤ n) : IntKind.u64.wrap (0 - IntKind.u64.wrap n) = ((n.natAbs : Nat) : Int) := by
 simp only [IntKind.wrap, IntKind.bits, IntKind.signed]
 simp
 omega
theorem powS {u i p : Nat} (hp : p = blB a u L i) : blB a u L (i + 1) = if u / 2 ^ (L - 1 - i) % 2 = 1 then aeQ (aeQ p p) a else aeQ p p := by rw [hp]; rfl

theorem ahM (a : Nat) (ha : a < 18446744073709551616) : Fn 116 [.int .u64 (a : Int)] (.bool (decide (zV a = 4))) := by
 intro H
 refine .of_body func116 rfl ntmps116 results116 rfl ?_
 iterate 8 refine AX ?_
 refine .cl rfl C89 (evs1 rfl) (qU _ aB _) ?_
 iterate 6 refine AX ?_
 refine ⟨?_, rfl⟩
 exact congrArg AV.bool (aY.2 aA)

theorem acP (a : Nat) (ha : a < 18446744073709551616) : Fn 117 [.int .u64 (a : Int)] (.bool (decide (zV a = 3))) := by
 intro H
 refine .of_body func117 rfl ntmps117 results117 rfl ?_
 iterate 8 refine AX ?_
 refine .cl rfl C89 (evs1 rfl) (qU _ aB _) ?_
 iterate 6 refine AX ?_
 refine ⟨?_, rfl⟩
 exact congrArg AV.bool (aY.2 aA)

theorem acY (a : Nat) (ha : a < 18446744073709551616) : Fn 118 [.int .u64 (a : Int)] (.bool (decide (zV a = 0))) := by
 intro H
 refine .of_body func118 rfl ntmps118 results118 rfl ?_
 iterate 8 refine AX ?_
 refine .cl rfl C89 (evs1 rfl) (qU _ aB _) ?_
 iterate 6 refine AX ?_
 refine ⟨?_, rfl⟩
 exact congrArg AV.bool (aY.2 aA)

theorem aqO (neg : Bool) (x : Nat) (hx : x < 9223372036854775808) : Fn 119 [.bool neg, .int .u64 (x : Int)] (.int .u64 ((aaA neg + x : Nat) : Int)) := by
 intro H
 refine .of_body func119 rfl ntmps119 results119 rfl ?_
 iterate 11 refine AM ?_
 refine .cx rfl (fun hc5 => ?_) (fun hc5 => ?_)
 ·iterate 10 refine AM ?_
  refine ⟨?_, rfl⟩
  rw [← cbC hc5 hx]; rfl
 iterate 10 refine AX ?_
 refine ⟨?_, rfl⟩
 rw [show neg = false by simpa using hc5, show aaA false + x = x from bZ x]; rfl

theorem akW (a : Nat) (ha : a < 18446744073709551616) (hk : 1 ≤ zV a ∧ zV a ≤ 2) : Fn 120 [.int .u64 (a : Int)] (.tuple [.int .u64 ((acK a : Nat) : Int), .int .i64 (akC a)]) := by
 intro H
 have hpa := aaM a
 have hpm := acG a
 obtain ⟨hl1, hl2, hl3⟩ := aoW hk
 refine .of_body func120 rfl ntmps120 results120 rfl ?_
 iterate 3 refine AM ?_
 iterate 6 refine AX ?_
 refine .cl rfl C181 (evs1 rfl) (acA _ aB _) ?_
 iterate 12 refine AX ?_
 refine .cl rfl C182 (evs1 rfl) (len64A _ aA _) ?_
 refine .p rfl (.as (b := .int .i64 ((53 - yG (yX a) : Nat) : Int)) (by congr 1; omega) (acW zH (tm rfl) aA)) ?_
 iterate 7 refine AX ?_
 refine .p rfl (qA (tm rfl) (tm rfl) aA (by show acK a < 18446744073709551616; omega)) ?_
 iterate 9 refine AX ?_
 exact ⟨rfl, rfl⟩

theorem ahB (a b : Nat) (ha : a < 18446744073709551616) (hb : b < 18446744073709551616) : Fn 54 [.int .u64 (a : Int), .int .u64 (b : Int)] (.int .u64 ((arW a b : Nat) : Int)) := by
 intro H
 have hka := ajM a
 have hkb := ajM b
 refine .of_body func54 rfl ntmps54 results54 rfl ?_
 iterate 17 refine AM ?_
 refine .seqTo 18 (.bool (decide (aeK a b))) [0, 1, 4, 5] ?_ ?_
 ·-- region 2
  iterate 2 refine AX ?_
  refine .cl rfl C116 (evs1 rfl) (ahM _ aB _) ?_
  refine AX ?_
  refine zD (t := 21) rfl (fun hg21 => ?_) (fun hg21 => ?_)
  ·have hh21 := hg21; try simp only [aO] at hh21
   iterate 21 refine AX ?_
   exact ⟨rfl, zO rfl (by (refine Eq.symm ?_; unfold aeK; exact bG aA)) sX, rfl⟩
  have hh21 := hg21; try simp only [aM] at hh21
  refine AX ?_
  refine .gs rfl rfl rfl aB (zB C116 (evs1 rfl) (ahM _ aB _)) ?_
  rintro _ _ ⟨rfl, hH⟩
  obtain rfl := hH.symm
  iterate 2 refine AX ?_
  refine zD (t := 25) rfl (fun hg25 => ?_) (fun hg25 => ?_)
  ·have hh25 := hg25; try simp only [aO] at hh25
   iterate 17 refine AX ?_
   exact ⟨rfl, zO rfl (by (refine Eq.symm ?_; unfold aeK; exact bG aA)) sX, rfl⟩
  have hh25 := hg25; try simp only [aM] at hh25
  refine AX ?_
  refine .gs rfl rfl rfl aB (zB C117 (evs1 rfl) (acP _ aB _)) ?_
  rintro _ _ ⟨rfl, hH⟩
  obtain rfl := hH.symm
  refine AX ?_
  refine zD (t := 28) rfl (fun hg28 => ?_) (fun hg28 => ?_)
  ·have hh28 := hg28; try simp only [aO] at hh28
   refine AX ?_
   refine .gs rfl rfl rfl aB (zB C117 (evs1 rfl) (acP _ aB _)) ?_
   rintro _ _ ⟨rfl, hH⟩
   obtain rfl := hH.symm
   iterate 3 refine AX ?_
   refine zD (t := 33) rfl (fun hg33 => ?_) (fun hg33 => ?_)
   ·have hh33 := hg33; try simp only [aO] at hh33
    iterate 9 refine AX ?_
    exact ⟨rfl, zO rfl (by (refine Eq.symm ?_; unfold aeK; exact bG aA)) sX, rfl⟩
   have hh33 := hg33; try simp only [aM] at hh33
   refine AX ?_
   refine .gs rfl rfl rfl aB (zB C118 (evs1 rfl) (acY _ aB _)) ?_
   rintro _ _ ⟨rfl, hH⟩
   obtain rfl := hH.symm
   refine AX ?_
   refine zD (t := 36) rfl (fun hg36 => ?_) (fun hg36 => ?_)
   ·have hh36 := hg36; try simp only [aO] at hh36
    refine AX ?_
    refine .gs rfl rfl rfl aB (zB C118 (evs1 rfl) (acY _ aB _)) ?_
    rintro _ _ ⟨rfl, hH⟩
    obtain rfl := hH.symm
    iterate 4 refine AX ?_
    exact ⟨rfl, zO rfl (by (refine Eq.symm ?_; unfold aeK; exact aY.2 aA)) sX, rfl⟩
   have hh36 := hg36; try simp only [aM] at hh36
   iterate 6 refine AX ?_
   exact ⟨rfl, zO rfl (by (refine Eq.symm ?_; unfold aeK; exact bD aA)) sX, rfl⟩
  have hh28 := hg28; try simp only [aM] at hh28
  iterate 6 refine AX ?_
  refine .gs rfl rfl rfl aD (zB C118 (evs1 rfl) (acY _ aB _)) ?_
  rintro _ _ ⟨rfl, hH⟩
  obtain rfl := hH.symm
  refine AX ?_
  refine zD (t := 36) rfl (fun hg36 => ?_) (fun hg36 => ?_)
  ·have hh36 := hg36; try simp only [aO] at hh36
   refine AX ?_
   refine .gs rfl rfl rfl aB (zB C118 (evs1 rfl) (acY _ aB _)) ?_
   rintro _ _ ⟨rfl, hH⟩
   obtain rfl := hH.symm
   iterate 4 refine AX ?_
   exact ⟨rfl, zO rfl (by (refine Eq.symm ?_; unfold aeK; exact aY.2 aA)) sX, rfl⟩
  have hh36 := hg36; try simp only [aM] at hh36
  iterate 6 refine AX ?_
  exact ⟨rfl, zO rfl (by (refine Eq.symm ?_; unfold aeK; exact bD aA)) sX, rfl⟩
 refine .sub [(18, _), (0, _), (1, _), (4, _), (5, _)] sX ?_
 refine .cx rfl (fun hc18 => ?_) (fun hc18 => ?_)
 ·iterate 9 refine AM ?_
  refine ⟨?_, rfl⟩
  unfold arW
  rw [aN hc18]; rfl
 have hdn := hc18
 unfold aeK at hc18
 refine .seqTo 41 (.bool (decide (zV a = 3 ∨ zV b = 0))) [0, 1, 4, 5] ?_ ?_
 ·-- region 4
  iterate 2 refine AX ?_
  refine .cl rfl C117 (evs1 rfl) (acP _ aB _) ?_
  refine AX ?_
  refine zD (t := 44) rfl (fun hg44 => ?_) (fun hg44 => ?_)
  ·have hh44 := hg44; try simp only [aO] at hh44
   iterate 5 refine AX ?_
   exact ⟨rfl, zO rfl (by (refine Eq.symm ?_; exact bG aA)) sX, rfl⟩
  have hh44 := hg44; try simp only [aM] at hh44
  refine AX ?_
  refine .gs rfl rfl rfl aB (zB C118 (evs1 rfl) (acY _ aB _)) ?_
  rintro _ _ ⟨rfl, hH⟩
  obtain rfl := hH.symm
  iterate 3 refine AX ?_
  exact ⟨rfl, zO rfl (by (refine Eq.symm ?_; exact aY.2 aA)) sX, rfl⟩
 refine .sub [(41, _), (0, _), (1, _), (4, _), (5, _)] sX ?_
 refine .cx rfl (fun hc41 => ?_) (fun hc41 => ?_)
 ·iterate 3 refine AX ?_
  refine .cl rfl call119 (.cons (tm rfl) (.cons (zI 9218868437227405312) .nil)) (aqO _ _ aC _) ?_
  iterate 7 refine AX ?_
  refine ⟨?_, rfl⟩
  unfold arW
  rw [aL hdn, aN hc41]; rfl
 refine .seqTo 50 (.bool (decide (zV a = 0 ∨ zV b = 3))) [0, 1, 4, 5] ?_ ?_
 ·-- region 6
  iterate 2 refine AX ?_
  refine .cl rfl C118 (evs1 rfl) (acY _ aB _) ?_
  refine AX ?_
  refine zD (t := 53) rfl (fun hg53 => ?_) (fun hg53 => ?_)
  ·have hh53 := hg53; try simp only [aO] at hh53
   iterate 5 refine AX ?_
   exact ⟨rfl, zO rfl (by (refine Eq.symm ?_; exact bG aA)) sX, rfl⟩
  have hh53 := hg53; try simp only [aM] at hh53
  refine AX ?_
  refine .gs rfl rfl rfl aB (zB C117 (evs1 rfl) (acP _ aB _)) ?_
  rintro _ _ ⟨rfl, hH⟩
  obtain rfl := hH.symm
  iterate 3 refine AX ?_
  exact ⟨rfl, zO rfl (by (refine Eq.symm ?_; exact aY.2 aA)) sX, rfl⟩
 refine .sub [(50, _), (0, _), (1, _), (4, _), (5, _)] sX ?_
 refine .cx rfl (fun hc50 => ?_) (fun hc50 => ?_)
 ·iterate 3 refine AX ?_
  refine .cl rfl call119 (.cons (tm rfl) (.cons (zI 0) .nil)) (aqO _ _ aC _) ?_
  iterate 7 refine AX ?_
  refine ⟨?_, rfl⟩
  unfold arW
  rw [aL hdn, aL hc41, aN hc50]; rfl
 obtain ⟨ha1, ha2, ha3⟩ := aoW (x := a) aA
 obtain ⟨hb1, hb2, hb3⟩ := aoW (x := b) aA
 have hea := aiT a ha3
 have heb := aiT b hb3
 have hhi := cdM ha2
 have hql : acK a * 2 ^ 64 / acK b < M2 := aV (dF _ _) hhi
 iterate 6 refine AX ?_
 refine .cl rfl call120 (evs1 rfl) (akW a ha aA _) ?_
 iterate 10 refine AX ?_
 refine .cl rfl call120 (evs1 rfl) (akW b hb aA _) ?_
 iterate 10 refine AX ?_
 refine .p rfl (yB zr149 pl149 (.cons (tm rfl) (.inl rfl) .nil) rfl) ?_
 refine AX ?_
 refine .cl rfl call121 (evs2 rfl rfl) ((by have h := fun H => bjM (acK a * 2 ^ 64) (acK b) hhi aA aA H; rw [cbG] at h; exact h _)) ?_
 iterate 4 refine AX ?_
 refine .al zr149 (fun b10 hb10 => ?_)
 iterate 5 refine AX ?_
 refine .frz (t := 10) rfl (hb10) ?_
 iterate 9 refine AX ?_
 refine AM ?_
 refine .cl rfl C122 (.cons (tm rfl) (evs3 rfl rfl rfl)) (adE _ _ hql _ aA _ _) ?_
 iterate 5 refine AX ?_
 refine ⟨?_, rfl⟩
 unfold arW
 rw [aL hdn, aL hc41, aL hc50]
 rw [show decide (acK a * 2 ^ 64 % acK b ≠ 0) = decide (((0 : Nat) : Int) < ((acK a * 2 ^ 64 % acK b : Nat) : Int)) from aY.2 aA]
 rfl

theorem arX (a : Nat) (ha : a < 18446744073709551616) : Fn 137 [.int .u64 (a : Int)] (.int .u64 ((arT a : Nat) : Int)) := by
 intro H
 have hka := ajM a
 refine .of_body func137 rfl ntmps137 results137 rfl ?_
 iterate 7 refine AM ?_
 refine .seqTo 8 (.bool (decide (zV a = 4 ∨ 9223372036854775808 < a))) [0, 2] ?_ ?_
 ·-- region 1
  iterate 2 refine AX ?_
  refine .cl rfl C116 (evs1 rfl) (ahM _ aB _) ?_
  refine AX ?_
  refine zD (t := 11) rfl (fun hg11 => ?_) (fun hg11 => ?_)
  ·have hh11 := hg11; try simp only [aO] at hh11
   iterate 5 refine AX ?_
   exact ⟨rfl, zO rfl (by (refine Eq.symm ?_; exact bG aA)) sX, rfl⟩
  have hh11 := hg11; try simp only [aM] at hh11
  iterate 5 refine AM ?_
  exact ⟨rfl, zO rfl (by (refine Eq.symm ?_; exact aY.2 aA)) sX, rfl⟩
 refine .sub [(8, _), (0, _), (2, _)] sX ?_
 refine .cx rfl (fun hc8 => ?_) (fun hc8 => ?_)
 ·iterate 9 refine AM ?_
  refine ⟨?_, rfl⟩
  unfold arT
  rw [aN hc8]; rfl
 refine .seqTo 15 (.bool (decide (zV a = 0 ∨ zV a = 3))) [0, 2] ?_ ?_
 ·-- region 3
  iterate 2 refine AX ?_
  refine .cl rfl C118 (evs1 rfl) (acY _ aB _) ?_
  refine AX ?_
  refine zD (t := 18) rfl (fun hg18 => ?_) (fun hg18 => ?_)
  ·have hh18 := hg18; try simp only [aO] at hh18
   iterate 5 refine AX ?_
   exact ⟨rfl, zO rfl (by (refine Eq.symm ?_; exact bG aA)) sX, rfl⟩
  have hh18 := hg18; try simp only [aM] at hh18
  refine AX ?_
  refine .gs rfl rfl rfl aB (zB C117 (evs1 rfl) (acP _ aB _)) ?_
  rintro _ _ ⟨rfl, hH⟩
  obtain rfl := hH.symm
  iterate 3 refine AX ?_
  exact ⟨rfl, zO rfl (by (refine Eq.symm ?_; exact aY.2 aA)) sX, rfl⟩
 refine .sub [(15, _), (0, _), (2, _)] sX ?_
 refine .cx rfl (fun hc15 => ?_) (fun hc15 => ?_)
 ·iterate 10 refine AX ?_
  refine ⟨?_, rfl⟩
  unfold arT
  rw [aL hc8, aN hc15]; rfl
 obtain ⟨ha1, ha2, ha3⟩ := aoW (x := a) aA
 have hea := aiT a ha3
 obtain ⟨hsm, hsk⟩ := cbT ha2
 have hsM : akK a < M2 := dI hsm aE
 have hr64 := (bvR (n := akK a) (by rw [show (2 : Nat) ^ 128 = M2 by decide +kernel]; exact hsM))
 iterate 6 refine AX ?_
 refine .cl rfl call120 (evs1 rfl) (akW a ha aA _) ?_
 iterate 12 refine AX ?_
 refine .seqToL [(5, .int .i64 ((akL a : Nat) : Int))] [2, 3, 4] ?_ ?_
 ·iterate 5 refine AX ?_
  refine .p rfl (bkZ (tm rfl) zH) ?_
  iterate 3 refine AX ?_
  refine .cx rfl (fun hc32 => ?_) (fun hc32 => ?_)
  ·iterate 5 refine AX ?_
   exact ⟨rfl, (zN rfl (by congr 1; unfold akL; split <;> omega) sX), rfl⟩
  refine AX ?_
  exact ⟨rfl, (zN rfl (by congr 1; unfold akL; split <;> omega) sX), rfl⟩
 refine .sub [(5, _), (2, _), (3, _), (4, _)] sX ?_
 iterate 3 refine AX ?_
 refine .p rfl (yB zr149 pl149 (.cons (tm rfl) (.inl rfl) .nil) rfl) ?_
 refine AX ?_
 refine .cl rfl C187 (evs2 rfl rfl) ((by have h := fun H => wShlU (acK a) (akL a) aA _ rfl H; rw [alC (show acK a < M1 by unfold M1; omega)] at h; exact h _)) ?_
 rw [bB (show acK a * 2 ^ akL a < M2 from hsM)]
 refine .cl rfl call197 (evs1 rfl) (bcS (akK a) hsM _) ?_
 iterate 8 refine AX ?_
 have hrl : aeJ (akK a) 64 0 < M1 := by
  have h1 := hr64.1
  rcases cD (aeJ (akK a) 64 0) M1 with h | h
  ·exact h
  have h2 := eE h h
  rw [← bgM] at h2
  omega
 iterate 2 refine AX ?_
 refine .p rfl (yB zr149 pl149 (.cons (tm rfl) (.inl rfl) .nil) rfl) ?_
 iterate 3 refine AX ?_
 refine .p rfl (.as (b := .int .i64 ((akC a - akL a) / 2)) (by congr 1; show Int.fdiv _ (2 ^ 1) = _; rw [cfC]; rfl) (awV (tm rfl) zH aC)) ?_
 iterate 2 refine AX ?_
 refine .cl rfl C122 (.cons yH (evs3 rfl rfl rfl)) ((by have h := fun H => adE false (aeJ (akK a) 64 0) (dI hrl aE) ((akC a - akL a) / 2) aA (!decide (aeJ (akK a) 64 0 * aeJ (akK a) 64 0 = akK a)) H; rw [alC hrl] at h; exact h _)) ?_
 iterate 5 refine AX ?_
 refine ⟨?_, rfl⟩
 unfold arT
 rw [aL hc8, aL hc15, decide_not]; rfl

def bsN (a u L : Nat) (n : Int) (H : Heap) : Nat → Env → Heap → Prop := fun k env H1 => ∃ i : Nat, i ≤ L ∧ env = [(0, .int .u64 (a : Int)), (1, .int .i64 n), (5, .int .u64 (u : Int)), (6, .int .u64 ((blB a u L i : Nat) : Int)), (17, .int .i64 (L : Int)), (18, .int .i64 (i : Int))] ∧ H = H1 ∧ k = L - i

theorem avE (a : Nat) (ha : a < 18446744073709551616) (n : Int) (hn : -1000000 ≤ n ∧ n ≤ 1000000) (H : Heap) : ACall prog 136 [.int .u64 (a : Int), .int .i64 n] H (fun y H' => y = .int .u64 ((bfI a n : Nat) : Int) ∧ H' = H) := by
 obtain ⟨u, hu⟩ : ∃ u, u = n.natAbs := ⟨_, rfl⟩
 have hu64 : u < 18446744073709551616 := by omega
 have hbl : yG u ≤ 64 := yP.2 (cZ hu64 aC)
 refine ACall.of_body func136 rfl ntmps136 results136 rfl ?_
 iterate 9 refine AM ?_
 refine .cl rfl C116 (evs1 rfl) (ahM _ aB _) ?_
 iterate 2 refine AX ?_
 refine AWP.cx rfl (fun hc9 => ?_) (fun hc9 => ?_)
 ·iterate 8 refine AM ?_
  refine ⟨?_, rfl⟩
  unfold bfI
  rw [aN (by simpa using hc9)]; rfl
 iterate 5 refine AX ?_
 refine .p rfl (ajI U3 U22 (tm rfl)) ?_
 iterate 3 refine AX ?_
 refine AWP.seqToL [(5, .int .u64 ((u : Nat) : Int))] [0, 1, 4] ?_ ?_
 ·iterate 6 refine AX ?_
  refine AWP.cx rfl (fun hc13 => ?_) (fun hc13 => ?_)
  ·iterate 2 refine AX ?_
   refine .p rfl (aqV (tm rfl)) ?_
   iterate 2 refine AX ?_
   exact ⟨rfl, (zN rfl (by rw [hu]; congr 1; first | exact biB aA hn.1 | (rw [wrap64 (n := n) aA aA]; omega)) sX), rfl⟩
  refine AX ?_
  exact ⟨rfl, (zN rfl (by rw [hu]; congr 1; first | exact biB aA hn.1 | (rw [wrap64 (n := n) aA aA]; omega)) sX), rfl⟩
 refine AWP.sub [(5, _), (0, _), (1, _), (4, _)] sX ?_
 iterate 9 refine AM ?_
 refine .cl rfl C182 (evs1 rfl) (len64A _ aB _) ?_
 iterate 4 refine AX ?_
 refine AWP.loopW (bsN a u (yG u) n H) (yG u) ⟨0, Nat.zero_le _, rfl, rfl, rfl⟩ sX (hRa _) ?_
 rintro _ _ _ ⟨i, hi, rfl, rfl, hk⟩
 iterate 6 refine AX ?_
 refine AWP.cx rfl (fun hc19 => ?_) (fun hc19 => ?_)
 ·have hpl := beM a u (yG u) i
  have hml := apC (blB a u (yG u) i) (blB a u (yG u) i)
  have hst := powS (a := a) (u := u) (L := yG u) (i := i) rfl
  have hil : i < yG u := by omega
  have hdl : u / 2 ^ (yG u - 1 - i) < 18446744073709551616 := aV (dF _ _) hu64
  iterate 14 refine AX ?_
  refine .cl rfl C133 (evs2 rfl rfl) (ahA _ _ aB aB _) ?_
  iterate 7 refine AX ?_
  refine .cl rfl C182 (evs1 rfl) (len64A _ aB _) ?_
  iterate 2 refine AX ?_
  refine .p rfl (.as (b := .int .i64 ((yG u - 1 - i : Nat) : Int)) (by congr 1; omega) (acW (tm rfl) (tm rfl) aA)) ?_
  iterate 5 refine AM ?_
  refine AWP.cx rfl (fun hc32 => ?_) (fun hc32 => ?_)
  ·rw [aN (by rw [← Nat.and_one_is_mod]; omega)] at hst
   iterate 3 refine AX ?_
   refine .cl rfl C133 (evs2 rfl rfl) (ahA _ _ aB aB _) ?_
   iterate 9 refine AX ?_
   refine Round.mk (J := bsN a u (yG u) n H) ⟨i + 1, by omega, rfl, rfl, rfl⟩ (zJ rfl (zJ rfl (zJ rfl (zN rfl (by rw [hst]) sX)))) (hRa _) aA
  rw [aL (by rw [← Nat.and_one_is_mod]; omega)] at hst
  iterate 8 refine AX ?_
  refine Round.mk (J := bsN a u (yG u) n H) ⟨i + 1, by omega, rfl, rfl, rfl⟩ (zJ rfl (zJ rfl (zJ rfl (zN rfl (by rw [hst]) sX)))) (hRa _) aA
 obtain rfl : i = yG u := by omega
 have hpl := beM a u (yG u) (yG u)
 iterate 12 refine AX ?_
 refine AWP.cx rfl (fun hc38 => ?_) (fun hc38 => ?_)
 ·iterate 3 refine AX ?_
  refine .cl rfl C54 (.cons (zI 4607182418800017408) (evs1 rfl)) (ahB _ _ aC aB _) ?_
  iterate 6 refine AX ?_
  refine ⟨?_, rfl⟩
  unfold bfI
  rw [aL (by simpa using hc9), aJ, ← hu]; rfl
 iterate 10 refine AX ?_
 refine ⟨?_, rfl⟩
 unfold bfI
 rw [aL (by simpa using hc9), aI, ← hu]; rfl

end
section
open Go Go.RowKit
set_option maxRecDepth 100000

theorem zr208 : ZR 208 [.bool false, .bool false, .bool false, .int .u64 0] := ZRi zeroValue208
theorem pl208 : PL 208 [(0, 1), (1, 1), (2, 1), (3, 1)] := PLi U208

def spA (neg half rest : Bool) (n : Nat) : AV := .agg [.bool neg, .bool half, .bool rest, .int .u64 (n : Int)]
def aoD (a : Nat) : Bool := decide (yU a < 0 ∧ yX a / 2 ^ ((-yU a).toNat - 1) % 2 = 1)
def aoC (a : Nat) : Bool := decide (yU a < 0 ∧ yX a % 2 ^ ((-yU a).toNat - 1) ≠ 0)
def anC (a : Nat) : Nat := if yU a < 0 then yX a / 2 ^ (-yU a).toNat else yX a
theorem cfX (h : ¬ yU a < 0) : aoD a = false ∧ aoC a = false ∧ anC a = yX a := ⟨bD aA, bD aA, aL h⟩
theorem bwJ {k : Nat} (h : yU a < 0) (hk : k = (-yU a).toNat - 1) : decide (((yX a / 2 ^ k &&& 1 : Nat) : Int) = ((1 : Nat) : Int)) = aoD a ∧ decide (yX a % 2 ^ k ≠ 0) = aoC a ∧ yX a / 2 ^ k / 2 ^ 1 = anC a := by
 subst hk
 refine ⟨aY.2 ?_, aY.2 ?_, ?_⟩
 ·rw [Nat.and_one_is_mod]; omega
 ·constructor
  ·exact fun q => ⟨h, q⟩
  exact fun q => q.2
 unfold anC
 rw [aN h, gF, bsF aA]
theorem chP (a : Nat) : (aoD a || aoC a) = !(decide (0 ≤ yU a) || decide (yX a % 2 ^ (-yU a).toNat = 0)) := by
 unfold aoD aoC
 by_cases h : yU a < 0
 ·have q := bsE (m := yX a) (k := (-yU a).toNat) aA
  rw [← Bool.decide_or, ← Bool.decide_or, ← decide_not]
  refine aY.2 ?_
  constructor
  ·rintro (q1 | q1)
   ·have := q.1 (.inl q1.2); omega
   have := q.1 (.inr q1.2); omega
  intro q1
  rcases q.2 aA with q2 | q2
  ·exact .inl ⟨h, q2⟩
  exact .inr ⟨h, q2⟩
 rw [bD aA, bD aA, bG aA]; rfl
def toM (x : Nat) : Nat := if yU x < 0 then yX x / 2 ^ (-yU x).toNat else yX x * 2 ^ (yU x).toNat
theorem cbJ (h : 3 ≤ zV x) : toN x = (0, 11) := aN h
theorem bgQ (h : ¬ 3 ≤ zV x) : toN x = if 0 ≤ yU x ∧ 11 < yU x then (0, 6)
  else if aoE x = true then (if toM x ≤ 9223372036854775808 then (-(toM x : Int), 0) else (0, 6)) else (if toM x < 9223372036854775808 then ((toM x : Int), 0) else (0, 6)) := aL h
theorem bzP {e : Int} (hm : m < 9007199254740992) (h : e ≤ 11) : m * 2 ^ e.toNat < 18446744073709551616 := by
 have h1 : 2 ^ e.toNat ≤ 2 ^ 11 := aZ aC aA
 have h2 : m * 2 ^ e.toNat ≤ 9007199254740991 * 2 ^ 11 := eE aA h1
 exact aV h2 aC
theorem bwM (h : n ≤ 9223372036854775808) : IntKind.i64.wrap (IntKind.u64.wrap (0 - (n : Int))) = -(n : Int) := by
 simp only [IntKind.wrap, IntKind.bits, IntKind.signed]
 simp
 split <;> omega
theorem chA (x : Nat) : ceV x < 9223372036854775808 := by
 unfold ceV bwN; split <;> omega
theorem bqO (h : 9223372036854775808 ≤ x) : alU x = -((ceV x : Nat) : Int) := aN h
theorem bqN (h : ¬ 9223372036854775808 ≤ x) : alU x = (x : Int) := aL h

theorem arF (a : Nat) (ha : a < 18446744073709551616) : Fn 172 [.int .u64 (a : Int)] (.int .i64 (alU a)) := by
 intro H
 have hab := chA a
 have h63 : (2 : Nat) ^ 63 = 9223372036854775808 := by decide
 refine .of_body func172 rfl ntmps172 results172 rfl ?_
 iterate 9 refine AX ?_
 iterate 4 refine AM ?_
 refine .cx rfl (fun hc5 => ?_) (fun hc5 => ?_)
 ·iterate 3 refine AX ?_
  refine .cl rfl call228 (evs1 rfl) (bmM _ aB _) ?_
  iterate 8 refine AX ?_
  refine ⟨?_, rfl⟩
  rw [h63] at hc5
  rw [bqO aA]; rfl
 iterate 5 refine AX ?_
 refine .p rfl (qX U22 U3 (tm rfl) (wrapI64 aA (by rw [h63] at hc5; omega))) ?_
 iterate 5 refine AX ?_
 refine ⟨?_, rfl⟩
 rw [h63] at hc5
 rw [bqN aA]; rfl

theorem avG (a b : Nat) (ha : a < 18446744073709551616) (hb : b < 18446744073709551616) : Fn 105 [.int .u64 (a : Int), .int .u64 (b : Int)] (.tuple [.int .i64 (axW a b), .bool (!decide (zV a = 4 ∨ zV b = 4))]) := by
 intro H
 refine .of_body func105 rfl ntmps105 results105 rfl ?_
 iterate 7 refine AX ?_
 refine .seqTo 15 (.bool (decide (zV a = 4 ∨ zV b = 4))) [0, 1, 4, 5] ?_ ?_
 ·-- region 1
  iterate 2 refine AX ?_
  refine .cl rfl C89 (evs1 rfl) (qU _ aB _) ?_
  iterate 2 refine AX ?_
  refine zD (t := 11) rfl (fun hg11 => ?_) (fun hg11 => ?_)
  ·have hh11 := hg11; try simp only [aO] at hh11
   iterate 5 refine AX ?_
   exact ⟨rfl, zO rfl (by (refine Eq.symm ?_; exact bG aA)) sX, rfl⟩
  have hh11 := hg11; try simp only [aM] at hh11
  refine AX ?_
  refine .gs rfl rfl rfl aB (zB C89 (evs1 rfl) (qU _ aB _)) ?_
  rintro _ _ ⟨rfl, hH⟩
  obtain rfl := hH.symm
  iterate 3 refine AX ?_
  exact ⟨rfl, zO rfl (by (refine Eq.symm ?_; exact aY.2 aA)) sX, rfl⟩
 refine .sub [(15, _), (0, _), (1, _), (4, _), (5, _)] sX ?_
 refine .cx rfl (fun hc15 => ?_) (fun hc15 => ?_)
 ·iterate 9 refine AX ?_
  refine ⟨?_, rfl⟩
  unfold axW
  rw [aN hc15, bG hc15]
  rfl
 iterate 6 refine AX ?_
 refine .cl rfl call172 (evs1 rfl) (arF _ aB _) ?_
 refine AX ?_
 refine .cl rfl call172 (evs1 rfl) (arF _ aB _) ?_
 iterate 13 refine AX ?_
 refine .cx rfl (fun hc20 => ?_) (fun hc20 => ?_)
 ·iterate 10 refine AX ?_
  refine ⟨?_, rfl⟩
  unfold axW
  rw [aL hc15, bD hc15, aN hc20]
  rfl
 iterate 8 refine AX ?_
 refine .cx rfl (fun hc24 => ?_) (fun hc24 => ?_)
 ·iterate 10 refine AX ?_
  refine ⟨?_, rfl⟩
  unfold axW
  rw [aL hc15, bD hc15, aI, aJ]
  rfl
 iterate 11 refine AX ?_
 refine ⟨?_, rfl⟩
 unfold axW
 rw [aL hc15, bD hc15, aI, aI]
 rfl

theorem ahU (a : Nat) (ha : a < 18446744073709551616) : Fn 40 [.int .u64 (a : Int)] (.int .i64 (akD a)) := by
 intro H
 refine .of_body func40 rfl ntmps40 results40 rfl ?_
 iterate 8 refine AX ?_
 refine .cl rfl call105 (.cons (tm rfl) (.cons (zI 0) .nil)) (avG a 0 ha aC _) ?_
 iterate 15 refine AX ?_
 exact ⟨rfl, rfl⟩

theorem baK (a : Nat) (ha : a < 18446744073709551616) : Fn 194 [.int .u64 (a : Int)] (.tuple [spA (aoE a) (aoD a) (aoC a) (anC a), .bool (decide (yU a < 0))]) := by
 intro H
 have hpe := aaM a
 have hpm := acG a
 refine .of_body func194 rfl ntmps194 results194 rfl ?_
 iterate 2 refine AX ?_
 refine .al zr208 (fun b2 hb2 => ?_)
 iterate 6 refine AX ?_
 refine .cl rfl C181 (evs1 rfl) (acA a ha _) ?_
 iterate 16 refine AX ?_
 refine .cx rfl (fun hc16 => ?_) (fun hc16 => ?_)
 ·iterate 4 refine AX ?_
  refine .p rfl (yB zr208 pl208 (.cons (tm rfl) (.inl rfl) (.cons (tm rfl) (.inl rfl) .nil)) rfl) ?_
  iterate 4 refine AX ?_
  refine .frz (t := 2) rfl (hb2) ?_
  iterate 3 refine AX ?_
  refine ⟨?_, rfl⟩
  obtain ⟨e1, e2, e3⟩ := cfX (a := a) aA
  rw [e1, e2, e3, bD (show ¬ yU a < 0 by omega)]; rfl
 iterate 5 refine AX ?_
 refine .p rfl (yB zr149 pl149 (.cons (tm rfl) (.inl rfl) .nil) rfl) ?_
 iterate 3 refine AX ?_
 refine .cl rfl call188 (evs2 rfl rfl) ((by have h := fun H => amP (yX a) (dI hpm aE) ((-yU a).toNat - 1) aA (-yU a - 1) aA H; rw [alC (dI hpm aC)] at h; exact h _)) ?_
 iterate 3 refine AX ?_
 refine .al zr149 (fun b7 hb7 => ?_)
 have hn2_7 := Heap.ne_of (oS _ _ _) hb7
 iterate 4 refine AX ?_
 refine .frz (t := 7) rfl (hb7) ?_
 refine AX ?_
 have hnl : yX a / 2 ^ ((-yU a).toNat - 1) < M1 := aV (dF _ _) (dI hpm aC)
 have hnl2 : yX a / 2 ^ ((-yU a).toNat - 1) < 18446744073709551616 := hnl
 obtain ⟨e1, e2, e3⟩ := bwJ (a := a) aA rfl
 rw [alC hnl]
 iterate 2 refine AX ?_
 refine .p rfl (zA U149 rfl Z22 (tm rfl)) ?_
 iterate 4 refine AM ?_
 refine .p rfl (zA U149 rfl Z22 (tm rfl)) ?_
 iterate 2 refine AM ?_
 refine .p rfl (yB zr208 pl208 (.cons (tm rfl) (.inl rfl) (.cons (tm rfl) (.inl rfl) (.cons (tm rfl) (.inl rfl) (.cons (tm rfl) (.inl rfl) .nil)))) rfl) ?_
 iterate 4 refine AX ?_
 refine .frz (t := 2) rfl (hb2) ?_
 iterate 2 refine AX ?_
 refine ⟨?_, rfl⟩
 rw [← e1, ← e2, ← e3, bG (show yU a < 0 by omega)]; rfl

theorem bjW (neg half rest : Bool) (n : Nat) : Fn 196 [spA neg half rest n] (.bool (half || rest)) := by
 intro H
 refine .of_body func196 rfl ntmps196 results196 rfl ?_
 iterate 8 refine AX ?_
 refine .p rfl (zA U208 rfl Z4 (tm rfl)) ?_
 iterate 2 refine AX ?_
 refine zD (t := 5) rfl (fun hg5 => ?_) (fun hg5 => ?_)
 ·iterate 8 refine AX ?_
  refine ⟨?_, rfl⟩
  rw [show half = _ from hg5]
  rfl
 refine .gp rfl rfl rfl aB (zA U208 rfl Z4 (tm rfl)) ?_
 iterate 7 refine AX ?_
 refine ⟨?_, rfl⟩
 rw [show half = _ from hg5]
 rfl

theorem avY (neg half rest : Bool) (n : Nat) : Fn 195 [spA neg half rest n, .int .i64 2] (.int .u64 (n : Int)) := by
 intro H
 refine .of_body func195 rfl ntmps195 results195 rfl ?_
 iterate 15 refine AM ?_
 iterate 4 refine AX ?_
 refine .cond_false (tm rfl) aD ?_
 iterate 6 refine AX ?_
 refine .cond_false (tm rfl) aD ?_
 iterate 6 refine AX ?_
 refine .cond_false (tm rfl) aD ?_
 iterate 6 refine AX ?_
 refine .cond_false (tm rfl) aD ?_
 iterate 6 refine AX ?_
 refine .cond_false (tm rfl) aD ?_
 iterate 5 refine AX ?_
 refine .p rfl (zA U208 rfl Z22 (tm rfl)) ?_
 iterate 6 refine AX ?_
 exact ⟨rfl, rfl⟩

theorem bbJ (a : Nat) (ha : a < 18446744073709551616) : Fn 135 [.int .u64 (a : Int)] (.bool (isN a)) := by
 intro H
 refine .of_body func135 rfl ntmps135 results135 rfl ?_
 iterate 8 refine AX ?_
 refine .cl rfl call194 (evs1 rfl) (baK a ha _) ?_
 iterate 3 refine AX ?_
 refine .al zr208 (fun b3 hb3 => ?_)
 iterate 4 refine AX ?_
 refine .frz (t := 3) rfl (hb3) ?_
 iterate 3 refine AX ?_
 refine .cl rfl C89 (evs1 rfl) (qU _ aB _) ?_
 iterate 2 refine AX ?_
 refine zD (t := 13) rfl (fun hg13 => ?_) (fun hg13 => ?_)
 ·have hh13 := hg13; try simp only [aO] at hh13
  refine AX ?_
  refine .gs rfl rfl rfl aB (zB call196 (evs1 rfl) (bjW _ _ _ _ _)) ?_
  rintro _ _ ⟨rfl, hH⟩
  obtain rfl := hH.symm
  rw [chP]
  iterate 7 refine AX ?_
  refine ⟨?_, rfl⟩
  unfold isN
  rw [bG (show zV a < 3 by omega), Bool.not_not]
  rfl
 have hh13 := hg13; try simp only [aM, cH] at hh13
 iterate 9 refine AX ?_
 refine ⟨?_, rfl⟩
 unfold isN
 rw [bD (show ¬ zV a < 3 by omega)]
 rfl

theorem bbI (a : Nat) (ha : a < 18446744073709551616) (H : Heap) : ACall prog 134 [.int .u64 (a : Int), .int .i64 2] H (fun y H' => y = .tuple [.int .i64 (toN a).1, .int .i64 (toN a).2] ∧ H' = H) := by
 have hpe := aaM a
 have hpm := acG a
 have htl : toM a < 18446744073709551616 ∨ 11 < yU a := by
  rcases Int.lt_or_le 11 (yU a) with h | h
  ·exact .inr h
  left; unfold toM; split
  ·exact aV (dF _ _) aA
  exact bzP hpm h
 refine ACall.of_body func134 rfl ntmps134 results134 rfl ?_
 iterate 19 refine AX ?_
 refine AWP.cond_false (tm rfl) aD ?_
 iterate 3 refine AX ?_
 refine .cl rfl C89 (evs1 rfl) (qU _ aB _) ?_
 iterate 4 refine AX ?_
 refine AWP.cond (tm rfl) (fun hc18 => ?_) (fun hc18 => ?_)
 ·try simp only [aO] at hc18
  iterate 9 refine AX ?_
  refine Ret.go (.cons (.tmp _ _ rfl) (.cons (.tmp _ _ rfl) .nil)) _ (hRa _) ?_
  refine ⟨?_, rfl⟩
  rw [cbJ aA]; rfl
 try simp only [aM, dK] at hc18
 have h3 : ¬ 3 ≤ zV a := by omega
 iterate 6 refine AX ?_
 refine .cl rfl call194 (evs1 rfl) (baK a ha _) ?_
 iterate 3 refine AX ?_
 refine .al zr208 (fun b6 hb6 => ?_)
 refine .e0 (zP Z208 (tm rfl) (tm rfl) rfl rfl (.inr ⟨_, rfl⟩) (oS _ _ _) (lB rfl)) ?_
 try first | rw [sS] | rw [sU aB]
 iterate 3 refine AX ?_
 refine AWP.meet (fun env H2 => (¬ (0 ≤ yU a ∧ 11 < yU a)) ∧ env = [(4, .int .i64 0), (5, .int .i64 0), (6, .ptr (some ⟨b6, 0, none⟩))] ∧ H2 = H.set b6 (.box 208 [.bool (aoE a), .bool (aoD a), .bool (aoC a), .int .u64 ((toM a : Nat) : Int)])) ?_ ?_
 ·iterate 5 refine AX ?_
  refine AWP.cond (tm rfl) (fun hc27 => ?_) (fun hc27 => ?_)
  ·try simp only [aO] at hc27
   have he0 : yU a < 0 := by simpa using hc27
   refine AX ?_
   refine .e rfl (abO isAgg208 Z208 (tm rfl) (oS _ _ _) (lB rfl)) ?_
   refine AX ?_
   refine .cl rfl call195 (evs2 rfl rfl) (avY _ _ _ _ _) (.p rfl (zC U208 rfl Z22 (tm rfl)) (.e0 (zP Z22 (tm rfl) (tm rfl) rfl rfl (.inl rfl) (oS _ _ _) (lB rfl)) ?_))
   try first | rw [sS] | rw [sU aB]
   iterate 2 refine AX ?_
   refine Meets.mk (M := fun env H2 => (¬ (0 ≤ yU a ∧ 11 < yU a)) ∧ env = [(4, .int .i64 0), (5, .int .i64 0), (6, .ptr (some ⟨b6, 0, none⟩))] ∧ H2 = H.set b6 (.box 208 [.bool (aoE a), .bool (aoD a), .bool (aoC a), .int .u64 ((toM a : Nat) : Int)])) ⟨by omega, rfl, by rw [show toM a = anC a by unfold toM anC; rw [aN he0, aN he0]]; rfl⟩ sX (hRa _)
  try simp only [aM, cH] at hc27
  have he0 : ¬ yU a < 0 := by simpa using hc27
  iterate 3 refine AX ?_
  refine .cl rfl C181 (evs1 rfl) (acA a ha _) ?_
  iterate 16 refine AX ?_
  refine AWP.cond (tm rfl) (fun hc39 => ?_) (fun hc39 => ?_)
  ·try simp only [aO] at hc39
   iterate 6 refine AX ?_
   refine AWP.dropb (hb6) ?_
   iterate 3 refine AX ?_
   refine Ret.go (.cons (.tmp _ _ rfl) (.cons (.tmp _ _ rfl) .nil)) _ (hRa _) ?_
   refine ⟨?_, rfl⟩
   rw [bgQ h3]
   rw [aJ]
   rfl
  try simp only [aM, cH] at hc39
  have he11 := bzP (e := yU a) hpm aA
  iterate 5 refine AX ?_
  refine .p rfl (.as (b := .int .u64 ((toM a : Nat) : Int)) (by congr 2; exact (aL he0).symm) (qA (q := (yU a).toNat) (tm rfl) (by rw [show (((yU a).toNat : Nat) : Int) = yU a by omega]; exact .tmp _ _ rfl) aA he11)) ?_
  refine .p rfl (zC U208 rfl Z22 (tm rfl)) (.e0 (zP Z22 (tm rfl) (tm rfl) rfl rfl (.inl rfl) (oS _ _ _) (lB rfl)) ?_)
  try first | rw [sS] | rw [sU aB]
  iterate 2 refine AX ?_
  refine Meets.mk (M := fun env H2 => (¬ (0 ≤ yU a ∧ 11 < yU a)) ∧ env = [(4, .int .i64 0), (5, .int .i64 0), (6, .ptr (some ⟨b6, 0, none⟩))] ∧ H2 = H.set b6 (.box 208 [.bool (aoE a), .bool (aoD a), .bool (aoC a), .int .u64 ((toM a : Nat) : Int)])) ⟨by omega, rfl, rfl⟩ sX (hRa _)
 rintro _ _ ⟨hm11, rfl, rfl⟩
 have htl2 : toM a < 18446744073709551616 := by omega
 iterate 2 refine AX ?_
 refine AWP.seqTo 44 (.bool (aoE a && decide (toM a ≤ 9223372036854775808))) [4, 5, 6] ?_ ?_
 ·-- region 12
  refine AX ?_
  refine .p rfl (zC U208 rfl Z4 (tm rfl)) (.e rfl (yD G4 (tm rfl) (oS _ _ _) rfl) ?_)
  refine AX ?_
  refine zD (t := 47) rfl (fun hg47 => ?_) (fun hg47 => ?_)
  ·have hh47 := hg47; try simp only [aK] at hh47
   refine .gp rfl rfl rfl aB (zC U208 rfl Z22 (tm rfl)) (.gs rfl rfl rfl aB (yD G22 (tm rfl) (oS _ _ _) rfl) ?_)
   rintro _ _ ⟨rfl, hH⟩
   obtain rfl := hH.symm
   iterate 4 refine AM ?_
   exact ⟨rfl, zO rfl (by (rw [show aoE a = _ from hg47, Bool.true_and]; exact aY.2 aA)) sX, rfl⟩
  have hh47 := hg47; try simp only [aK] at hh47
  iterate 4 refine AX ?_
  refine .as rfl rfl (.nil ?_)
  exact ⟨rfl, zO rfl (by (rw [show aoE a = _ from hg47, Bool.false_and])) sX, rfl⟩
 refine AWP.sub [(44, _), (4, _), (5, _), (6, _)] sX ?_
 refine AWP.cond (tm rfl) (fun hc44 => ?_) (fun hc44 => ?_)
 ·try simp only [aK] at hc44
  simp only [bK, aO] at hc44
  refine .seq (.region (.p rfl (zC U208 rfl Z22 (tm rfl)) (.e rfl (yD G22 (tm rfl) (oS _ _ _) rfl) (.p rfl (aqV (tm rfl)) (.p rfl (ajI U22 U3 (tm rfl)) (.as rfl rfl (.p rfl (zG zH) (.nil ?_))))))))
  refine Next.go ?_
  refine AWP.dropb (hb6) ?_
  refine .ret ?_
  refine Block.rt ?_
  refine Next.rt ?_
  refine Ret.go (.cons (.tmp _ _ rfl) (.cons (.tmp _ _ rfl) .nil)) _ (hRa _) ?_
  refine ⟨?_, rfl⟩
  rw [bgQ h3]
  rw [aI, aN hc44.1, aN hc44.2, ← bwM hc44.2]
  rfl
 try simp only [aK] at hc44
 simp only [bU, aM] at hc44
 refine AWP.seqTo 56 (.bool (!aoE a && decide (toM a < 9223372036854775808))) [4, 5, 6] ?_ ?_
 ·-- region 14
  refine .region (.p rfl (zC U208 rfl Z4 (tm rfl)) (.e rfl (yD G4 (tm rfl) (oS _ _ _) rfl) ?_))
  iterate 2 refine AX ?_
  refine zD (t := 60) rfl (fun hg60 => ?_) (fun hg60 => ?_)
  ·have hh60 := hg60; try simp only [eV] at hh60
   refine .gp rfl rfl rfl aB (zC U208 rfl Z22 (tm rfl)) (.gs rfl rfl rfl aB (yD G22 (tm rfl) (oS _ _ _) rfl) ?_)
   rintro _ _ ⟨rfl, hH⟩
   obtain rfl := hH.symm
   iterate 4 refine AM ?_
   exact ⟨rfl, zO rfl (by (rw [show (!aoE a) = _ from hg60, Bool.true_and]; exact aY.2 aA)) sX, rfl⟩
  have hh60 := hg60; try simp only [eH] at hh60
  iterate 6 refine AX ?_
  exact ⟨rfl, zO rfl (by (rw [show (!aoE a) = _ from hg60, Bool.false_and])) sX, rfl⟩
 refine AWP.sub [(56, _), (4, _), (5, _), (6, _)] sX ?_
 refine AWP.cond (tm rfl) (fun hc56 => ?_) (fun hc56 => ?_)
 ·try simp only [aK] at hc56
  simp only [bK, eV, aO] at hc56
  iterate 2 refine AX ?_
  refine .p rfl (zC U208 rfl Z22 (tm rfl)) (.e rfl (yD G22 (tm rfl) (oS _ _ _) rfl) ?_)
  iterate 5 refine AX ?_
  refine AWP.dropb (hb6) ?_
  iterate 3 refine AX ?_
  refine Ret.go (.cons (.tmp _ _ rfl) (.cons (.tmp _ _ rfl) .nil)) _ (hRa _) ?_
  refine ⟨?_, rfl⟩
  rw [bgQ h3]
  rw [aI, aL (by rw [hc56.1]; decide), aN hc56.2]
  rfl
 try simp only [aK] at hc56
 simp only [bU, eH, aM] at hc56
 iterate 9 refine AX ?_
 refine AWP.dropb (hb6) ?_
 refine AX ?_
 refine Ret.go (.cons (.tmp _ _ rfl) (.cons (.tmp _ _ rfl) .nil)) _ (hRa _) ?_
 refine ⟨?_, rfl⟩
 rw [bgQ h3]
 rw [aI]
 cases hnb : aoE a <;> first | (rw [aL aC, aL (by simp [hnb] at hc56; omega)]; rfl) | (rw [aN rfl, aL (by simp [hnb] at hc44; omega)]; rfl)

end
end Go.Proofs.YtmmgbnolccpjoaaGreatDoor
