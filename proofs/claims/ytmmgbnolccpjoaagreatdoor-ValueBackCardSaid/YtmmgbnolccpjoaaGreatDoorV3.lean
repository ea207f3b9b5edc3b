import Derived.Test.YtmmgbnolccpjoaaGreatDoorV2
namespace Go.Proofs.YtmmgbnolccpjoaaGreatDoor
open Go Go.RowKit

variable {L a m n x : Nat} {more : Bool}
theorem rne_zero {k : Nat} (h : n < 2 ^ (k - 1)) : rne n k more = 0 := by
 have h1 : n / 2 ^ (k - 1) = 0 := bX h
 have h2 : n / 2 ^ k = 0 := bX (bM h (aT (by decide) (by omega)))
 unfold rne
 rw [h1, h2, aN (by omega)]
theorem ayQ {e : Int} (h : e + yJ n ≤ -1076) (he : e ≤ 0) : yB false n e more = 0 := by
 unfold yB
 split
 ·rfl
 rw [aN (by omega)]
 have hu : yH n e = -1074 := by unfold yH; rw [aO (by omega)]
 have hm : acG n e more = 0 := by
  rcases aY n with h0 | h0
  ·rename_i hn; exact absurd (.inl h0) hn
  have hb := adQ h0
  unfold acG
  rw [hu, aN (by omega)]
  refine rne_zero (bM (afM n) (aT (by decide) (by omega)))
 rw [hm, hu]; rfl
theorem anJ {e : Int} (h : 1026 ≤ e + yJ n) (he : -10000 ≤ e) (hn : 0 < n) : yB false n e more = akT := by
 unfold yB
 rw [aN (by omega)]
 split
 ·unfold aaH; simp
 rw [atF]
 have hu : yH n e = e + yJ n - 53 := by unfold yH; rw [aN (by omega)]
 have hg := bkX (n := n) (e := e) (more := more) (by omega) hn
 unfold aaH pk
 rw [aN (by decide), bW]
 split
 ·unfold acQ; rw [aN (by omega), aO (by omega)]
 unfold acQ; rw [aN (by omega), aO (by omega)]
theorem ten_330 : ∃ a b : Nat, a = 1080 ∧ b = 330 ∧ 2 ^ a ≤ 10 ^ b := ⟨1080, 330, rfl, rfl, by decide +kernel⟩
theorem ten_310 : ∃ a b : Nat, a = 1026 ∧ b = 310 ∧ 2 ^ a ≤ 10 ^ b := ⟨1026, 310, rfl, rfl, by decide +kernel⟩
theorem beQ {k : Int} (hm : m < 10 ^ L) (hp : (L : Int) + k ≤ -330) (hk : -2000 ≤ k) : aiV m k = 0 := by
 obtain ⟨A, B, hA, hB, h330⟩ := ten_330
 unfold aiV
 rw [aN (by omega)]
 obtain ⟨j, hj⟩ : ∃ j : Nat, k = -(j : Int) := ⟨(-k).toNat, by omega⟩
 subst hj
 rw [show (-(-(j : Int))).toNat = j by omega]
 have hjl := ahV j
 unfold avK
 refine ayQ ?_ (by omega)
 generalize hK : yJ (10 ^ j) + 127 = K
 have h1 : m * 2 ^ K / 10 ^ j < 2 ^ (K - A) ∧ A ≤ K ∨ K < A := by
  rcases bZ K A with h | h
  ·exact .inr h
  refine .inl ⟨?_, h⟩
  rw [bJ (acF j)]
  have e1 : 2 ^ K = 2 ^ (K - A) * 2 ^ A := by rw [← bB]; congr 1; omega
  have e2 : 10 ^ L * 10 ^ B ≤ 10 ^ j := by rw [← bB]; exact aT (by decide) (by omega)
  rw [e1, bD m, bC]
  refine fB ?_ (bI (by decide))
  calc 2 ^ A * m ≤ 10 ^ B * m := aV _ h330
   _ < 10 ^ B * 10 ^ L := fB hm (acF _)
   _ = 10 ^ L * 10 ^ B := bD _ _
   _ ≤ 10 ^ j := e2
 rcases h1 with ⟨h1, hKA⟩ | h1
 ·have := qB.2 h1
  omega
 exfalso
 have h2 : 2 ^ A ≤ 10 ^ j := aZ h330 (aT (by decide) (by omega))
 have := aaX.2 h2
 omega
theorem beR {k : Int} (hm : 10 ^ L ≤ m) (hp : 310 ≤ (L : Int) + k) (hk : -2000 ≤ k) : aiV m k = akT := by
 obtain ⟨A, B, hA, hB, h310⟩ := ten_310
 have hm0 : 0 < m := bM (acF L) hm
 unfold aiV
 split
 ·refine anJ ?_ (by decide) (fO hm0 (acF _))
  have h1 : 2 ^ A ≤ m * 10 ^ k.toNat := by
   refine aZ h310 (aZ (aT (by decide) (show B ≤ L + k.toNat by omega)) ?_)
   rw [bB]; exact aV _ hm
  have := aaX.2 h1
  omega
 obtain ⟨j, hj⟩ : ∃ j : Nat, k = -(j : Int) := ⟨(-k).toNat, by omega⟩
 subst hj
 rw [show (-(-(j : Int))).toNat = j by omega]
 have hjl := ahV j
 have h1 : 2 ^ (yJ (10 ^ j) + 127 + A) ≤ m * 2 ^ (yJ (10 ^ j) + 127) / 10 ^ j := by
  rw [cZ (acF j), bB, bD m, bC]
  refine bT _ ?_
  refine aZ (aV _ h310) ?_
  rw [← bB]
  exact aZ (aT (by decide) (by omega)) hm
 have h2 := aaX.2 h1
 unfold avK
 refine anJ (by omega) (by omega) (bM (bI (by decide)) h1)
/-! ### short decimals -/
theorem amQ {t : Nat} (h0 : 0 < n) (h : n < 9007199254740992) (ht : t ≤ 500) : ∃ j : Nat, j ≤ 52 ∧ qI (yB false n t false) = n * 2 ^ j ∧ qF (yB false n t false) = (t : Int) - j ∧ yD (yB false n t false) = 2 ∧ yB false n t false < 9223372036854775808 := by
 have e53 : (9007199254740992 : Nat) = 2 ^ 53 := by decide
 have hb : yJ n ≤ 53 := qB.2 (by rw [← e53]; exact h)
 have hb0 := adQ h0
 have hu : yH n t = (t : Int) + yJ n - 53 := by unfold yH; rw [aN (by omega)]
 refine ⟨53 - yJ n, by omega, ?_⟩
 have hm : acG n t false = n * 2 ^ (53 - yJ n) := by
  unfold acG
  rw [hu, aO (by omega)]
  congr 2; omega
 have hlo : 4503599627370496 ≤ n * 2 ^ (53 - yJ n) := by
  have h1 := apG h0
  have h2 := aV (2 ^ (53 - yJ n)) h1
  rw [← bB, show yJ n - 1 + (53 - yJ n) = 52 by omega] at h2
  have e52 : (4503599627370496 : Nat) = 2 ^ 52 := by decide
  omega
 have hhi : n * 2 ^ (53 - yJ n) < 9007199254740992 := by
  have h2 := Nat.mul_lt_mul_of_pos_right (afM n) (show 0 < 2 ^ (53 - yJ n) from bI (by decide))
  rw [← bB, show yJ n + (53 - yJ n) = 53 by omega] at h2
  omega
 have hr : yB false n t false = n * 2 ^ (53 - yJ n) + (t + yJ n + 1021) * 4503599627370496 := by
  unfold yB
  rw [aN (by omega), aN (by omega), hm, hu, atF]
  unfold aaH pk acQ
  rw [aN (by decide), bW, aN (by omega), aN (by omega), aN (by omega)]
  congr 2
  omega
 rw [hr]
 generalize n * 2 ^ (53 - yJ n) = q at *
 have hd : (q + (t + yJ n + 1021) * 4503599627370496) / 4503599627370496 % 2048 = t + yJ n + 1022 := by omega
 have hmod : (q + (t + yJ n + 1021) * 4503599627370496) % 4503599627370496 = q - 4503599627370496 := by omega
 have hk : yD (q + (t + yJ n + 1021) * 4503599627370496) = 2 := by
  unfold yD
  rw [hd, aN (by omega), aN (by omega)]
 refine ⟨?_, ?_, hk, by omega⟩
 ·unfold qI
  rw [hk, aN (by decide), aO rfl, hmod]; omega
 unfold qF
 rw [hk, aN (by decide), aO rfl, hd]; omega
theorem bgI {b s t : Nat} (ha0 : 0 < a) (ha : a < 9007199254740992) (hb0 : 0 < b) (hb : b < 9007199254740992) (hs : s ≤ 500) (ht : t ≤ 500) : aeA (yB false a s false) (yB false b t false) = yB false (a * b) ((s + t : Nat) : Int) false := by
 obtain ⟨i, hi, a1, a2, a3, a4⟩ := amQ ha0 ha hs
 obtain ⟨j, hj, b1, b2, b3, b4⟩ := amQ hb0 hb ht
 have hn : ajS (yB false a s false) (yB false b t false) = false := by
  unfold ajS
  refine bG ?_
  rw [bX (show _ < 2 ^ 63 from a4), bX (show _ < 2 ^ 63 from b4)]
  simp
 unfold aeA
 rw [a3, b3, aN (by decide), aN (by decide), hn, a1, a2, b1, b2]
 rw [show a * 2 ^ i * (b * 2 ^ j) = a * b * 2 ^ (i + j) by rw [bB, Nat.mul_mul_mul_comm], aeO (by omega) (by omega)]
 congr 1; omega
theorem ten_five (i : Nat) (hi : i ≤ 500) : yB false (10 ^ i) 0 false = yB false (5 ^ i) (i : Int) false := by
 rw [show (10 : Nat) = 5 * 2 by decide, Nat.mul_pow, aeO (by decide) (by omega)]
 congr 1; omega
theorem biJ : ∀ i : Fin 23, tenB i.1 = yB false (10 ^ i.1) 0 false := by decide +kernel
theorem bmB {j : Nat} (hm : 0 < m) (hm2 : m < 9007199254740992) (hj : j ≤ 22) : fastN m j = aiV m (j : Int) := by
 have h5 : 5 ^ j < 9007199254740992 := aR (aT (by decide) hj) (by decide)
 have hf := bgI (s := 0) (t := j) hm hm2 (bI (by decide) : 0 < 5 ^ j) h5 (by decide) (by omega)
 unfold fastN aiV
 rw [aO (by omega), biJ ⟨j, by omega⟩, ten_five j (by omega)]
 rw [show ((0 : Nat) : Int) = 0 from rfl, bW] at hf
 rw [hf, show ((j : Int)).toNat = j by omega, show (10 : Nat) = 5 * 2 by decide, Nat.mul_pow, ← bC, aeO (by decide) (by omega)]
 congr 1; omega
theorem num_low {c : UInt8} {r : List UInt8} (hc : isD c) (h0 : c ≠ 48) : 10 ^ r.length ≤ num (c :: r) := by
 rw [ajR]
 have : 49 ≤ c.toNat := by
  rcases bZ c.toNat 49 with h | h
  ·have h48 : c.toNat = 48 := by unfold isD at hc; omega
   exact absurd (UInt8.toNat_inj.1 (show c.toNat = (48 : UInt8).toNat by simp only [UInt8.reduceToNat]; omega)) h0
  exact h
 exact aZ (Nat.le_mul_of_pos_left _ (by omega)) (fV _ _)
theorem avB {ds : List UInt8} {e : Int} (h : qE ds e = true) (hne : ds ≠ []) : 10 ^ (ds.length - 1) ≤ num ds ∧ num ds < 10 ^ ds.length := by
 have hd := qQ h
 refine ⟨?_, afX hd⟩
 match ds, hne with
 | c :: r, _ =>
  refine num_low (hd c (by simp)) ?_
  rintro rfl
  unfold qE at h
  simp at h
theorem biV {ds : List UInt8} {e : Int} (h : qE ds e = true) (hne : ds ≠ []) (hp : -400 ≤ (ds.length : Int) + e ∧ (ds.length : Int) + e ≤ 400) : ahH ds e = aiV (num ds) e := by
 have hd := qQ h
 have hl := aaY h
 have hlp := cI.2 hne
 obtain ⟨hn1, hn2⟩ := avB h hne
 have hn0 : 0 < num ds := bM (acF _) hn1
 unfold ahH
 by_cases h1 : (ds.length : Int) + e < -330
 ·rw [aO (.inr h1), beQ hn2 (by omega) (by omega)]
 rw [aN (fun q => q.elim hne h1)]
 by_cases h2 : 310 < (ds.length : Int) + e
 ·rw [aO h2, beR hn1 (by omega) (by omega)]
 rw [aN h2]
 by_cases h3 : ds.length ≤ 19
 ·rw [aO h3]
  by_cases h4 : ds.length ≤ 15 ∧ 0 ≤ e ∧ e ≤ 22
  ·rw [aO h4]
   have h15 : num ds < 9007199254740992 := bM hn2 (aZ (aT (by decide) h4.1) (by decide))
   have := bmB hn0 h15 (j := e.toNat) (by omega)
   rw [this]; congr 1; omega
  rw [aN h4]
  split
  ·rename_i hq
   exact ayZ hn0 (by omega) hq
  exact auV hn0 (by omega)
 rw [aN h3]
 exact auV hn0 (by omega)
section
open Go Go.RowKit
set_option maxRecDepth 100000

theorem amH (h : 1 ≤ yD x ∧ yD x ≤ 2) : 4503599627370496 ≤ acD x ∧ acD x < 9007199254740992 ∧ yJ (qI x) ≤ 53 := by
 have h0 : 0 < qI x := by
  unfold qI
  split
  ·rename_i q
   unfold yD at h q
   revert h q
   repeat' split
   all_goals omega
  rw [aO (by omega)]; omega
 have hl := acB x
 have hb : yJ (qI x) ≤ 53 := qB.2 (cR hl (by decide))
 have h1 : 0 < yJ (qI x) := aaX.2 (by rw [dC]; exact h0)
 have h2 : qI x < 2 ^ yJ (qI x) := qB.1 (aX _)
 have h3 : 2 ^ (yJ (qI x) - 1) ≤ qI x := aaX.1 (by omega)
 unfold acD
 refine ⟨?_, ?_, hb⟩
 ·have := aV (2 ^ (53 - yJ (qI x))) h3
  rw [← bB, show yJ (qI x) - 1 + (53 - yJ (qI x)) = 52 by omega] at this
  exact aZ (by decide) this
 have := (Nat.mul_lt_mul_right (a := 2 ^ (53 - yJ (qI x))) (bI (by decide))).2 h2
 rw [← bB, show yJ (qI x) + (53 - yJ (qI x)) = 53 by omega] at this
 exact cR this (by decide)
theorem ahO (x : Nat) (h : yJ (qI x) ≤ 53) : -1128 ≤ aiN x ∧ aiN x ≤ 972 := by
 have := aaS x
 unfold aiN; omega
theorem u2_high : u2 (m * 2 ^ 64) = .agg [.int .u64 (m : Int), .int .u64 0] := by
 unfold u2 w2
 rw [← aeZ, fC _ (by decide), Nat.mul_mod_left]; rfl
theorem high_lt (h : m < 9007199254740992) : m * 2 ^ 64 < M2 := by
 have h2 : m * 2 ^ 64 ≤ 9007199254740991 * 2 ^ 64 := aV _ (by omega)
 exact aR h2 (by decide +kernel)
theorem with_or {neg : Bool} : neg = true → x < 9223372036854775808 → (x ||| 9223372036854775808) = aaH neg + x := by
 intro h hx; rw [azN hx, h]; rfl
theorem sqrt_lt (h : acD x < 9007199254740992) : aiS x < 170141183460469231731687303715884105728 ∧ (aiT x = 73 ∨ aiT x = 74) := by
 have hk : aiT x = 73 ∨ aiT x = 74 := by unfold aiT; split <;> omega
 refine ⟨?_, hk⟩
 have h1 : 2 ^ aiT x ≤ 2 ^ 74 := aT (by decide) (by omega)
 have h2 : aiS x ≤ 9007199254740991 * 2 ^ 74 := dZ (by omega) h1
 exact aR h2 (by decide)
section
variable {P : Program} {env : Env} {H : Heap} {dst : Option Tmp} {ty : TypeId} {pos : String} {af : Array Edge} {gd : Option (Nat × Bool)}
def iandI (m q : Int) : Int := IntKind.i64.wrap ((BitVec.ofInt 64 m &&& BitVec.ofInt 64 q).toNat : Int)
theorem blN (m : Int) : iandI m 1 = m % 2 := by
 unfold iandI
 rw [BitVec.toNat_and, BitVec.toNat_ofInt, BitVec.toNat_ofInt]
 have e : ((1 : Int) % ((2 ^ 64 : Nat) : Int)).toNat = 2 ^ 1 - 1 := by decide
 rw [e, cO]
 rw [agG (by simp [IntKind.min, IntKind.signed, IntKind.bits]; omega) (by simp [IntKind.max, IntKind.bits, IntKind.signed]; omega)]
 omega
theorem bjZ {T T' : TypeId} {x y : Operand} {m q : Int} (hx : Ev env x (.int .i64 m)) (hy : Ev env y (.int .i64 q)) : APure P ⟨dst, .binOp .and T x y T', ty, pos, af, gd⟩ env (.int .i64 (iandI m q)) :=
 qU hx hy fun _ => ⟨_, .int _ _, fun w => by simp [binOp, Op.intBits, iandI]; rfl⟩
theorem bfG {T T' : TypeId} {x y : Operand} {m : Int} (hx : Ev env x (.int .i64 m)) (hy : Ev env y (.int .i64 1)) : APure P ⟨dst, .binOp .and T x y T', ty, pos, af, gd⟩ env (.int .i64 (m % 2)) := by
 rw [← blN]; exact bjZ hx hy
end
theorem bcK {n : Int} (h0 : n < 0) (h1 : -1000000 ≤ n) : IntKind.u64.wrap (0 - IntKind.u64.wrap n) = ((n.natAbs : Nat) : Int) := by
 simp only [IntKind.wrap, IntKind.bits, IntKind.signed]
 simp
 omega
theorem powS {u i p : Nat} (hp : p = bfI a u L i) : bfI a u L (i + 1) = if u / 2 ^ (L - 1 - i) % 2 = 1 then aeA (aeA p p) a else aeA p p := by rw [hp]; rfl

theorem agL (a : Nat) (ha : a < 18446744073709551616) (H : Heap) : ACall Tryz.prog 116 [.int .u64 (a : Int)] H (fun y H' => y = .bool (decide (yD a = 4)) ∧ H' = H) := by
 refine ACall.of_body Tryz.func116 rfl Tryz.ntmps116 Tryz.results116 rfl ?_
 refine .sr (.p rfl (zA zM) (.nr (.mv rfl rfl (.cl rfl C89 (evs1 rfl) (aaE _ (by assumption) _) (.p rfl (zR (tm rfl) zE) (.as rfl rfl (.ng (.ret ?_))))))))
 refine Ret.go (.cons (.tmp _ _ rfl) .nil) _ (hRa _) ?_
 refine ⟨?_, rfl⟩
 exact congrArg AV.bool (bA.2 (by omega))

theorem acI (a : Nat) (ha : a < 18446744073709551616) (H : Heap) : ACall Tryz.prog 117 [.int .u64 (a : Int)] H (fun y H' => y = .bool (decide (yD a = 3)) ∧ H' = H) := by
 refine ACall.of_body Tryz.func117 rfl Tryz.ntmps117 Tryz.results117 rfl ?_
 refine .sr (.p rfl (zA zM) (.nr (.mv rfl rfl (.cl rfl C89 (evs1 rfl) (aaE _ (by assumption) _) (.p rfl (zR (tm rfl) zE) (.as rfl rfl (.ng (.ret ?_))))))))
 refine Ret.go (.cons (.tmp _ _ rfl) .nil) _ (hRa _) ?_
 refine ⟨?_, rfl⟩
 exact congrArg AV.bool (bA.2 (by omega))

theorem acN (a : Nat) (ha : a < 18446744073709551616) (H : Heap) : ACall Tryz.prog 118 [.int .u64 (a : Int)] H (fun y H' => y = .bool (decide (yD a = 0)) ∧ H' = H) := by
 refine ACall.of_body Tryz.func118 rfl Tryz.ntmps118 Tryz.results118 rfl ?_
 refine .sr (.p rfl (zA zM) (.nr (.mv rfl rfl (.cl rfl C89 (evs1 rfl) (aaE _ (by assumption) _) (.p rfl (zR (tm rfl) zE) (.as rfl rfl (.ng (.ret ?_))))))))
 refine Ret.go (.cons (.tmp _ _ rfl) .nil) _ (hRa _) ?_
 refine ⟨?_, rfl⟩
 exact congrArg AV.bool (bA.2 (by omega))

theorem anS (neg : Bool) (x : Nat) (hx : x < 9223372036854775808) (H : Heap) : ACall Tryz.prog 119 [.bool neg, .int .u64 (x : Int)] H (fun y H' => y = .int .u64 ((aaH neg + x : Nat) : Int) ∧ H' = H) := by
 refine ACall.of_body Tryz.func119 rfl Tryz.ntmps119 Tryz.results119 rfl ?_
 refine .sr (.p rfl (zA (zI 0)) (.ng (.seq (.sr (.mv rfl rfl (.ng ?_))))))
 refine AWP.cond (tm rfl) (fun hc5 => ?_) (fun hc5 => ?_)
 ·try simp only [aK] at hc5
  refine .sr (.mv rfl rfl (.p rfl (abC (tm rfl) (zI 9223372036854775808) (by omega) (by omega)) (.as rfl rfl (.ng (.ret ?_)))))
  refine Next.rt ?_
  refine Ret.go (.cons (.tmp _ _ rfl) .nil) _ (hRa _) ?_
  refine ⟨?_, rfl⟩
  rw [← with_or hc5 hx]; rfl
 try simp only [aK] at hc5
 refine .skip ?_
 refine Next.go ?_
 refine .sr (.mv rfl rfl (.as rfl rfl (.ng (.ret ?_))))
 refine Ret.go (.cons (.tmp _ _ rfl) .nil) _ (hRa _) ?_
 refine ⟨?_, rfl⟩
 rw [show neg = false by simpa using hc5, show aaH false + x = x from bW x]; rfl

theorem ajC (a : Nat) (ha : a < 18446744073709551616) (hk : 1 ≤ yD a ∧ yD a ≤ 2) (H : Heap) : ACall Tryz.prog 120 [.int .u64 (a : Int)] H (fun y H' => y = .tuple [.int .u64 ((acD a : Nat) : Int), .int .i64 (aiN a)] ∧ H' = H) := by
 have hpa := aaS a
 have hpm := acB a
 obtain ⟨hl1, hl2, hl3⟩ := amH hk
 refine ACall.of_body Tryz.func120 rfl Tryz.ntmps120 Tryz.results120 rfl ?_
 refine .sr (.p rfl (zA (zI 0)) (.p rfl (zA zE) (.nr (.mv rfl rfl (.cl rfl C181 (evs1 rfl) (abY _ (by assumption) _) (.mv rfl rfl (.p rfl (zB (tm rfl) rfl) (.p rfl (zB (tm rfl) rfl) ?_))))))))
 refine .p rfl (zB (tm rfl) rfl) (.as rfl rfl (.as rfl rfl (.as rfl rfl (.nr (.mv rfl rfl (.cl rfl C182 (evs1 rfl) (len64A _ (by omega) _) ?_))))))
 refine .p rfl (.as (b := .int .i64 ((53 - yJ (qI a) : Nat) : Int)) (by congr 1; omega) (yG zE (tm rfl) (by omega))) ?_
 refine .as rfl rfl (.nr (.mv rfl rfl (.mv rfl rfl (.p rfl (qL (tm rfl) (tm rfl) (by omega) (by show acD a < 18446744073709551616; omega)) (.mv rfl rfl (.mv rfl rfl (.p rfl (yG (tm rfl) (tm rfl) (by omega)) (.as rfl rfl ?_))))))))
 refine .as rfl rfl (.ng (.ret ?_))
 refine Ret.go (.cons (.tmp _ _ rfl) (.cons (.tmp _ _ rfl) .nil)) _ (hRa _) ?_
 exact ⟨rfl, rfl⟩

theorem agC (a b : Nat) (ha : a < 18446744073709551616) (hb : b < 18446744073709551616) (H : Heap) : ACall Tryz.prog 54 [.int .u64 (a : Int), .int .u64 (b : Int)] H (fun y H' => y = .int .u64 ((aoV a b : Nat) : Int) ∧ H' = H) := by
 have hka := aiB a
 have hkb := aiB b
 refine ACall.of_body Tryz.func54 rfl Tryz.ntmps54 Tryz.results54 rfl ?_
 refine .sr (.p rfl (zA (zI 0)) (.nr (.mv rfl rfl (.p rfl (yF (tm rfl) (zI 63) (by assumption)) (.mv rfl rfl (.p rfl (yF (tm rfl) (zI 63) (by assumption)) (.p rfl (qA (tm rfl) (tm rfl)) (.as rfl rfl ?_))))))))
 refine .ng (.seq (.block ?_))
 refine AWP.seqTo 18 (.bool (decide (adV a b))) [0, 1, 4, 5] ?_ ?_
 ·-- region 2
  refine .region (.mv rfl rfl (.cl rfl C116 (evs1 rfl) (agL _ (by assumption) _) (.mv rfl rfl ?_)))
  refine zL (t := 21) rfl (fun hg21 => ?_) (fun hg21 => ?_)
  ·have hh21 := hg21; try simp only [aM] at hh21
   refine .gn rfl rfl rfl (by assumption) (.gn rfl rfl rfl (by assumption) (.p rfl (zO (tm rfl) (by assumption) zM) (.mv rfl rfl (.gn rfl rfl rfl (by rfl) (.gn rfl rfl rfl (by rfl) (.gn rfl rfl rfl (by rfl) ?_))))))
   refine AList.gdead rfl rfl rfl ?_
   refine AList.gdead rfl rfl rfl ?_
   refine .gn rfl rfl rfl (by rfl) (.p rfl (zO (tm rfl) (by rfl) zM) (.mv rfl rfl (.gn rfl rfl rfl (by rfl) (.gn rfl rfl rfl (by rfl) (.gn rfl rfl rfl (by rfl) ?_)))))
   refine AList.gdead rfl rfl rfl ?_
   refine AList.gdead rfl rfl rfl ?_
   refine .gn rfl rfl rfl (by rfl) (.p rfl (zO (tm rfl) (by rfl) zM) (.as rfl rfl (.nil ?_)))
   exact ⟨rfl, zY rfl (by (refine Eq.symm ?_; unfold adV; exact bH (by omega))) (zC rfl (zC rfl (zC rfl (zC rfl zU)))), rfl⟩
  have hh21 := hg21; try simp only [aL] at hh21
  refine .gp rfl rfl rfl (by assumption) (zJ (tm rfl)) (.gs rfl rfl rfl (by assumption) (zF C116 (evs1 rfl) (agL _ (by assumption) _)) ?_)
  rintro _ _ ⟨rfl, hH⟩
  obtain rfl := hH.symm
  refine .p rfl (zN (tm rfl) (by assumption) (tm rfl)) (.mv rfl rfl ?_)
  refine zL (t := 25) rfl (fun hg25 => ?_) (fun hg25 => ?_)
  ·have hh25 := hg25; try simp only [aM] at hh25
   refine .gn rfl rfl rfl (by assumption) (.gn rfl rfl rfl (by assumption) (.gn rfl rfl rfl (by assumption) ?_))
   refine AList.gdead rfl rfl rfl ?_
   refine AList.gdead rfl rfl rfl ?_
   refine .gn rfl rfl rfl (by assumption) (.p rfl (zO (tm rfl) (by assumption) zM) (.mv rfl rfl (.gn rfl rfl rfl (by rfl) (.gn rfl rfl rfl (by rfl) (.gn rfl rfl rfl (by rfl) ?_)))))
   refine AList.gdead rfl rfl rfl ?_
   refine AList.gdead rfl rfl rfl ?_
   refine .gn rfl rfl rfl (by rfl) (.p rfl (zO (tm rfl) (by rfl) zM) (.as rfl rfl (.nil ?_)))
   exact ⟨rfl, zY rfl (by (refine Eq.symm ?_; unfold adV; exact bH (by omega))) (zC rfl (zC rfl (zC rfl (zC rfl zU)))), rfl⟩
  have hh25 := hg25; try simp only [aL] at hh25
  refine .gp rfl rfl rfl (by assumption) (zJ (tm rfl)) (.gs rfl rfl rfl (by assumption) (zF C117 (evs1 rfl) (acI _ (by assumption) _)) ?_)
  rintro _ _ ⟨rfl, hH⟩
  obtain rfl := hH.symm
  refine .gp rfl rfl rfl (by assumption) (zJ (tm rfl)) ?_
  refine zL (t := 28) rfl (fun hg28 => ?_) (fun hg28 => ?_)
  ·have hh28 := hg28; try simp only [aM] at hh28
   refine .gp rfl rfl rfl (by assumption) (zJ (tm rfl)) (.gs rfl rfl rfl (by assumption) (zF C117 (evs1 rfl) (acI _ (by assumption) _)) ?_)
   rintro _ _ ⟨rfl, hH⟩
   obtain rfl := hH.symm
   refine .gp rfl rfl rfl (by assumption) (zO (tm rfl) (by assumption) (tm rfl)) (.p rfl (zN (tm rfl) (by assumption) (tm rfl)) (.mv rfl rfl ?_))
   refine zL (t := 33) rfl (fun hg33 => ?_) (fun hg33 => ?_)
   ·have hh33 := hg33; try simp only [aM] at hh33
    refine .gn rfl rfl rfl (by assumption) (.gn rfl rfl rfl (by assumption) (.gn rfl rfl rfl (by assumption) ?_))
    refine AList.gdead rfl rfl rfl ?_
    refine AList.gdead rfl rfl rfl ?_
    refine .gn rfl rfl rfl (by assumption) (.p rfl (zO (tm rfl) (by assumption) zM) (.as rfl rfl (.nil ?_)))
    exact ⟨rfl, zY rfl (by (refine Eq.symm ?_; unfold adV; exact bH (by omega))) (zC rfl (zC rfl (zC rfl (zC rfl zU)))), rfl⟩
   have hh33 := hg33; try simp only [aL] at hh33
   refine .gp rfl rfl rfl (by assumption) (zJ (tm rfl)) (.gs rfl rfl rfl (by assumption) (zF C118 (evs1 rfl) (acN _ (by assumption) _)) ?_)
   rintro _ _ ⟨rfl, hH⟩
   obtain rfl := hH.symm
   refine .gp rfl rfl rfl (by assumption) (zJ (tm rfl)) ?_
   refine zL (t := 36) rfl (fun hg36 => ?_) (fun hg36 => ?_)
   ·have hh36 := hg36; try simp only [aM] at hh36
    refine .gp rfl rfl rfl (by assumption) (zJ (tm rfl)) (.gs rfl rfl rfl (by assumption) (zF C118 (evs1 rfl) (acN _ (by assumption) _)) ?_)
    rintro _ _ ⟨rfl, hH⟩
    obtain rfl := hH.symm
    refine .gp rfl rfl rfl (by assumption) (zO (tm rfl) (by assumption) (tm rfl)) (.p rfl (zN (tm rfl) (by assumption) (tm rfl)) (.as rfl rfl (.nil ?_)))
    exact ⟨rfl, zY rfl (by (refine Eq.symm ?_; unfold adV; exact bA.2 (by omega))) (zC rfl (zC rfl (zC rfl (zC rfl zU)))), rfl⟩
   have hh36 := hg36; try simp only [aL] at hh36
   refine .gn rfl rfl rfl (by assumption) (.gn rfl rfl rfl (by assumption) (.gp rfl rfl rfl (by assumption) (zN (tm rfl) (by assumption) zM) (.p rfl (zN (tm rfl) (by assumption) (tm rfl)) (.as rfl rfl (.nil ?_)))))
   exact ⟨rfl, zY rfl (by (refine Eq.symm ?_; unfold adV; exact bG (by omega))) (zC rfl (zC rfl (zC rfl (zC rfl zU)))), rfl⟩
  have hh28 := hg28; try simp only [aL] at hh28
  refine .gn rfl rfl rfl (by assumption) (.gn rfl rfl rfl (by assumption) (.gp rfl rfl rfl (by assumption) (zN (tm rfl) (by assumption) zM) (.p rfl (zN (tm rfl) (by assumption) (tm rfl)) (.mv rfl rfl (.gp rfl rfl rfl (by rfl) (zJ (tm rfl)) (.gs rfl rfl rfl (by rfl) (zF C118 (evs1 rfl) (acN _ (by assumption) _)) ?_))))))
  rintro _ _ ⟨rfl, hH⟩
  obtain rfl := hH.symm
  refine .gp rfl rfl rfl (by rfl) (zJ (tm rfl)) ?_
  refine zL (t := 36) rfl (fun hg36 => ?_) (fun hg36 => ?_)
  ·have hh36 := hg36; try simp only [aM] at hh36
   refine .gp rfl rfl rfl (by assumption) (zJ (tm rfl)) (.gs rfl rfl rfl (by assumption) (zF C118 (evs1 rfl) (acN _ (by assumption) _)) ?_)
   rintro _ _ ⟨rfl, hH⟩
   obtain rfl := hH.symm
   refine .gp rfl rfl rfl (by rfl) (zO (tm rfl) (by assumption) (tm rfl)) (.p rfl (zN (tm rfl) (by rfl) (tm rfl)) (.as rfl rfl (.nil ?_)))
   exact ⟨rfl, zY rfl (by (refine Eq.symm ?_; unfold adV; exact bA.2 (by omega))) (zC rfl (zC rfl (zC rfl (zC rfl zU)))), rfl⟩
  have hh36 := hg36; try simp only [aL] at hh36
  refine .gn rfl rfl rfl (by assumption) (.gn rfl rfl rfl (by assumption) (.gp rfl rfl rfl (by rfl) (zN (tm rfl) (by assumption) zM) (.p rfl (zN (tm rfl) (by rfl) (tm rfl)) (.as rfl rfl (.nil ?_)))))
  exact ⟨rfl, zY rfl (by (refine Eq.symm ?_; unfold adV; exact bG (by omega))) (zC rfl (zC rfl (zC rfl (zC rfl zU)))), rfl⟩
 refine AWP.sub [(18, _), (0, _), (1, _), (4, _), (5, _)] (zC rfl (zC rfl (zC rfl (zC rfl (zC rfl zU))))) ?_
 refine AWP.cond (tm rfl) (fun hc18 => ?_) (fun hc18 => ?_)
 ·try simp only [aM] at hc18
  refine .sr (.p rfl (zA (zI 9221120237041090560)) (.ng (.ret ?_)))
  refine Block.rt ?_
  refine Next.rt ?_
  refine Ret.go (.cons (.tmp _ _ rfl) .nil) _ (hRa _) ?_
  refine ⟨?_, rfl⟩
  unfold aoV
  rw [aO hc18]; rfl
 try simp only [aL] at hc18
 have hdn := hc18
 unfold adV at hc18
 refine AWP.seqTo 41 (.bool (decide (yD a = 3 ∨ yD b = 0))) [0, 1, 4, 5] ?_ ?_
 ·-- region 4
  refine .region (.mv rfl rfl (.cl rfl C117 (evs1 rfl) (acI _ (by assumption) _) (.mv rfl rfl ?_)))
  refine zL (t := 44) rfl (fun hg44 => ?_) (fun hg44 => ?_)
  ·have hh44 := hg44; try simp only [aM] at hh44
   refine .gn rfl rfl rfl (by assumption) (.gn rfl rfl rfl (by assumption) (.p rfl (zO (tm rfl) (by assumption) zM) (.as rfl rfl (.nil ?_))))
   exact ⟨rfl, zY rfl (by (refine Eq.symm ?_; exact bH (by omega))) (zC rfl (zC rfl (zC rfl (zC rfl zU)))), rfl⟩
  have hh44 := hg44; try simp only [aL] at hh44
  refine .gp rfl rfl rfl (by assumption) (zJ (tm rfl)) (.gs rfl rfl rfl (by assumption) (zF C118 (evs1 rfl) (acN _ (by assumption) _)) ?_)
  rintro _ _ ⟨rfl, hH⟩
  obtain rfl := hH.symm
  refine .p rfl (zN (tm rfl) (by assumption) (tm rfl)) (.as rfl rfl (.nil ?_))
  exact ⟨rfl, zY rfl (by (refine Eq.symm ?_; exact bA.2 (by omega))) (zC rfl (zC rfl (zC rfl (zC rfl zU)))), rfl⟩
 refine AWP.sub [(41, _), (0, _), (1, _), (4, _), (5, _)] (zC rfl (zC rfl (zC rfl (zC rfl (zC rfl zU))))) ?_
 refine AWP.cond (tm rfl) (fun hc41 => ?_) (fun hc41 => ?_)
 ·try simp only [aM] at hc41
  refine .sr (.mv rfl rfl (.cl rfl Tryz.call119 (.cons (tm rfl) (.cons (zI 9218868437227405312) .nil)) (anS _ _ (by decide) _) (.as rfl rfl (.ng (.ret ?_)))))
  refine Block.rt ?_
  refine Next.rt ?_
  refine Ret.go (.cons (.tmp _ _ rfl) .nil) _ (hRa _) ?_
  refine ⟨?_, rfl⟩
  unfold aoV
  rw [aN hdn, aO hc41]; rfl
 try simp only [aL] at hc41
 refine AWP.seqTo 50 (.bool (decide (yD a = 0 ∨ yD b = 3))) [0, 1, 4, 5] ?_ ?_
 ·-- region 6
  refine .region (.mv rfl rfl (.cl rfl C118 (evs1 rfl) (acN _ (by assumption) _) (.mv rfl rfl ?_)))
  refine zL (t := 53) rfl (fun hg53 => ?_) (fun hg53 => ?_)
  ·have hh53 := hg53; try simp only [aM] at hh53
   refine .gn rfl rfl rfl (by assumption) (.gn rfl rfl rfl (by assumption) (.p rfl (zO (tm rfl) (by assumption) zM) (.as rfl rfl (.nil ?_))))
   exact ⟨rfl, zY rfl (by (refine Eq.symm ?_; exact bH (by omega))) (zC rfl (zC rfl (zC rfl (zC rfl zU)))), rfl⟩
  have hh53 := hg53; try simp only [aL] at hh53
  refine .gp rfl rfl rfl (by assumption) (zJ (tm rfl)) (.gs rfl rfl rfl (by assumption) (zF C117 (evs1 rfl) (acI _ (by assumption) _)) ?_)
  rintro _ _ ⟨rfl, hH⟩
  obtain rfl := hH.symm
  refine .p rfl (zN (tm rfl) (by assumption) (tm rfl)) (.as rfl rfl (.nil ?_))
  exact ⟨rfl, zY rfl (by (refine Eq.symm ?_; exact bA.2 (by omega))) (zC rfl (zC rfl (zC rfl (zC rfl zU)))), rfl⟩
 refine AWP.sub [(50, _), (0, _), (1, _), (4, _), (5, _)] (zC rfl (zC rfl (zC rfl (zC rfl (zC rfl zU))))) ?_
 refine AWP.cond (tm rfl) (fun hc50 => ?_) (fun hc50 => ?_)
 ·try simp only [aM] at hc50
  refine .sr (.mv rfl rfl (.cl rfl Tryz.call119 (.cons (tm rfl) (.cons (zI 0) .nil)) (anS _ _ (by decide) _) (.as rfl rfl (.ng (.ret ?_)))))
  refine Block.rt ?_
  refine Next.rt ?_
  refine Ret.go (.cons (.tmp _ _ rfl) .nil) _ (hRa _) ?_
  refine ⟨?_, rfl⟩
  unfold aoV
  rw [aN hdn, aN hc41, aO hc50]; rfl
 try simp only [aL] at hc50
 obtain ⟨ha1, ha2, ha3⟩ := amH (x := a) (by omega)
 obtain ⟨hb1, hb2, hb3⟩ := amH (x := b) (by omega)
 have hea := ahO a ha3
 have heb := ahO b hb3
 have hhi := high_lt ha2
 have hql : acD a * 2 ^ 64 / acD b < M2 := aR (cU _ _) hhi
 refine .skip ?_
 refine Block.go ?_
 refine Next.go ?_
 refine .sr (.mv rfl rfl (.cl rfl Tryz.call120 (evs1 rfl) (ajC a ha (by omega) _) (.mv rfl rfl (.p rfl (zB (tm rfl) rfl) (.p rfl (zB (tm rfl) rfl) (.as rfl rfl (.as rfl rfl (.nr ?_))))))))
 refine .mv rfl rfl (.cl rfl Tryz.call120 (evs1 rfl) (ajC b hb (by omega) _) (.mv rfl rfl (.p rfl (zB (tm rfl) rfl) (.p rfl (zB (tm rfl) rfl) (.as rfl rfl (.as rfl rfl (.nr (.mv rfl rfl ?_))))))))
 refine .p rfl (yK zr149 pl149 (.cons (tm rfl) (.inl rfl) .nil) rfl) (.mv rfl rfl ?_)
 refine .cl rfl Tryz.call121 (evs2 rfl rfl) ((by have h := fun H => bdT (acD a * 2 ^ 64) (acD b) hhi (by omega) (by omega) H; rw [u2_high] at h; exact h _)) ?_
 refine .mv rfl rfl (.p rfl (zB (tm rfl) rfl) (.p rfl (zB (tm rfl) rfl) (.p rfl (zB (tm rfl) rfl) ?_)))
 refine .al zr149 (fun b10 hb10 => ?_)
 refine .e0 (zG Z149 (tm rfl) (tm rfl) rfl rfl (.inr ⟨_, rfl⟩) (oS _ _ _) (lB rfl)) ?_
 try first | rw [sS] | rw [sU (by assumption)]
 refine .as rfl rfl (.as rfl rfl (.ng ?_))
 refine AWP.frz (t := 10) rfl (hb10) ?_
 refine .sr (.mv rfl rfl (.p rfl (zQ G149 Z149 (tm rfl) (lB rfl)) (.mv rfl rfl (.mv rfl rfl (.p rfl (yG (tm rfl) (tm rfl) (by omega)) (.p rfl (yG (tm rfl) zE (by omega)) (.mv rfl rfl (.p rfl (yC (tm rfl) (zI 0)) ?_))))))))
 refine .cl rfl C122 (.cons (tm rfl) (evs3 rfl rfl rfl)) (acP _ _ hql _ (by omega) _ _) (.as rfl rfl (.ng (.ret ?_)))
 refine Ret.go (.cons (.tmp _ _ rfl) .nil) _ (hRa _) ?_
 refine ⟨?_, rfl⟩
 unfold aoV
 rw [aN hdn, aN hc41, aN hc50]
 rw [show decide (acD a * 2 ^ 64 % acD b ≠ 0) = decide (((0 : Nat) : Int) < ((acD a * 2 ^ 64 % acD b : Nat) : Int)) from bA.2 (by omega)]
 rfl

theorem aoW (a : Nat) (ha : a < 18446744073709551616) (H : Heap) : ACall Tryz.prog 137 [.int .u64 (a : Int)] H (fun y H' => y = .int .u64 ((aoR a : Nat) : Int) ∧ H' = H) := by
 have hka := aiB a
 refine ACall.of_body Tryz.func137 rfl Tryz.ntmps137 Tryz.results137 rfl ?_
 refine .sr (.p rfl (zA (zI 0)) (.ng (.seq (.block ?_))))
 refine AWP.seqTo 8 (.bool (decide (yD a = 4 ∨ 9223372036854775808 < a))) [0, 2] ?_ ?_
 ·-- region 1
  refine .region (.mv rfl rfl (.cl rfl C116 (evs1 rfl) (agL _ (by assumption) _) (.mv rfl rfl ?_)))
  refine zL (t := 11) rfl (fun hg11 => ?_) (fun hg11 => ?_)
  ·have hh11 := hg11; try simp only [aM] at hh11
   refine .gn rfl rfl rfl (by assumption) (.gn rfl rfl rfl (by assumption) (.p rfl (zO (tm rfl) (by assumption) zM) (.as rfl rfl (.nil ?_))))
   exact ⟨rfl, zY rfl (by (refine Eq.symm ?_; exact bH (by omega))) (zC rfl (zC rfl zU)), rfl⟩
  have hh11 := hg11; try simp only [aL] at hh11
  refine .gp rfl rfl rfl (by assumption) (zJ (tm rfl)) (.gp rfl rfl rfl (by assumption) (yC (tm rfl) (zI 9223372036854775808)) (.p rfl (zN (tm rfl) (by assumption) (tm rfl)) (.as rfl rfl (.nil ?_))))
  exact ⟨rfl, zY rfl (by (refine Eq.symm ?_; exact bA.2 (by omega))) (zC rfl (zC rfl zU)), rfl⟩
 refine AWP.sub [(8, _), (0, _), (2, _)] (zC rfl (zC rfl (zC rfl zU))) ?_
 refine AWP.cond (tm rfl) (fun hc8 => ?_) (fun hc8 => ?_)
 ·try simp only [aM] at hc8
  refine .sr (.p rfl (zA (zI 9221120237041090560)) (.ng (.ret ?_)))
  refine Block.rt ?_
  refine Next.rt ?_
  refine Ret.go (.cons (.tmp _ _ rfl) .nil) _ (hRa _) ?_
  refine ⟨?_, rfl⟩
  unfold aoR
  rw [aO hc8]; rfl
 try simp only [aL] at hc8
 refine AWP.seqTo 15 (.bool (decide (yD a = 0 ∨ yD a = 3))) [0, 2] ?_ ?_
 ·-- region 3
  refine .region (.mv rfl rfl (.cl rfl C118 (evs1 rfl) (acN _ (by assumption) _) (.mv rfl rfl ?_)))
  refine zL (t := 18) rfl (fun hg18 => ?_) (fun hg18 => ?_)
  ·have hh18 := hg18; try simp only [aM] at hh18
   refine .gn rfl rfl rfl (by assumption) (.gn rfl rfl rfl (by assumption) (.p rfl (zO (tm rfl) (by assumption) zM) (.as rfl rfl (.nil ?_))))
   exact ⟨rfl, zY rfl (by (refine Eq.symm ?_; exact bH (by omega))) (zC rfl (zC rfl zU)), rfl⟩
  have hh18 := hg18; try simp only [aL] at hh18
  refine .gp rfl rfl rfl (by assumption) (zJ (tm rfl)) (.gs rfl rfl rfl (by assumption) (zF C117 (evs1 rfl) (acI _ (by assumption) _)) ?_)
  rintro _ _ ⟨rfl, hH⟩
  obtain rfl := hH.symm
  refine .p rfl (zN (tm rfl) (by assumption) (tm rfl)) (.as rfl rfl (.nil ?_))
  exact ⟨rfl, zY rfl (by (refine Eq.symm ?_; exact bA.2 (by omega))) (zC rfl (zC rfl zU)), rfl⟩
 refine AWP.sub [(15, _), (0, _), (2, _)] (zC rfl (zC rfl (zC rfl zU))) ?_
 refine AWP.cond (tm rfl) (fun hc15 => ?_) (fun hc15 => ?_)
 ·try simp only [aM] at hc15
  refine .sr (.mv rfl rfl (.as rfl rfl (.ng (.ret ?_))))
  refine Block.rt ?_
  refine Next.rt ?_
  refine Ret.go (.cons (.tmp _ _ rfl) .nil) _ (hRa _) ?_
  refine ⟨?_, rfl⟩
  unfold aoR
  rw [aN hc8, aO hc15]; rfl
 try simp only [aL] at hc15
 obtain ⟨ha1, ha2, ha3⟩ := amH (x := a) (by omega)
 have hea := ahO a ha3
 obtain ⟨hsm, hsk⟩ := sqrt_lt ha2
 have hsM : aiS a < M2 := cX hsm (by decide +kernel)
 have hr64 := (rootS_64 (n := aiS a) (by rw [show (2 : Nat) ^ 128 = M2 by decide +kernel]; exact hsM))
 refine .skip ?_
 refine Block.go ?_
 refine Next.go ?_
 refine .sr (.mv rfl rfl (.cl rfl Tryz.call120 (evs1 rfl) (ajC a ha (by omega) _) (.mv rfl rfl (.p rfl (zB (tm rfl) rfl) (.p rfl (zB (tm rfl) rfl) (.as rfl rfl (.as rfl rfl (.nr ?_))))))))
 refine .p rfl (zA zE) (.ng ?_)
 refine AWP.seqToL [(5, .int .i64 ((aiT a : Nat) : Int))] [2, 3, 4] ?_ ?_
 ·refine .sr (.mv rfl rfl (.mv rfl rfl (.p rfl (yG (tm rfl) (tm rfl) (by omega)) (.p rfl (bfG (tm rfl) zE) (.p rfl (qA (tm rfl) zE) (.ng ?_))))))
  refine AWP.cond (tm rfl) (fun hc32 => ?_) (fun hc32 => ?_)
  ·try simp only [aM, ne_eq] at hc32
   refine .region (.mv rfl rfl (.p rfl (yG (tm rfl) zE (by omega)) (.as rfl rfl (.nil ?_))))
   exact ⟨rfl, (zX rfl (by congr 1; unfold aiT; split <;> omega) (zC rfl (zC rfl (zC rfl zU)))), rfl⟩
  try simp only [aL, ne_eq, cG] at hc32
  refine .skip ?_
  exact ⟨rfl, (zX rfl (by congr 1; unfold aiT; split <;> omega) (zC rfl (zC rfl (zC rfl zU)))), rfl⟩
 refine AWP.sub [(5, _), (2, _), (3, _), (4, _)] (zC rfl (zC rfl (zC rfl (zC rfl zU)))) ?_
 refine .sr (.mv rfl rfl (.p rfl (yK zr149 pl149 (.cons (tm rfl) (.inl rfl) .nil) rfl) (.mv rfl rfl ?_)))
 refine .cl rfl C187 (evs2 rfl rfl) ((by have h := fun H => wShlU (acD a) (aiT a) (by omega) _ rfl H; rw [ajG (show acD a < M1 by unfold M1; omega)] at h; exact h _)) ?_
 rw [aW (show acD a * 2 ^ aiT a < M2 from hsM)]
 refine .cl rfl Tryz.call197 (evs1 rfl) (axP (aiS a) hsM _) (.mv rfl rfl (.p rfl (zB (tm rfl) rfl) (.p rfl (zB (tm rfl) rfl) (.as rfl rfl (.as rfl rfl (.ng (.seq ?_)))))))
 have hrl : adU (aiS a) 64 0 < M1 := by
  have h1 := hr64.1
  rcases bZ (adU (aiS a) 64 0) M1 with h | h
  ·exact h
  have h2 := dZ h h
  rw [← bbB] at h2
  omega
 refine .region (.mv rfl rfl (.p rfl (yK zr149 pl149 (.cons (tm rfl) (.inl rfl) .nil) rfl) (.mv rfl rfl (.mv rfl rfl (.p rfl (yG (tm rfl) (tm rfl) (by omega)) ?_)))))
 refine .p rfl (.as (b := .int .i64 ((aiN a - aiT a) / 2)) (by congr 1; show Int.fdiv _ (2 ^ 1) = _; rw [shr_of]; rfl) (asY (tm rfl) zE (by decide))) ?_
 refine .mv rfl rfl (.p rfl (aaB (tm rfl)) ?_)
 refine .cl rfl C122 (.cons zM (evs3 rfl rfl rfl)) ((by have h := fun H => acP false (adU (aiS a) 64 0) (cX hrl (by decide +kernel)) ((aiN a - aiT a) / 2) (by omega) (!decide (adU (aiS a) 64 0 * adU (aiS a) 64 0 = aiS a)) H; rw [ajG hrl] at h; exact h _)) ?_
 refine .as rfl rfl (.ng (.ret ?_))
 refine Ret.go (.cons (.tmp _ _ rfl) .nil) _ (hRa _) ?_
 refine ⟨?_, rfl⟩
 unfold aoR
 rw [aN hc8, aN hc15, decide_not]; rfl

def blZ (a u L : Nat) (n : Int) (H : Heap) : Nat → Env → Heap → Prop := fun k env H1 => ∃ i : Nat, i ≤ L ∧ env = [(0, .int .u64 (a : Int)), (1, .int .i64 n), (5, .int .u64 (u : Int)), (6, .int .u64 ((bfI a u L i : Nat) : Int)), (17, .int .i64 (L : Int)), (18, .int .i64 (i : Int))] ∧ H = H1 ∧ k = L - i

theorem arS (a : Nat) (ha : a < 18446744073709551616) (n : Int) (hn : -1000000 ≤ n ∧ n ≤ 1000000) (H : Heap) : ACall Tryz.prog 136 [.int .u64 (a : Int), .int .i64 n] H (fun y H' => y = .int .u64 ((baD a n : Nat) : Int) ∧ H' = H) := by
 obtain ⟨u, hu⟩ : ∃ u, u = n.natAbs := ⟨_, rfl⟩
 have hu64 : u < 18446744073709551616 := by omega
 have hbl : yJ u ≤ 64 := qB.2 (cR hu64 (by decide))
 refine ACall.of_body Tryz.func136 rfl Tryz.ntmps136 Tryz.results136 rfl ?_
 refine .sr (.p rfl (zA (zI 0)) (.ng (.seq (.sr (.mv rfl rfl (.cl rfl C116 (evs1 rfl) (agL _ (by assumption) _) (.ng ?_)))))))
 refine AWP.cond (tm rfl) (fun hc9 => ?_) (fun hc9 => ?_)
 ·try simp only [aM] at hc9
  refine .sr (.p rfl (zA (zI 9221120237041090560)) (.ng (.ret ?_)))
  refine Next.rt ?_
  refine Ret.go (.cons (.tmp _ _ rfl) .nil) _ (hRa _) ?_
  refine ⟨?_, rfl⟩
  unfold baD
  rw [aO (by simpa using hc9)]; rfl
 try simp only [aL] at hc9
 refine .skip ?_
 refine Next.go ?_
 refine .sr (.mv rfl rfl (.p rfl (ahX U3 U22 (tm rfl)) (.as rfl rfl (.ng ?_))))
 refine AWP.seqToL [(5, .int .u64 ((u : Nat) : Int))] [0, 1, 4] ?_ ?_
 ·refine .sr (.mv rfl rfl (.p rfl (yN (tm rfl) zE) (.ng ?_)))
  refine AWP.cond (tm rfl) (fun hc13 => ?_) (fun hc13 => ?_)
  ·try simp only [aM] at hc13
   refine .region (.mv rfl rfl (.p rfl (anY (tm rfl)) (.as rfl rfl (.nil ?_))))
   exact ⟨rfl, (zX rfl (by rw [hu]; congr 1; first | exact bcK (by omega) hn.1 | (rw [wrap64 (n := n) (by omega) (by omega)]; omega)) (zC rfl (zC rfl (zC rfl zU)))), rfl⟩
  try simp only [aL, bN] at hc13
  refine .skip ?_
  exact ⟨rfl, (zX rfl (by rw [hu]; congr 1; first | exact bcK (by omega) hn.1 | (rw [wrap64 (n := n) (by omega) (by omega)]; omega)) (zC rfl (zC rfl (zC rfl zU)))), rfl⟩
 refine AWP.sub [(5, _), (0, _), (1, _), (4, _)] (zC rfl (zC rfl (zC rfl (zC rfl zU)))) ?_
 refine .sr (.p rfl (zA (zI 4607182418800017408)) (.ng (.seq (.sr (.mv rfl rfl (.cl rfl C182 (evs1 rfl) (len64A _ (by assumption) _) (.p rfl (zJ zE) (.ng ?_))))))))
 refine .block ?_
 refine AWP.loopW (blZ a u (yJ u) n H) (yJ u) ⟨0, Nat.zero_le _, rfl, rfl, rfl⟩ (zC rfl (zC rfl (zC rfl (zC rfl (zC rfl (zC rfl zU)))))) (hRa _) ?_
 rintro _ _ _ ⟨i, hi, rfl, rfl, hk⟩
 refine .sr (.p rfl (yN (tm rfl) (tm rfl)) (.ng (.seq ?_)))
 refine AWP.cond (tm rfl) (fun hc19 => ?_) (fun hc19 => ?_)
 ·try simp only [aM] at hc19
  have hpl := azH a u (yJ u) i
  have hml := amM (bfI a u (yJ u) i) (bfI a u (yJ u) i)
  have hst := powS (a := a) (u := u) (L := yJ u) (i := i) rfl
  have hil : i < yJ u := by omega
  have hdl : u / 2 ^ (yJ u - 1 - i) < 18446744073709551616 := aR (cU _ _) hu64
  refine .skip ?_
  refine Next.go ?_
  refine .seq (.block (.sr (.mv rfl rfl (.as rfl rfl (.nr (.mv rfl rfl (.mv rfl rfl (.cl rfl C133 (evs2 rfl rfl) (agB _ _ (by assumption) (by assumption) _) ?_))))))))
  refine .as rfl rfl (.nr (.mv rfl rfl (.mv rfl rfl (.cl rfl C182 (evs1 rfl) (len64A _ (by assumption) _) (.p rfl (yG (tm rfl) zE (by omega)) (.mv rfl rfl ?_))))))
  refine .p rfl (.as (b := .int .i64 ((yJ u - 1 - i : Nat) : Int)) (by congr 1; omega) (yG (tm rfl) (tm rfl) (by omega))) ?_
  refine .p rfl (yF (tm rfl) (tm rfl) (by assumption)) (.p rfl (aaN (tm rfl) (zI 1) (by assumption) (by omega)) (.p rfl (zR (tm rfl) (zI 1)) (.ng ?_)))
  refine AWP.cond (tm rfl) (fun hc32 => ?_) (fun hc32 => ?_)
  ·try simp only [aM] at hc32
   rw [aO (by rw [← Nat.and_one_is_mod]; omega)] at hst
   refine .region (.mv rfl rfl (.mv rfl rfl (.cl rfl C133 (evs2 rfl rfl) (agB _ _ (by assumption) (by assumption) _) (.as rfl rfl (.nil ?_)))))
   refine Block.go ?_
   refine Next.go ?_
   refine .region (.p rfl (yT (tm rfl) zE (by omega)) (.mv rfl rfl (.ng ?_)))
   refine Round.mk (J := blZ a u (yJ u) n H) ⟨i + 1, by omega, rfl, rfl, rfl⟩ (zC rfl (zC rfl (zC rfl (zX rfl (by rw [hst]) (zC rfl (zC rfl zU)))))) (hRa _) (by omega)
  try simp only [aL] at hc32
  rw [aN (by rw [← Nat.and_one_is_mod]; omega)] at hst
  refine .skip ?_
  refine Block.go ?_
  refine Next.go ?_
  refine .region (.p rfl (yT (tm rfl) zE (by omega)) (.mv rfl rfl (.ng ?_)))
  refine Round.mk (J := blZ a u (yJ u) n H) ⟨i + 1, by omega, rfl, rfl, rfl⟩ (zC rfl (zC rfl (zC rfl (zX rfl (by rw [hst]) (zC rfl (zC rfl zU)))))) (hRa _) (by omega)
 try simp only [aL, bN] at hc19
 obtain rfl : i = yJ u := by omega
 have hpl := azH a u (yJ u) (yJ u)
 refine .exit ?_
 refine Next.ex ?_
 refine Next.ex ?_
 refine Block.hit ?_
 refine Next.go ?_
 refine .seq (.sr (.mv rfl rfl (.p rfl (yN (tm rfl) zE) (.ng ?_))))
 refine AWP.cond (tm rfl) (fun hc38 => ?_) (fun hc38 => ?_)
 ·try simp only [aM] at hc38
  refine .sr (.mv rfl rfl (.cl rfl C54 (.cons (zI 4607182418800017408) (evs1 rfl)) (agC _ _ (by decide) (by assumption) _) (.as rfl rfl (.ng (.ret ?_)))))
  refine Next.rt ?_
  refine Ret.go (.cons (.tmp _ _ rfl) .nil) _ (hRa _) ?_
  refine ⟨?_, rfl⟩
  unfold baD
  rw [aN (by simpa using hc9), aO (by omega), ← hu]; rfl
 try simp only [aL, bN] at hc38
 refine .skip ?_
 refine Next.go ?_
 refine .sr (.mv rfl rfl (.as rfl rfl (.ng (.ret ?_))))
 refine Ret.go (.cons (.tmp _ _ rfl) .nil) _ (hRa _) ?_
 refine ⟨?_, rfl⟩
 unfold baD
 rw [aN (by simpa using hc9), aN (by omega), ← hu]; rfl

end
section
open Go Go.RowKit
set_option maxRecDepth 100000

theorem zr208 : ZR 208 [.bool false, .bool false, .bool false, .int .u64 0] := ZRi Tryz.zeroValue208
theorem pl208 : PL 208 [(0, 1), (1, 1), (2, 1), (3, 1)] := PLi U208

def spA (neg half rest : Bool) (n : Nat) : AV := .agg [.bool neg, .bool half, .bool rest, .int .u64 (n : Int)]
def alQ (a : Nat) : Bool := decide (qF a < 0 ∧ qI a / 2 ^ ((-qF a).toNat - 1) % 2 = 1)
def alP (a : Nat) : Bool := decide (qF a < 0 ∧ qI a % 2 ^ ((-qF a).toNat - 1) ≠ 0)
def akS (a : Nat) : Nat := if qF a < 0 then qI a / 2 ^ (-qF a).toNat else qI a
theorem of_big (h : ¬ qF a < 0) : alQ a = false ∧ alP a = false ∧ akS a = qI a := ⟨bG (by omega), bG (by omega), aN h⟩
theorem of_small {k : Nat} (h : qF a < 0) (hk : k = (-qF a).toNat - 1) : decide (((qI a / 2 ^ k &&& 1 : Nat) : Int) = ((1 : Nat) : Int)) = alQ a ∧ decide (qI a % 2 ^ k ≠ 0) = alP a ∧ qI a / 2 ^ k / 2 ^ 1 = akS a := by
 subst hk
 refine ⟨bA.2 ?_, bA.2 ?_, ?_⟩
 ·rw [Nat.and_one_is_mod]; omega
 ·constructor
  ·exact fun q => ⟨h, q⟩
  exact fun q => q.2
 unfold akS
 rw [aO h, Nat.pow_one, blS (by omega)]
theorem of_up (a : Nat) : (alQ a || alP a) = !(decide (0 ≤ qF a) || decide (qI a % 2 ^ (-qF a).toNat = 0)) := by
 unfold alQ alP
 by_cases h : qF a < 0
 ·have q := blR (m := qI a) (k := (-qF a).toNat) (by omega)
  rw [← Bool.decide_or, ← Bool.decide_or, ← decide_not]
  refine bA.2 ?_
  constructor
  ·rintro (q1 | q1)
   ·have := q.1 (.inl q1.2); omega
   have := q.1 (.inr q1.2); omega
  intro q1
  rcases q.2 (by omega) with q2 | q2
  ·exact .inl ⟨h, q2⟩
  exact .inr ⟨h, q2⟩
 rw [bG (by omega), bG (by omega), bH (by omega)]; rfl
def toM (x : Nat) : Nat := if qF x < 0 then qI x / 2 ^ (-qF x).toNat else qI x * 2 ^ (qF x).toNat
theorem toN_big (h : 3 ≤ yD x) : toN x = (0, 11) := aO h
theorem bbK (h : ¬ 3 ≤ yD x) : toN x = if 0 ≤ qF x ∧ 11 < qF x then (0, 6)
  else if alR x = true then (if toM x ≤ 9223372036854775808 then (-(toM x : Int), 0) else (0, 6)) else (if toM x < 9223372036854775808 then ((toM x : Int), 0) else (0, 6)) := aN h
theorem shl_11 {e : Int} (hm : m < 9007199254740992) (h : e ≤ 11) : m * 2 ^ e.toNat < 18446744073709551616 := by
 have h1 : 2 ^ e.toNat ≤ 2 ^ 11 := aT (by decide) (by omega)
 have h2 : m * 2 ^ e.toNat ≤ 9007199254740991 * 2 ^ 11 := dZ (by omega) h1
 exact aR h2 (by decide)
theorem neg_back (h : n ≤ 9223372036854775808) : IntKind.i64.wrap (IntKind.u64.wrap (0 - (n : Int))) = -(n : Int) := by
 simp only [IntKind.wrap, IntKind.bits, IntKind.signed]
 simp
 split <;> omega
theorem abs_63 (x : Nat) : absN x < 9223372036854775808 := by
 unfold absN nanN; split <;> omega
theorem bkG (h : 9223372036854775808 ≤ x) : aoG x = -((absN x : Nat) : Int) := aO h
theorem bkF (h : ¬ 9223372036854775808 ≤ x) : aoG x = (x : Int) := aN h

theorem aoF (a : Nat) (ha : a < 18446744073709551616) (H : Heap) : ACall Tryz.prog 172 [.int .u64 (a : Int)] H (fun y H' => y = .int .i64 (aoG a) ∧ H' = H) := by
 have hab := abs_63 a
 have h63 : (2 : Nat) ^ 63 = 9223372036854775808 := by decide
 refine ACall.of_body Tryz.func172 rfl Tryz.ntmps172 Tryz.results172 rfl ?_
 refine .sr (.p rfl (zA zE) (.ng (.seq (.sr (.mv rfl rfl (.p rfl (yF (tm rfl) (zI 63) (by assumption)) (.p rfl (zR (tm rfl) (zI 1)) (.ng ?_))))))))
 refine AWP.cond (tm rfl) (fun hc5 => ?_) (fun hc5 => ?_)
 ·try simp only [aM] at hc5
  refine .sr (.mv rfl rfl (.cl rfl Tryz.call228 (evs1 rfl) (bgP _ (by assumption) _) (.p rfl (qM U22 U3 (tm rfl) (wrapI64 (by omega) (by omega))) (.p rfl (abR (tm rfl) (by omega)) (.as rfl rfl (.ng (.ret ?_)))))))
  refine Next.rt ?_
  refine Ret.go (.cons (.tmp _ _ rfl) .nil) _ (hRa _) ?_
  refine ⟨?_, rfl⟩
  rw [h63] at hc5
  rw [bkG (by omega)]; rfl
 try simp only [aL] at hc5
 refine .skip ?_
 refine Next.go ?_
 refine .sr (.mv rfl rfl (.p rfl (qM U22 U3 (tm rfl) (wrapI64 (by omega) (by rw [h63] at hc5; omega))) (.as rfl rfl (.ng (.ret ?_)))))
 refine Ret.go (.cons (.tmp _ _ rfl) .nil) _ (hRa _) ?_
 refine ⟨?_, rfl⟩
 rw [h63] at hc5
 rw [bkF (by omega)]; rfl

theorem arU (a b : Nat) (ha : a < 18446744073709551616) (hb : b < 18446744073709551616) (H : Heap) : ACall Tryz.prog 105 [.int .u64 (a : Int), .int .u64 (b : Int)] H (fun y H' => y = .tuple [.int .i64 (baG a b), .bool (!decide (yD a = 4 ∨ yD b = 4))] ∧ H' = H) := by
 refine ACall.of_body Tryz.func105 rfl Tryz.ntmps105 Tryz.results105 rfl ?_
 refine .sr (.p rfl (zA zE) (.p rfl (zA zM) (.ng (.seq ?_))))
 refine AWP.seqTo 15 (.bool (decide (yD a = 4 ∨ yD b = 4))) [0, 1, 4, 5] ?_ ?_
 ·-- region 1
  refine .region (.mv rfl rfl (.cl rfl C89 (evs1 rfl) (aaE _ (by assumption) _) (.p rfl (zR (tm rfl) zE) (.mv rfl rfl ?_))))
  refine zL (t := 11) rfl (fun hg11 => ?_) (fun hg11 => ?_)
  ·have hh11 := hg11; try simp only [aM] at hh11
   refine .gn rfl rfl rfl (by assumption) (.gn rfl rfl rfl (by assumption) (.gn rfl rfl rfl (by assumption) (.p rfl (zO (tm rfl) (by assumption) zM) (.nil ?_))))
   exact ⟨rfl, zY rfl (by (refine Eq.symm ?_; exact bH (by omega))) (zC rfl (zC rfl (zC rfl (zC rfl zU)))), rfl⟩
  have hh11 := hg11; try simp only [aL] at hh11
  refine .gp rfl rfl rfl (by assumption) (zJ (tm rfl)) (.gs rfl rfl rfl (by assumption) (zF C89 (evs1 rfl) (aaE _ (by assumption) _)) ?_)
  rintro _ _ ⟨rfl, hH⟩
  obtain rfl := hH.symm
  refine .gp rfl rfl rfl (by assumption) (zR (tm rfl) zE) (.p rfl (zN (tm rfl) (by assumption) (tm rfl)) (.nil ?_))
  exact ⟨rfl, zY rfl (by (refine Eq.symm ?_; exact bA.2 (by omega))) (zC rfl (zC rfl (zC rfl (zC rfl zU)))), rfl⟩
 refine AWP.sub [(15, _), (0, _), (1, _), (4, _), (5, _)] (zC rfl (zC rfl (zC rfl (zC rfl (zC rfl zU))))) ?_
 refine AWP.cond (tm rfl) (fun hc15 => ?_) (fun hc15 => ?_)
 ·try simp only [aM] at hc15
  refine .sr (.p rfl (zA zE) (.p rfl (zA zM) (.ng (.ret ?_))))
  refine Next.rt ?_
  refine Ret.go (.cons (.tmp _ _ rfl) (.cons (.tmp _ _ rfl) .nil)) _ (hRa _) ?_
  refine ⟨?_, rfl⟩
  unfold baG
  rw [aO hc15, bH hc15]
  rfl
 try simp only [aL] at hc15
 refine .skip ?_
 refine Next.go ?_
 refine .seq (.sr (.mv rfl rfl (.cl rfl Tryz.call172 (evs1 rfl) (aoF _ (by assumption) _) (.mv rfl rfl (.cl rfl Tryz.call172 (evs1 rfl) (aoF _ (by assumption) _) (.as rfl rfl (.as rfl rfl (.ng ?_))))))))
 refine .block (.sr (.mv rfl rfl (.mv rfl rfl (.p rfl (yN (tm rfl) (tm rfl)) (.as rfl rfl (.ng ?_))))))
 refine AWP.cond (tm rfl) (fun hc20 => ?_) (fun hc20 => ?_)
 ·try simp only [aM] at hc20
  refine .sr (.p rfl (zA zE) (.p rfl (zA zM) (.ng (.ret ?_))))
  refine Block.rt ?_
  refine Next.rt ?_
  refine Ret.go (.cons (.tmp _ _ rfl) (.cons (.tmp _ _ rfl) .nil)) _ (hRa _) ?_
  refine ⟨?_, rfl⟩
  unfold baG
  rw [aN hc15, bG hc15, aO hc20]
  rfl
 try simp only [aL, bN] at hc20
 refine .sr (.mv rfl rfl (.mv rfl rfl (.p rfl (yC (tm rfl) (tm rfl)) (.as rfl rfl (.ng ?_)))))
 refine AWP.cond (tm rfl) (fun hc24 => ?_) (fun hc24 => ?_)
 ·try simp only [aM] at hc24
  refine .sr (.p rfl (zA zE) (.p rfl (zA zM) (.ng (.ret ?_))))
  refine Block.rt ?_
  refine Next.rt ?_
  refine Ret.go (.cons (.tmp _ _ rfl) (.cons (.tmp _ _ rfl) .nil)) _ (hRa _) ?_
  refine ⟨?_, rfl⟩
  unfold baG
  rw [aN hc15, bG hc15, aN (by omega), aO (by omega)]
  rfl
 try simp only [aL, bN] at hc24
 refine .skip ?_
 refine Block.go ?_
 refine Next.go ?_
 refine .sr (.p rfl (zA zE) (.p rfl (zA zM) (.ng (.ret ?_))))
 refine Ret.go (.cons (.tmp _ _ rfl) (.cons (.tmp _ _ rfl) .nil)) _ (hRa _) ?_
 refine ⟨?_, rfl⟩
 unfold baG
 rw [aN hc15, bG hc15, aN (by omega), aN (by omega)]
 rfl

theorem agT (a : Nat) (ha : a < 18446744073709551616) (H : Heap) : ACall Tryz.prog 40 [.int .u64 (a : Int)] H (fun y H' => y = .int .i64 (aoS a) ∧ H' = H) := by
 refine ACall.of_body Tryz.func40 rfl Tryz.ntmps40 Tryz.results40 rfl ?_
 refine .sr (.p rfl (zA zE) (.nr (.mv rfl rfl (.cl rfl Tryz.call105 (.cons (tm rfl) (.cons (zI 0) .nil)) (arU a 0 ha (by decide) _) (.mv rfl rfl (.p rfl (zB (tm rfl) rfl) (.p rfl (zB (tm rfl) rfl) (.as rfl rfl ?_))))))))
 refine .as rfl rfl (.nr (.mv rfl rfl (.as rfl rfl (.ng (.ret ?_)))))
 refine Ret.go (.cons (.tmp _ _ rfl) .nil) _ (hRa _) ?_
 exact ⟨rfl, rfl⟩

theorem avY (a : Nat) (ha : a < 18446744073709551616) (H : Heap) : ACall Tryz.prog 194 [.int .u64 (a : Int)] H (fun y H' => y = .tuple [spA (alR a) (alQ a) (alP a) (akS a), .bool (decide (qF a < 0))] ∧ H' = H) := by
 have hpe := aaS a
 have hpm := acB a
 refine ACall.of_body Tryz.func194 rfl Tryz.ntmps194 Tryz.results194 rfl ?_
 refine .sr ?_
 refine .al zr208 (fun b2 hb2 => ?_)
 refine .p rfl (zA zM) (.nr (.mv rfl rfl (.cl rfl C181 (evs1 rfl) (abY a ha _) (.mv rfl rfl (.p rfl (zB (tm rfl) rfl) (.p rfl (zB (tm rfl) rfl) (.p rfl (zB (tm rfl) rfl) (.as rfl rfl ?_))))))))
 refine .as rfl rfl (.as rfl rfl (.ng (.seq (.sr (.mv rfl rfl (.p rfl (yS (tm rfl) zE) (.ng ?_)))))))
 refine AWP.cond (tm rfl) (fun hc16 => ?_) (fun hc16 => ?_)
 ·try simp only [aM] at hc16
  refine .sr (.mv rfl rfl (.mv rfl rfl (.p rfl (yK zr208 pl208 (.cons (tm rfl) (.inl rfl) (.cons (tm rfl) (.inl rfl) .nil)) rfl) (.e0 (zG Z208 (tm rfl) (tm rfl) rfl rfl (.inr ⟨_, rfl⟩) (oS _ _ _) (lB rfl)) ?_))))
  try first | rw [sS] | rw [sU (by assumption)]
  refine .p rfl (zA zM) (.ng ?_)
  refine AWP.frz (t := 2) rfl (hb2) ?_
  refine .ret ?_
  refine Next.rt ?_
  refine Ret.go (.cons (.cellI _ _ _ _ rfl G208 Z208 rfl) (.cons (.tmp _ _ rfl) .nil)) _ (hRa _) ?_
  refine ⟨?_, rfl⟩
  obtain ⟨e1, e2, e3⟩ := of_big (a := a) (by omega)
  rw [e1, e2, e3, bG (show ¬ qF a < 0 by omega)]; rfl
 try simp only [aL, cA] at hc16
 refine .skip ?_
 refine Next.go ?_
 refine .sr (.mv rfl rfl (.p rfl (yK zr149 pl149 (.cons (tm rfl) (.inl rfl) .nil) rfl) (.mv rfl rfl (.p rfl (abR (tm rfl) (by omega)) (.p rfl (yG (tm rfl) zE (by omega)) ?_)))))
 refine .cl rfl Tryz.call188 (evs2 rfl rfl) ((by have h := fun H => akH (qI a) (cX hpm (by decide +kernel)) ((-qF a).toNat - 1) (by omega) (-qF a - 1) (by omega) H; rw [ajG (cX hpm (by decide))] at h; exact h _)) ?_
 refine .mv rfl rfl (.p rfl (zB (tm rfl) rfl) (.p rfl (zB (tm rfl) rfl) ?_))
 refine .al zr149 (fun b7 hb7 => ?_)
 have hn2_7 := Heap.ne_of (oS _ _ _) hb7
 refine .e0 (zG Z149 (tm rfl) (tm rfl) rfl rfl (.inr ⟨_, rfl⟩) (oS _ _ _) (lB rfl)) ?_
 try first | rw [sS] | rw [sU (by assumption)]
 refine .as rfl rfl (.ng ?_)
 refine AWP.frz (t := 7) rfl (hb7) ?_
 refine .seq ?_
 have hnl : qI a / 2 ^ ((-qF a).toNat - 1) < M1 := aR (cU _ _) (cX hpm (by decide))
 have hnl2 : qI a / 2 ^ ((-qF a).toNat - 1) < 18446744073709551616 := hnl
 obtain ⟨e1, e2, e3⟩ := of_small (a := a) (by omega) rfl
 rw [ajG hnl]
 refine .region (.mv rfl rfl (.p rfl (zD U149 rfl Z22 (tm rfl)) (.p rfl (zH G22 (tm rfl)) (.p rfl (aaN (tm rfl) (zI 1) (by assumption) (by omega)) (.p rfl (zR (tm rfl) (zI 1)) (.mv rfl rfl (.p rfl (zD U149 rfl Z22 (tm rfl)) (.p rfl (zH G22 (tm rfl)) ?_))))))))
 refine .p rfl (yF (tm rfl) (zI 1) (by assumption)) (.p rfl (yK zr208 pl208 (.cons (tm rfl) (.inl rfl) (.cons (tm rfl) (.inl rfl) (.cons (tm rfl) (.inl rfl) (.cons (tm rfl) (.inl rfl) .nil)))) rfl) (.e0 (zG Z208 (tm rfl) (tm rfl) rfl rfl (.inr ⟨_, rfl⟩) (oS _ _ _) (lB rfl)) ?_))
 try first | rw [sS] | rw [sU (by assumption)]
 refine .p rfl (zA zM) (.ng ?_)
 refine AWP.frz (t := 2) rfl (hb2) ?_
 refine .ret ?_
 refine Ret.go (.cons (.cellI _ _ _ _ rfl G208 Z208 rfl) (.cons (.tmp _ _ rfl) .nil)) _ (hRa _) ?_
 refine ⟨?_, rfl⟩
 rw [← e1, ← e2, ← e3, bH (show qF a < 0 by omega)]; rfl

theorem beE (neg half rest : Bool) (n : Nat) (H : Heap) : ACall Tryz.prog 196 [spA neg half rest n] H (fun y H' => y = .bool (half || rest) ∧ H' = H) := by
 refine ACall.of_body Tryz.func196 rfl Tryz.ntmps196 Tryz.results196 rfl ?_
 refine .sr (.e rfl (zZ (tm rfl) (.inr ⟨_, rfl⟩)) (.p rfl (zA zM) (.nr (.p rfl (zD U208 rfl Z4 (tm rfl)) (.p rfl (zH G4 (tm rfl)) (.mv rfl rfl ?_))))))
 refine zL (t := 5) rfl (fun hg5 => ?_) (fun hg5 => ?_)
 ·refine .gn rfl rfl rfl (by assumption) (.gn rfl rfl rfl (by assumption) (.p rfl (zO (tm rfl) (by assumption) zM) (.as rfl rfl (.ng (.ret ?_)))))
  refine Ret.go (.cons (.tmp _ _ rfl) .nil) _ (hRa _) ?_
  refine ⟨?_, rfl⟩
  rw [show half = _ from hg5]
  rfl
 refine .gp rfl rfl rfl (by assumption) (zD U208 rfl Z4 (tm rfl)) (.gp rfl rfl rfl (by assumption) (zH G4 (tm rfl)) (.p rfl (zN (tm rfl) (by assumption) (tm rfl)) (.as rfl rfl (.ng (.ret ?_)))))
 refine Ret.go (.cons (.tmp _ _ rfl) .nil) _ (hRa _) ?_
 refine ⟨?_, rfl⟩
 rw [show half = _ from hg5]
 rfl

theorem asJ (neg half rest : Bool) (n : Nat) (H : Heap) : ACall Tryz.prog 195 [spA neg half rest n, .int .i64 2] H (fun y H' => y = .int .u64 (n : Int) ∧ H' = H) := by
 refine ACall.of_body Tryz.func195 rfl Tryz.ntmps195 Tryz.results195 rfl ?_
 refine .sr (.e rfl (zZ (tm rfl) (.inr ⟨_, rfl⟩)) (.p rfl (zA (zI 0)) (.ng (.seq (.sr (.mv rfl rfl (.ng (.block ?_))))))))
 refine .sr (.p rfl (zR (tm rfl) zE) (.as rfl rfl (.ng ?_)))
 refine AWP.cond_false (tm rfl) (by rfl) ?_
 refine .sr (.p rfl (zR (tm rfl) zE) (.as rfl rfl (.ng ?_)))
 refine AWP.cond_false (tm rfl) (by rfl) ?_
 refine .sr (.p rfl (zR (tm rfl) zE) (.as rfl rfl (.ng ?_)))
 refine AWP.cond_false (tm rfl) (by rfl) ?_
 refine .sr (.p rfl (zR (tm rfl) zE) (.as rfl rfl (.ng ?_)))
 refine AWP.cond_false (tm rfl) (by rfl) ?_
 refine .sr (.p rfl (zR (tm rfl) zE) (.as rfl rfl (.ng ?_)))
 refine AWP.cond_false (tm rfl) (by rfl) ?_
 refine .skip ?_
 refine Block.go ?_
 refine Next.go ?_
 refine .sr (.p rfl (zD U208 rfl Z22 (tm rfl)) (.p rfl (zH G22 (tm rfl)) (.as rfl rfl (.ng (.ret ?_)))))
 refine Ret.go (.cons (.tmp _ _ rfl) .nil) _ (hRa _) ?_
 exact ⟨rfl, rfl⟩

theorem awU (a : Nat) (ha : a < 18446744073709551616) (H : Heap) : ACall Tryz.prog 135 [.int .u64 (a : Int)] H (fun y H' => y = .bool (isN a) ∧ H' = H) := by
 refine ACall.of_body Tryz.func135 rfl Tryz.ntmps135 Tryz.results135 rfl ?_
 refine .sr (.p rfl (zA zM) (.nr (.mv rfl rfl (.cl rfl Tryz.call194 (evs1 rfl) (avY a ha _) (.mv rfl rfl (.p rfl (zB (tm rfl) rfl) (.p rfl (zB (tm rfl) rfl) ?_)))))))
 refine .al zr208 (fun b3 hb3 => ?_)
 refine .e0 (zG Z208 (tm rfl) (tm rfl) rfl rfl (.inr ⟨_, rfl⟩) (oS _ _ _) (lB rfl)) ?_
 try first | rw [sS] | rw [sU (by assumption)]
 refine .as rfl rfl (.ng ?_)
 refine AWP.frz (t := 3) rfl (hb3) ?_
 refine .sr (.mv rfl rfl (.cl rfl C89 (evs1 rfl) (aaE _ (by assumption) _) (.p rfl (yN (tm rfl) zE) (.mv rfl rfl ?_))))
 refine zL (t := 13) rfl (fun hg13 => ?_) (fun hg13 => ?_)
 ·have hh13 := hg13; try simp only [aM] at hh13
  refine .gp rfl rfl rfl (by assumption) (zQ G208 Z208 (tm rfl) (lB rfl)) (.gs rfl rfl rfl (by assumption) (zF Tryz.call196 (evs1 rfl) (beE _ _ _ _ _)) ?_)
  rintro _ _ ⟨rfl, hH⟩
  obtain rfl := hH.symm
  rw [of_up]
  refine .gp rfl rfl rfl (by assumption) (aaB (tm rfl)) (.p rfl (zO (tm rfl) (by assumption) (tm rfl)) (.as rfl rfl (.ng (.ret ?_))))
  refine Ret.go (.cons (.tmp _ _ rfl) .nil) _ (hRa _) ?_
  refine ⟨?_, rfl⟩
  unfold isN
  rw [bH (show yD a < 3 by omega), Bool.not_not]
  rfl
 have hh13 := hg13; try simp only [aL, bN] at hh13
 refine .gn rfl rfl rfl (by assumption) (.gn rfl rfl rfl (by assumption) (.gn rfl rfl rfl (by assumption) (.p rfl (zN (tm rfl) (by assumption) zM) (.as rfl rfl (.ng (.ret ?_))))))
 refine Ret.go (.cons (.tmp _ _ rfl) .nil) _ (hRa _) ?_
 refine ⟨?_, rfl⟩
 unfold isN
 rw [bG (show ¬ yD a < 3 by omega)]
 rfl

theorem awT (a : Nat) (ha : a < 18446744073709551616) (H : Heap) : ACall Tryz.prog 134 [.int .u64 (a : Int), .int .i64 2] H (fun y H' => y = .tuple [.int .i64 (toN a).1, .int .i64 (toN a).2] ∧ H' = H) := by
 have hpe := aaS a
 have hpm := acB a
 have htl : toM a < 18446744073709551616 ∨ 11 < qF a := by
  rcases Int.lt_or_le 11 (qF a) with h | h
  ·exact .inr h
  left; unfold toM; split
  ·exact aR (cU _ _) (by omega)
  exact shl_11 hpm h
 refine ACall.of_body Tryz.func134 rfl Tryz.ntmps134 Tryz.results134 rfl ?_
 refine .sr (.p rfl (zA zE) (.p rfl (zA zE) (.ng (.seq (.block (.sr (.mv rfl rfl (.p rfl (yN (tm rfl) zE) ?_))))))))
 refine .mv rfl rfl (.gp rfl rfl rfl (by rfl) (zJ (tm rfl)) (.gp rfl rfl rfl (by rfl) (yC (tm rfl) zE) (.p rfl (zN (tm rfl) (by rfl) (tm rfl)) (.as rfl rfl (.ng ?_)))))
 refine AWP.cond_false (tm rfl) (by rfl) ?_
 refine .sr (.mv rfl rfl (.cl rfl C89 (evs1 rfl) (aaE _ (by assumption) _) (.p rfl (yS (tm rfl) zE) (.as rfl rfl (.ng ?_)))))
 refine AWP.cond (tm rfl) (fun hc18 => ?_) (fun hc18 => ?_)
 ·try simp only [aM] at hc18
  refine .sr (.p rfl (zA zE) (.p rfl (zA zE) (.ng (.ret ?_))))
  refine Block.rt ?_
  refine Next.rt ?_
  refine Ret.go (.cons (.tmp _ _ rfl) (.cons (.tmp _ _ rfl) .nil)) _ (hRa _) ?_
  refine ⟨?_, rfl⟩
  rw [toN_big (by omega)]; rfl
 try simp only [aL, cA] at hc18
 have h3 : ¬ 3 ≤ yD a := by omega
 refine .skip ?_
 refine Block.go ?_
 refine Next.go ?_
 refine .sr (.mv rfl rfl (.cl rfl Tryz.call194 (evs1 rfl) (avY a ha _) (.mv rfl rfl (.p rfl (zB (tm rfl) rfl) (.p rfl (zB (tm rfl) rfl) ?_)))))
 refine .al zr208 (fun b6 hb6 => ?_)
 refine .e0 (zG Z208 (tm rfl) (tm rfl) rfl rfl (.inr ⟨_, rfl⟩) (oS _ _ _) (lB rfl)) ?_
 try first | rw [sS] | rw [sU (by assumption)]
 refine .as rfl rfl (.ng ?_)
 refine AWP.meet (fun env H2 => (¬ (0 ≤ qF a ∧ 11 < qF a)) ∧ env = [(4, .int .i64 0), (5, .int .i64 0), (6, .ptr (some ⟨b6, 0, none⟩))] ∧ H2 = H.set b6 (.box 208 [.bool (alR a), .bool (alQ a), .bool (alP a), .int .u64 ((toM a : Nat) : Int)])) ?_ ?_
 ·refine .sr (.mv rfl rfl (.ng ?_))
  refine AWP.cond (tm rfl) (fun hc27 => ?_) (fun hc27 => ?_)
  ·try simp only [aM] at hc27
   have he0 : qF a < 0 := by simpa using hc27
   refine .region (.e rfl (yW G208 Z208 (tm rfl) (oS _ _ _) (lB rfl)) (.mv rfl rfl (.cl rfl Tryz.call195 (evs2 rfl rfl) (asJ _ _ _ _ _) (.p rfl (zV U208 rfl Z22 (tm rfl)) (.e0 (zG Z22 (tm rfl) (tm rfl) rfl rfl (.inl rfl) (oS _ _ _) (lB rfl)) ?_)))))
   try first | rw [sS] | rw [sU (by assumption)]
   refine .ng ?_
   refine Meets.mk (M := fun env H2 => (¬ (0 ≤ qF a ∧ 11 < qF a)) ∧ env = [(4, .int .i64 0), (5, .int .i64 0), (6, .ptr (some ⟨b6, 0, none⟩))] ∧ H2 = H.set b6 (.box 208 [.bool (alR a), .bool (alQ a), .bool (alP a), .int .u64 ((toM a : Nat) : Int)])) ⟨by omega, rfl, by rw [show toM a = akS a by unfold toM akS; rw [aO he0, aO he0]]; rfl⟩ (zC rfl (zC rfl (zC rfl zU))) (hRa _)
  try simp only [aL, bN] at hc27
  have he0 : ¬ qF a < 0 := by simpa using hc27
  refine .sr (.mv rfl rfl (.cl rfl C181 (evs1 rfl) (abY a ha _) (.mv rfl rfl (.p rfl (zB (tm rfl) rfl) (.p rfl (zB (tm rfl) rfl) (.p rfl (zB (tm rfl) rfl) (.as rfl rfl (.as rfl rfl ?_))))))))
  refine .as rfl rfl (.ng (.seq (.sr (.mv rfl rfl (.p rfl (yC (tm rfl) zE) (.ng ?_))))))
  refine AWP.cond (tm rfl) (fun hc39 => ?_) (fun hc39 => ?_)
  ·try simp only [aM] at hc39
   refine .sr (.p rfl (zA zE) (.p rfl (zA zE) (.ng ?_)))
   refine AWP.dropb (hb6) ?_
   refine .ret ?_
   refine Next.rt ?_
   refine Next.rt ?_
   refine Ret.go (.cons (.tmp _ _ rfl) (.cons (.tmp _ _ rfl) .nil)) _ (hRa _) ?_
   refine ⟨?_, rfl⟩
   rw [bbK h3]
   rw [aO (by omega)]
   rfl
  try simp only [aL, bN] at hc39
  have he11 := shl_11 (e := qF a) hpm (by omega)
  refine .skip ?_
  refine Next.go ?_
  refine .region (.mv rfl rfl (.mv rfl rfl ?_))
  refine .p rfl (.as (b := .int .u64 ((toM a : Nat) : Int)) (by congr 2; exact (aN he0).symm) (qL (q := (qF a).toNat) (tm rfl) (by rw [show (((qF a).toNat : Nat) : Int) = qF a by omega]; exact .tmp _ _ rfl) (by omega) he11)) ?_
  refine .p rfl (zV U208 rfl Z22 (tm rfl)) (.e0 (zG Z22 (tm rfl) (tm rfl) rfl rfl (.inl rfl) (oS _ _ _) (lB rfl)) ?_)
  try first | rw [sS] | rw [sU (by assumption)]
  refine .ng ?_
  refine Meets.mk (M := fun env H2 => (¬ (0 ≤ qF a ∧ 11 < qF a)) ∧ env = [(4, .int .i64 0), (5, .int .i64 0), (6, .ptr (some ⟨b6, 0, none⟩))] ∧ H2 = H.set b6 (.box 208 [.bool (alR a), .bool (alQ a), .bool (alP a), .int .u64 ((toM a : Nat) : Int)])) ⟨by omega, rfl, rfl⟩ (zC rfl (zC rfl (zC rfl zU))) (hRa _)
 rintro _ _ ⟨hm11, rfl, rfl⟩
 have htl2 : toM a < 18446744073709551616 := by omega
 refine .seq (.block ?_)
 refine AWP.seqTo 44 (.bool (alR a && decide (toM a ≤ 9223372036854775808))) [4, 5, 6] ?_ ?_
 ·-- region 12
  refine .region (.p rfl (zV U208 rfl Z4 (tm rfl)) (.e rfl (yE G4 (tm rfl) (oS _ _ _) rfl) (.mv rfl rfl ?_)))
  refine zL (t := 47) rfl (fun hg47 => ?_) (fun hg47 => ?_)
  ·have hh47 := hg47; try simp only [aK] at hh47
   refine .gp rfl rfl rfl (by assumption) (zV U208 rfl Z22 (tm rfl)) (.gs rfl rfl rfl (by assumption) (yE G22 (tm rfl) (oS _ _ _) rfl) ?_)
   rintro _ _ ⟨rfl, hH⟩
   obtain rfl := hH.symm
   refine .gp rfl rfl rfl (by assumption) (abJ (tm rfl) (zI 9223372036854775808)) (.p rfl (zO (tm rfl) (by assumption) (tm rfl)) (.as rfl rfl (.nil ?_)))
   exact ⟨rfl, zY rfl (by (rw [show alR a = _ from hg47, Bool.true_and]; exact bA.2 (by omega))) (zC rfl (zC rfl (zC rfl zU))), rfl⟩
  have hh47 := hg47; try simp only [aK] at hh47
  refine .gn rfl rfl rfl (by assumption) (.gn rfl rfl rfl (by assumption) (.gn rfl rfl rfl (by assumption) (.p rfl (zN (tm rfl) (by assumption) zM) (.as rfl rfl (.nil ?_)))))
  exact ⟨rfl, zY rfl (by (rw [show alR a = _ from hg47, Bool.false_and])) (zC rfl (zC rfl (zC rfl zU))), rfl⟩
 refine AWP.sub [(44, _), (4, _), (5, _), (6, _)] (zC rfl (zC rfl (zC rfl (zC rfl zU)))) ?_
 refine AWP.cond (tm rfl) (fun hc44 => ?_) (fun hc44 => ?_)
 ·try simp only [aK] at hc44
  simp only [bK, aM] at hc44
  refine .sr (.p rfl (zV U208 rfl Z22 (tm rfl)) (.e rfl (yE G22 (tm rfl) (oS _ _ _) rfl) (.p rfl (anY (tm rfl)) (.p rfl (ahX U22 U3 (tm rfl)) (.as rfl rfl (.p rfl (zA zE) (.ng ?_)))))))
  refine AWP.dropb (hb6) ?_
  refine .ret ?_
  refine Block.rt ?_
  refine Next.rt ?_
  refine Ret.go (.cons (.tmp _ _ rfl) (.cons (.tmp _ _ rfl) .nil)) _ (hRa _) ?_
  refine ⟨?_, rfl⟩
  rw [bbK h3]
  rw [aN (by omega), aO hc44.1, aO hc44.2, ← neg_back hc44.2]
  rfl
 try simp only [aK] at hc44
 simp only [cB, aL] at hc44
 refine AWP.seqTo 56 (.bool (!alR a && decide (toM a < 9223372036854775808))) [4, 5, 6] ?_ ?_
 ·-- region 14
  refine .region (.p rfl (zV U208 rfl Z4 (tm rfl)) (.e rfl (yE G4 (tm rfl) (oS _ _ _) rfl) (.p rfl (aaB (tm rfl)) (.mv rfl rfl ?_))))
  refine zL (t := 60) rfl (fun hg60 => ?_) (fun hg60 => ?_)
  ·have hh60 := hg60; try simp only [cK] at hh60
   refine .gp rfl rfl rfl (by assumption) (zV U208 rfl Z22 (tm rfl)) (.gs rfl rfl rfl (by assumption) (yE G22 (tm rfl) (oS _ _ _) rfl) ?_)
   rintro _ _ ⟨rfl, hH⟩
   obtain rfl := hH.symm
   refine .gp rfl rfl rfl (by assumption) (yN (tm rfl) (zI 9223372036854775808)) (.p rfl (zO (tm rfl) (by assumption) (tm rfl)) (.as rfl rfl (.nil ?_)))
   exact ⟨rfl, zY rfl (by (rw [show (!alR a) = _ from hg60, Bool.true_and]; exact bA.2 (by omega))) (zC rfl (zC rfl (zC rfl zU))), rfl⟩
  have hh60 := hg60; try simp only [cJ] at hh60
  refine .gn rfl rfl rfl (by assumption) (.gn rfl rfl rfl (by assumption) (.gn rfl rfl rfl (by assumption) (.p rfl (zN (tm rfl) (by assumption) zM) (.as rfl rfl (.nil ?_)))))
  exact ⟨rfl, zY rfl (by (rw [show (!alR a) = _ from hg60, Bool.false_and])) (zC rfl (zC rfl (zC rfl zU))), rfl⟩
 refine AWP.sub [(56, _), (4, _), (5, _), (6, _)] (zC rfl (zC rfl (zC rfl (zC rfl zU)))) ?_
 refine AWP.cond (tm rfl) (fun hc56 => ?_) (fun hc56 => ?_)
 ·try simp only [aK] at hc56
  simp only [bK, cK, aM] at hc56
  refine .sr (.p rfl (zV U208 rfl Z22 (tm rfl)) (.e rfl (yE G22 (tm rfl) (oS _ _ _) rfl) (.p rfl (qM U22 U3 (tm rfl) (wrapNI64 (by omega))) (.as rfl rfl (.p rfl (zA zE) (.ng ?_))))))
  refine AWP.dropb (hb6) ?_
  refine .ret ?_
  refine Block.rt ?_
  refine Next.rt ?_
  refine Ret.go (.cons (.tmp _ _ rfl) (.cons (.tmp _ _ rfl) .nil)) _ (hRa _) ?_
  refine ⟨?_, rfl⟩
  rw [bbK h3]
  rw [aN (by omega), aN (by rw [hc56.1]; decide), aO hc56.2]
  rfl
 try simp only [aK] at hc56
 simp only [cB, cJ, aL] at hc56
 refine .skip ?_
 refine Block.go ?_
 refine Next.go ?_
 refine .sr (.p rfl (zA zE) (.p rfl (zA zE) (.ng ?_)))
 refine AWP.dropb (hb6) ?_
 refine .ret ?_
 refine Ret.go (.cons (.tmp _ _ rfl) (.cons (.tmp _ _ rfl) .nil)) _ (hRa _) ?_
 refine ⟨?_, rfl⟩
 rw [bbK h3]
 rw [aN (by omega)]
 cases hnb : alR a <;> first | (rw [aN (by decide), aN (by simp [hnb] at hc56; omega)]; rfl) | (rw [aO rfl, aN (by simp [hnb] at hc44; omega)]; rfl)

end
end Go.Proofs.YtmmgbnolccpjoaaGreatDoor
