import Derived.Test.YtmmgbnolccpjoaaGreatDoorV3
namespace Go.Proofs.YtmmgbnolccpjoaaGreatDoor
open Go Go.RowKit
variable {i v : Nat} {ds : List UInt8}
section
set_option maxRecDepth 100000

theorem beS {y : Nat} (h : 0 < y) : yJ y = yJ (y / 2) + 1 := by
 rcases bZ y 2 with q | q
 ·have : y = 1 := by omega
  subst this; rfl
 have := aeG (n := y) (k := 1) (m := y / 2) (by omega) rfl
 omega

theorem bnA {a m k : Nat} : a / 2 ^ m % 2 ^ (k + 1) = 2 * (a / 2 ^ (m + 1) % 2 ^ k) + a / 2 ^ m % 2 := by
 rw [bO 2 m, ← bU, bO 2 k, bD (2 ^ k), Nat.mod_mul]
 omega
theorem bcP (h : v % 2 ^ i = 0) : v % 2 ^ (i + 1) = 2 ^ i * (v / 2 ^ i % 2) := by
 rw [bO, Nat.mod_mul, h, bW]
theorem low_over {n : Nat} (h : v % 2 ^ i = 0) (hn : i = n ∨ v < 2 ^ i) (hin : i ≤ n) : v % 2 ^ n = 0 := by
 rcases hn with rfl | hn
 ·exact h
 rw [aW hn] at h
 subst h; exact Nat.zero_mod _
theorem low_hit {n : Nat} (hin : i < n) (h : v % 2 ^ i = 0) (hb : v / 2 ^ i % 2 = 1) : v % 2 ^ n ≠ 0 := by
 intro q
 have h1 := bcP h
 rw [hb, eZ] at h1
 have h2 : v % 2 ^ (i + 1) = 0 := by
  have := Nat.mod_mod_of_dvd v (Nat.pow_dvd_pow 2 (show i + 1 ≤ n by omega))
  rw [q] at this
  rw [← this]; exact Nat.zero_mod _
 have := bI (n := i) (show 0 < 2 by decide)
 omega

def rlen_J (v : Nat) (H : Heap) : Nat → Env → Heap → Prop := fun k env H1 => ∃ (i y : Nat), i + yJ y = yJ ((zK v).getD ((zK v).length - 1) 0) ∧ y < 4294967296 ∧ env = [(4, .int .i64 (32 * (((zK v).length : Int) - 1) + (i : Int))), (5, .int .u32 (y : Int))] ∧ H = H1 ∧ k = yJ y

theorem afT (xs : List Nat) (tl : Tail) (hx : Limbs xs) (hl : xs.length ≤ 100000) (H : Heap) : ACall Tryz.prog 85 [.slice 1 (U .u32 xs) tl] H (fun y H' => y = .int .i64 (yJ (val xs) : Int) ∧ H' = H) := by
 have hT := aaQ xs tl hx (by omega)
 have hvl : (zK (val xs)).length ≤ xs.length := by rw [← abF hx]; exact aaW xs
 generalize val xs = v at *
 have hgt := Limbs.getD (zP v) ((zK v).length - 1)
 have hb32 := (qB (n := ((zK v).getD ((zK v).length - 1) 0)) (k := 32)).2 (by rw [show (2 : Nat) ^ 32 = 4294967296 by decide]; exact hgt)
 refine ACall.of_body Tryz.func85 rfl Tryz.ntmps85 Tryz.results85 rfl ?_
 refine .sr (.p rfl (zA zE) (.nr (.mv rfl rfl (.cl rfl C153 (evs1 rfl) (hT _) (.as rfl rfl (.ng (.seq (.sr ?_))))))))
 refine .mv rfl rfl (.p rfl (abD U107 (tm rfl)) (.p rfl (zR (tm rfl) zE) (.ng ?_)))
 refine AWP.cond (tm rfl) (fun hc10 => ?_) (fun hc10 => ?_)
 ·try simp only [aM] at hc10
  have hv0 : v = 0 := by
   rcases aY v with h | h
   ·exact h
   rw [qV h] at hc10; simp only [bE] at hc10; omega
  refine .sr (.p rfl (zA zE) (.ng (.ret ?_)))
  refine Next.rt ?_
  refine Ret.go (.cons (.tmp _ _ rfl) .nil) _ (hRa _) ?_
  refine ⟨?_, rfl⟩
  subst hv0; rfl
 try simp only [aL] at hc10
 have hvp : 0 < v := by
  rcases aY v with h | h
  ·subst h; exact absurd rfl hc10
  exact h
 have hbl := aiH hvp
 have hlp : 0 < (zK v).length := by rw [qV hvp]; simp
 refine .skip ?_
 refine Next.go ?_
 refine .sr (.mv rfl rfl (.p rfl (abD U107 (tm rfl)) (.p rfl (yG (tm rfl) zE (by omega)) (.p rfl (amD zE (tm rfl) (by omega)) (.as rfl rfl (.nr (.mv rfl rfl (.mv rfl rfl ?_))))))))
 refine .p rfl (abD U107 (tm rfl)) (.p rfl (yG (tm rfl) zE (by omega)) (.p rfl (yA ((zK v).length - 1) U107 Z166 (tm rfl) (tm rfl) (by omega) (by omega)) (.p rfl (zH G166 (tm rfl)) (.as rfl rfl (.ng (.seq (.block ?_)))))))
 refine AWP.loopW (rlen_J v H) (yJ ((zK v).getD ((zK v).length - 1) 0)) ⟨0, ((zK v).getD ((zK v).length - 1) 0), by omega, hgt, rfl, rfl, rfl⟩ (zX rfl (by congr 1; try omega) (zC rfl zU)) (hRa _) ?_
 rintro _ _ _ ⟨i, y, hi, hy, rfl, rfl, rfl⟩
 refine .seq (.sr (.mv rfl rfl (.p rfl (yC (tm rfl) (zI 0)) (.ng ?_))))
 refine AWP.cond (tm rfl) (fun hc22 => ?_) (fun hc22 => ?_)
 ·try simp only [aM] at hc22
  refine .skip ?_
  refine Next.go ?_
  refine .block (.sr (.mv rfl rfl (.p rfl (yT (tm rfl) zE (by omega)) (.as rfl rfl (.ng (.region (.mv rfl rfl (.p rfl (bfB (tm rfl) (zI 2) (by assumption) (by omega)) ?_))))))))
  refine .as rfl rfl (.nil ?_)
  refine Block.go ?_
  refine Next.go ?_
  have hbh := beS (y := y) (by omega)
  refine Round.mk (J := rlen_J v H) ⟨i + 1, y / 2, by omega, by omega, rfl, rfl, rfl⟩ (zX rfl (by congr 1; try omega) (zC rfl zU)) (hRa _) (by omega)
 try simp only [aL, bN] at hc22
 have hy0 : y = 0 := by omega
 subst hy0
 rw [bmY] at hi
 refine .exit ?_
 refine Next.ex ?_
 refine Next.ex ?_
 refine Block.hit ?_
 refine Next.go ?_
 refine .sr (.mv rfl rfl (.as rfl rfl (.ng (.ret ?_))))
 refine Ret.go (.cons (.tmp _ _ rfl) .nil) _ (hRa _) ?_
 refine ⟨?_, rfl⟩
 show AV.int .i64 _ = AV.int .i64 _
 congr 1
 omega

def blY (xs : List Nat) (tl : Tail) (n : Nat) (q : Int) (H : Heap) : Nat → Env → Heap → Prop := fun k env H1 => ∃ c : Nat, c ≤ 64 ∧ env = [(0, .slice 1 (U .u32 xs) tl), (1, .int .i64 q), (5, .int .u64 ((val xs / 2 ^ (n + c) % 2 ^ (64 - c) : Nat) : Int)), (6, .int .i64 ((c : Int) - 1))] ∧ H = H1 ∧ c = k

theorem anQ (xs : List Nat) (tl : Tail) (hx : Limbs xs) (hl : xs.length ≤ 100000) (n : Nat) (hn : n ≤ 100000000) (q : Int) (hq : q = (n : Int)) (H : Heap) : ACall Tryz.prog 150 [.slice 1 (U .u32 xs) tl, .int .i64 q] H (fun y H' => y = .int .u64 ((val xs / 2 ^ n % 18446744073709551616 : Nat) : Int) ∧ H' = H) := by
 subst hq
 refine ACall.of_body Tryz.func150 rfl Tryz.ntmps150 Tryz.results150 rfl ?_
 refine .sr (.p rfl (zA (zI 0)) (.nr (.p rfl (zA (zI 0)) (.ng (.seq (.sr (.p rfl (zA zE) (.ng ?_))))))))
 refine .block ?_
 refine AWP.loopW (blY xs tl n (n : Int) H) (64) ⟨64, aX _, rfl, rfl, rfl⟩ (zC rfl (zC rfl (zX rfl (by simp [Nat.mod_one]) (zC rfl zU)))) (hRa _) ?_
 rintro _ _ _ ⟨c, hc, rfl, rfl, rfl⟩
 refine .seq (.sr (.mv rfl rfl (.p rfl (yS (tm rfl) zE) (.ng ?_))))
 refine AWP.cond (tm rfl) (fun hc8 => ?_) (fun hc8 => ?_)
 ·try simp only [aM] at hc8
  have hbn : val xs / 2 ^ (n + (c - 1)) % 2 ^ (64 - (c - 1)) = 2 * (val xs / 2 ^ (n + c) % 2 ^ (64 - c)) + val xs / 2 ^ (n + (c - 1)) % 2 := by
   have := @bnA (val xs) (n + (c - 1)) (64 - c)
   rw [show 64 - c + 1 = 64 - (c - 1) by omega, show n + (c - 1) + 1 = n + c by omega] at this
   exact this
  have hlt : val xs / 2 ^ (n + c) % 2 ^ (64 - c) < 9223372036854775808 := bM (bQ _ (bI (by decide))) (aZ (aT (by decide) (show 64 - c ≤ 63 by omega)) (by decide))
  refine .skip ?_
  refine Next.go ?_
  refine .seq (.block (.sr (.mv rfl rfl (.p rfl (aaR (zI 2) (tm rfl) (by omega)) (.as rfl rfl (.nr (.mv rfl rfl (.mv rfl rfl ?_))))))))
  refine .mv rfl rfl (.p rfl (yT (tm rfl) (tm rfl) (by omega)) (.cl rfl C151 (evs2 rfl rfl) (afU xs tl hx (by omega) (n + (c - 1)) (by omega) _ (by omega) _) (.ng ?_)))
  refine AWP.cond (tm rfl) (fun hc17 => ?_) (fun hc17 => ?_)
  ·try simp only [aM] at hc17
   refine .region (.mv rfl rfl (.p rfl (yR (tm rfl) (zI 1) (by omega)) (.as rfl rfl (.nil ?_))))
   refine Block.go ?_
   refine Next.go ?_
   refine .region (.mv rfl rfl (.p rfl (yG (tm rfl) zE (by omega)) (.as rfl rfl (.ng ?_))))
   refine Round.mk (J := blY xs tl n (n : Int) H) ⟨c - 1, by omega, rfl, rfl, rfl⟩ (zC rfl (zC rfl (zX rfl (congrArg (fun w : Nat => AV.int .u64 (w : Int)) (show _ = val xs / 2 ^ (n + (c - 1)) % 2 ^ (64 - (c - 1)) by omega)) (zX rfl (by congr 1; omega) zU)))) (hRa _) (by omega)
  try simp only [aL] at hc17
  refine .skip ?_
  refine Block.go ?_
  refine Next.go ?_
  refine .region (.mv rfl rfl (.p rfl (yG (tm rfl) zE (by omega)) (.as rfl rfl (.ng ?_))))
  refine Round.mk (J := blY xs tl n (n : Int) H) ⟨c - 1, by omega, rfl, rfl, rfl⟩ (zC rfl (zC rfl (zX rfl (congrArg (fun w : Nat => AV.int .u64 (w : Int)) (show _ = val xs / 2 ^ (n + (c - 1)) % 2 ^ (64 - (c - 1)) by omega)) (zX rfl (by congr 1; omega) zU)))) (hRa _) (by omega)
 try simp only [aL, cA] at hc8
 have hc0 : c = 0 := by omega
 subst hc0
 refine .exit ?_
 refine Next.ex ?_
 refine Next.ex ?_
 refine Block.hit ?_
 refine Next.go ?_
 refine .sr (.mv rfl rfl (.as rfl rfl (.ng (.ret ?_))))
 refine Ret.go (.cons (.tmp _ _ rfl) .nil) _ (hRa _) ?_
 refine ⟨?_, rfl⟩
 rw [cC, Nat.sub_zero, show (2 : Nat) ^ 64 = 18446744073709551616 by decide]; rfl

def low_J (xs : List Nat) (tl : Tail) (n : Nat) (H : Heap) : Nat → Env → Heap → Prop := fun k env H1 => ∃ i : Nat, i ≤ n ∧ val xs % 2 ^ i = 0 ∧ env = [(0, .slice 1 (U .u32 xs) tl), (1, .int .i64 (n : Int)), (5, .int .i64 (i : Int))] ∧ H = H1 ∧ k = n - i

theorem beK (xs : List Nat) (tl : Tail) (hx : Limbs xs) (hl : xs.length ≤ 100000) (n : Nat) (hn : n ≤ 100000000) (q : Int) (hq : q = (n : Int)) (H : Heap) : ACall Tryz.prog 152 [.slice 1 (U .u32 xs) tl, .int .i64 q] H (fun y H' => y = .bool (decide (val xs % 2 ^ n ≠ 0)) ∧ H' = H) := by
 subst hq
 refine ACall.of_body Tryz.func152 rfl Tryz.ntmps152 Tryz.results152 rfl ?_
 refine .sr (.p rfl (zA zM) (.ng (.seq (.sr (.p rfl (zA zE) (.ng (.block ?_)))))))
 refine AWP.loopW (low_J xs tl n H) (n) ⟨0, Nat.zero_le _, by simp [Nat.mod_one], rfl, rfl, rfl⟩ (zC rfl (zC rfl (zC rfl zU))) (hRa _) ?_
 rintro _ _ _ ⟨i, hi, hl0, rfl, rfl, rfl⟩
 refine .seq ?_
 refine AWP.seqTo 15 (.bool (decide ((i : Int) < (n : Int)) && decide ((i : Int) < 32 * (xs.length : Int)))) [0, 1, 5] ?_ ?_
 ·-- region 2
  refine .region (.mv rfl rfl (.mv rfl rfl (.p rfl (yN (tm rfl) (tm rfl)) (.mv rfl rfl ?_))))
  refine zL (t := 9) rfl (fun hg9 => ?_) (fun hg9 => ?_)
  ·refine .gp rfl rfl rfl (by assumption) (zJ (tm rfl)) (.gp rfl rfl rfl (by assumption) (zJ (tm rfl)) (.gp rfl rfl rfl (by assumption) (abD U107 (tm rfl)) (.gp rfl rfl rfl (by assumption) (amD zE (tm rfl) (by omega)) (.gp rfl rfl rfl (by assumption) (yN (tm rfl) (tm rfl)) (.p rfl (zO (tm rfl) (by assumption) (tm rfl)) (.nil ?_))))))
   exact ⟨rfl, zY rfl (by (rw [show decide ((i : Int) < (n : Int)) = _ from hg9]; rfl)) (zC rfl (zC rfl (zC rfl zU))), rfl⟩
  refine .gn rfl rfl rfl (by assumption) (.gn rfl rfl rfl (by assumption) (.gn rfl rfl rfl (by assumption) (.gn rfl rfl rfl (by assumption) (.gn rfl rfl rfl (by assumption) (.p rfl (zN (tm rfl) (by assumption) zM) (.nil ?_))))))
  exact ⟨rfl, zY rfl (by (rw [show decide ((i : Int) < (n : Int)) = _ from hg9]; rfl)) (zC rfl (zC rfl (zC rfl zU))), rfl⟩
 refine AWP.sub [(15, _), (0, _), (1, _), (5, _)] (zC rfl (zC rfl (zC rfl (zC rfl zU)))) ?_
 refine AWP.cond (tm rfl) (fun hc15 => ?_) (fun hc15 => ?_)
 ·try simp only [aK] at hc15
  simp only [bK, aM] at hc15
  refine .skip ?_
  refine Next.go ?_
  refine .seq (.block (.sr (.mv rfl rfl (.mv rfl rfl (.cl rfl C151 (evs2 rfl rfl) (afU xs tl hx (by omega) i (by omega) _ rfl _) (.ng ?_))))))
  refine AWP.cond (tm rfl) (fun hc20 => ?_) (fun hc20 => ?_)
  ·try simp only [aM] at hc20
   refine .sr (.p rfl (zA zM) (.ng (.ret ?_)))
   refine Block.rt ?_
   refine Next.rt ?_
   refine Next.rt ?_
   refine Block.rt ?_
   refine Next.rt ?_
   refine Ret.go (.cons (.tmp _ _ rfl) .nil) _ (hRa _) ?_
   refine ⟨?_, rfl⟩
   rw [bH (low_hit (by omega) hl0 (by omega))]; rfl
  try simp only [aL] at hc20
  refine .skip ?_
  refine Block.go ?_
  refine Next.go ?_
  refine .region (.mv rfl rfl (.p rfl (yT (tm rfl) zE (by omega)) (.as rfl rfl (.ng ?_))))
  refine Round.mk (J := low_J xs tl n H) ⟨i + 1, by omega, by rw [bcP hl0, show val xs / 2 ^ i % 2 = 0 by omega, cW], rfl, rfl, rfl⟩ (zC rfl (zC rfl (zC rfl zU))) (hRa _) (by omega)
 try simp only [aK] at hc15
 simp only [cB, aL] at hc15
 have hvl := afE hx
 rw [show (4294967296 : Nat) = 2 ^ 32 by decide, ← dO] at hvl
 have hov : val xs % 2 ^ n = 0 := low_over hl0 (by rcases hc15 with h | h; exact .inl (by omega); exact .inr (bM hvl (aT (by decide) (by omega)))) hi
 refine .exit ?_
 refine Next.ex ?_
 refine Next.ex ?_
 refine Block.hit ?_
 refine Next.go ?_
 refine .sr (.p rfl (zA zM) (.ng (.ret ?_)))
 refine Ret.go (.cons (.tmp _ _ rfl) .nil) _ (hRa _) ?_
 refine ⟨?_, rfl⟩
 rw [bG (by rw [hov]; simp)]; rfl

end
section
open Go Go.RowKit
set_option maxRecDepth 100000

theorem blen_row {xs : List Nat} (hx : Limbs xs) : yJ (val xs) ≤ 32 * xs.length := qB.2 (by have := afE hx; rw [show (4294967296 : Nat) = 2 ^ 32 by decide, ← dO] at this; exact this)
theorem mant_ref {e : Int} {more : Bool} (h : e < yH v e) : acG v e more = if (decide (((v / 2 ^ (((yH v e - e).toNat) - 1) % 2 : Nat) : Int) = 1) && ((decide (v % 2 ^ (((yH v e - e).toNat) - 1) ≠ 0) || more) || decide (((v / 2 ^ ((yH v e - e).toNat) % 2 : Nat) : Int) = ((1 : Nat) : Int)))) = true then v / 2 ^ ((yH v e - e).toNat) + 1 else v / 2 ^ ((yH v e - e).toNat) := by
 rw [bkW h]
 simp only [bK, cV, aM, or_assoc]
 congr 1
 refine propext ⟨fun q => ⟨by omega, q.2.imp_right (Or.imp_right (fun w => by omega))⟩, fun q => ⟨by omega, q.2.imp_right (Or.imp_right (fun w => by omega))⟩⟩

theorem alL (neg : Bool) (xs : List Nat) (tl : Tail) (hx : Limbs xs) (hl : xs.length ≤ 10000) (e : Int) (he : -10000 ≤ e ∧ e ≤ 1000000) (more : Bool) (H : Heap) : ACall Tryz.prog 82 [.bool neg, .slice 1 (U .u32 xs) tl, .int .i64 e, .bool more] H (fun y H' => y = .int .u64 ((yB neg (val xs) e more : Nat) : Int) ∧ H' = H) := by
 have hbl : yJ (val xs) ≤ 320000 := by have := blen_row hx; omega
 have hb0 := @blen0 (val xs)
 have hun : yH (val xs) e = if e + yJ (val xs) - 53 < -1074 then -1074 else e + yJ (val xs) - 53 := rfl
 have hul := asF (val xs) e
 have hur : yH (val xs) e ≤ 2000000 := by rw [hun]; split <;> omega
 have hml := ajB (val xs) e more
 have hsg : aaH neg ≤ 9223372036854775808 := by unfold aaH; split <;> omega
 refine ACall.of_body Tryz.func82 rfl Tryz.ntmps82 Tryz.results82 rfl ?_
 refine .sr (.p rfl (zA (zI 0)) (.nr (.p rfl (zA (zI 0)) (.ng ?_))))
 refine AWP.seqToL [(9, .int .u64 ((aaH neg : Nat) : Int))] [1, 2, 3, 8] ?_ ?_
 ·refine .sr (.mv rfl rfl (.ng ?_))
  refine AWP.cond (tm rfl) (fun hc16 => ?_) (fun hc16 => ?_)
  ·try simp only [aK] at hc16
   refine .region (.p rfl (zA (zI 9223372036854775808)) (.nil ?_))
   exact ⟨rfl, (zX rfl (by (unfold aaH; rw [aO (by assumption)]; done)) (zC rfl (zC rfl (zC rfl (zC rfl zU))))), rfl⟩
  try simp only [aK] at hc16
  refine .skip ?_
  exact ⟨rfl, (zX rfl (by (unfold aaH; rw [aN (by simp_all)]; done)) (zC rfl (zC rfl (zC rfl (zC rfl zU))))), rfl⟩
 refine AWP.sub [(9, _), (1, _), (2, _), (3, _), (8, _)] (zC rfl (zC rfl (zC rfl (zC rfl (zC rfl zU))))) ?_
 refine .sr (.mv rfl rfl (.cl rfl C85 (evs1 rfl) (afT xs tl hx (by omega) _) (.as rfl rfl (.ng (.seq ?_)))))
 refine AWP.seqTo 30 (.bool (decide (val xs = 0))) [9, 1, 2, 3, 8, 10] ?_ ?_
 ·-- region 5
  refine .region (.mv rfl rfl (.p rfl (zR (tm rfl) zE) (.mv rfl rfl ?_)))
  refine zL (t := 21) rfl (fun hg21 => ?_) (fun hg21 => ?_)
  ·have hh21 := hg21; try simp only [aM] at hh21
   refine .gn rfl rfl rfl (by assumption) (.gn rfl rfl rfl (by assumption) (.gn rfl rfl rfl (by assumption) ?_))
   refine AList.gdead rfl rfl rfl ?_
   refine AList.gdead rfl rfl rfl ?_
   refine AList.gdead rfl rfl rfl ?_
   refine AList.gdead rfl rfl rfl ?_
   refine .gn rfl rfl rfl (by assumption) (.p rfl (zO (tm rfl) (by assumption) zM) (.nil ?_))
   exact ⟨rfl, zY rfl (by (simp_all; done)) (zC rfl (zC rfl (zC rfl (zC rfl (zC rfl (zC rfl zU)))))), rfl⟩
  have hh21 := hg21; try simp only [aL] at hh21
  refine .gp rfl rfl rfl (by assumption) (zJ (tm rfl)) (.gp rfl rfl rfl (by assumption) (yN (tm rfl) zE) (.gp rfl rfl rfl (by assumption) (zJ (tm rfl)) ?_))
  refine zL (t := 24) rfl (fun hg24 => ?_) (fun hg24 => ?_)
  ·have hh24 := hg24; try simp only [aM] at hh24
   refine .gp rfl rfl rfl (by assumption) (zJ (tm rfl)) (.gp rfl rfl rfl (by assumption) (zJ (tm rfl)) (.gp rfl rfl rfl (by assumption) (yT (tm rfl) (tm rfl) (by omega)) (.gp rfl rfl rfl (by assumption) (yN (tm rfl) zE) (.gp rfl rfl rfl (by assumption) (zO (tm rfl) (by assumption) (tm rfl)) (.p rfl (zN (tm rfl) (by assumption) (tm rfl)) (.nil ?_))))))
   exact ⟨rfl, zY rfl (by (simp_all; omega)) (zC rfl (zC rfl (zC rfl (zC rfl (zC rfl (zC rfl zU)))))), rfl⟩
  have hh24 := hg24; try simp only [aL, bN] at hh24
  refine .gn rfl rfl rfl (by assumption) (.gn rfl rfl rfl (by assumption) (.gn rfl rfl rfl (by assumption) (.gn rfl rfl rfl (by assumption) (.gp rfl rfl rfl (by assumption) (zN (tm rfl) (by assumption) zM) (.p rfl (zN (tm rfl) (by assumption) (tm rfl)) (.nil ?_))))))
  exact ⟨rfl, zY rfl (by (simp_all; done)) (zC rfl (zC rfl (zC rfl (zC rfl (zC rfl (zC rfl zU)))))), rfl⟩
 refine AWP.sub [(30, _), (9, _), (1, _), (2, _), (3, _), (8, _), (10, _)] (zC rfl (zC rfl (zC rfl (zC rfl (zC rfl (zC rfl (zC rfl zU))))))) ?_
 refine AWP.cond (tm rfl) (fun hc30 => ?_) (fun hc30 => ?_)
 ·try simp only [aM] at hc30
  have hv0 : val xs = 0 := by simpa using hc30
  refine .sr (.mv rfl rfl (.as rfl rfl (.ng (.ret ?_))))
  refine Next.rt ?_
  refine Ret.go (.cons (.tmp _ _ rfl) .nil) _ (hRa _) ?_
  refine ⟨?_, rfl⟩
  unfold yB; rw [aO (.inl hv0)]; rfl
 try simp only [aL] at hc30
 have hv0 : 0 < val xs := eI (by simpa using hc30)
 have hbp : 0 < yJ (val xs) := by omega
 refine .skip ?_
 refine Next.go ?_
 refine .seq (.sr (.mv rfl rfl (.p rfl (yC (tm rfl) zE) (.ng ?_))))
 refine AWP.cond (tm rfl) (fun hc33 => ?_) (fun hc33 => ?_)
 ·try simp only [aM] at hc33
  refine .sr (.mv rfl rfl (.p rfl (yR (tm rfl) (zI 9218868437227405312) (by omega)) (.as rfl rfl (.ng (.ret ?_)))))
  refine Next.rt ?_
  refine Ret.go (.cons (.tmp _ _ rfl) .nil) _ (hRa _) ?_
  refine ⟨?_, rfl⟩
  unfold yB; rw [aN (by omega), aO (by omega)]; rfl
 try simp only [aL, bN] at hc33
 refine .skip ?_
 refine Next.go ?_
 refine .sr (.mv rfl rfl (.mv rfl rfl (.p rfl (yT (tm rfl) (tm rfl) (by omega)) (.p rfl (yG (tm rfl) zE (by omega)) (.as rfl rfl (.ng ?_))))))
 refine AWP.seqToL [(11, .int .i64 (yH (val xs) e))] [9, 1, 2, 3, 8] ?_ ?_
 ·refine .sr (.mv rfl rfl (.p rfl (yN (tm rfl) zE) (.ng ?_)))
  refine AWP.cond (tm rfl) (fun hc41 => ?_) (fun hc41 => ?_)
  ·try simp only [aM] at hc41
   refine .region (.p rfl (zA zE) (.nil ?_))
   exact ⟨rfl, (zX rfl (by (rw [hun, aO (by omega)]; done)) (zC rfl (zC rfl (zC rfl (zC rfl (zC rfl zU)))))), rfl⟩
  try simp only [aL, bN] at hc41
  refine .skip ?_
  exact ⟨rfl, (zX rfl (by (rw [hun, aN (by omega)]; done)) (zC rfl (zC rfl (zC rfl (zC rfl (zC rfl zU)))))), rfl⟩
 refine AWP.sub [(11, _), (9, _), (1, _), (2, _), (3, _), (8, _)] (zC rfl (zC rfl (zC rfl (zC rfl (zC rfl (zC rfl zU)))))) ?_
 refine .sr (.p rfl (zA (zI 0)) (.ng ?_))
 refine AWP.seqToL [(12, .int .u64 ((acG (val xs) e more : Nat) : Int))] [11, 9, 8] ?_ ?_
 ·refine .sr (.mv rfl rfl (.mv rfl rfl (.p rfl (abJ (tm rfl) (tm rfl)) (.ng ?_))))
  refine AWP.cond (tm rfl) (fun hc44 => ?_) (fun hc44 => ?_)
  ·try simp only [aM] at hc44
   have hfs : val xs * 2 ^ (e - yH (val xs) e).toNat < 18446744073709551616 := awN hc44
   have hms := aoK (more := more) hc44
   have hur2 := biB hv0 hc44
   refine .region (.mv rfl rfl (.mv rfl rfl (.mv rfl rfl (.p rfl (yG (tm rfl) (tm rfl) (by omega)) (.cl rfl Tryz.call87 (evs2 rfl rfl) (anT xs tl hx hl (e - yH (val xs) e).toNat (by omega) _ (by omega) (cX hfs (by decide +kernel)) _) ?_)))))
   refine .cl rfl Tryz.call150 (.cons (tm rfl) (.cons zE .nil)) (anQ (zK (val xs * 2 ^ (e - yH (val xs) e).toNat)) .shared (zP _) (aZ (yU (cX hfs (by decide +kernel))) (by decide)) 0 (by decide) _ rfl _) ?_
   rw [zT, dC, fN, aW hfs]
   refine .as rfl rfl (.nil ?_)
   exact ⟨rfl, (zX rfl (by rw [hms]) (zC rfl (zC rfl (zC rfl zU)))), rfl⟩
  try simp only [aL, cA] at hc44
  have hms := mant_ref (more := more) hc44
  have hds : val xs / 2 ^ ((yH (val xs) e - e).toNat) < 18446744073709551616 := by
   have := arY hc44
   rw [← bdB (by omega)]; omega
  refine .sr (.mv rfl rfl (.mv rfl rfl (.p rfl (yG (tm rfl) (tm rfl) (by omega)) (.as rfl rfl (.nr (.mv rfl rfl (.mv rfl rfl (.cl rfl Tryz.call150 (evs2 rfl rfl) (anQ xs tl hx (by omega) ((yH (val xs) e - e).toNat) (by omega) _ (by omega) _) ?_))))))))
  rw [aW hds]
  refine .as rfl rfl (.nr (.mv rfl rfl (.mv rfl rfl (.p rfl (yG (tm rfl) zE (by omega)) (.cl rfl C151 (evs2 rfl rfl) (afU xs tl hx (by omega) (((yH (val xs) e - e).toNat) - 1) (by omega) _ (by omega) _) (.as rfl rfl (.ng ?_)))))))
  refine AWP.seqTo 15 (.bool (decide (val xs % 2 ^ (((yH (val xs) e - e).toNat) - 1) ≠ 0) || more)) [11, 9, 8, 12, 14] ?_ ?_
  ·-- region 18
   refine .region (.mv rfl rfl (.mv rfl rfl (.p rfl (yG (tm rfl) zE (by omega)) (.cl rfl Tryz.call152 (evs2 rfl rfl) (beK xs tl hx (by omega) (((yH (val xs) e - e).toNat) - 1) (by omega) _ (by omega) _) (.mv rfl rfl ?_)))))
   refine zL (t := 65) rfl (fun hg65 => ?_) (fun hg65 => ?_)
   ·have hh65 := hg65; try simp only [aM, ne_eq] at hh65
    refine .gn rfl rfl rfl (by assumption) (.p rfl (zO (tm rfl) (by assumption) zM) (.as rfl rfl (.nil ?_)))
    exact ⟨rfl, zY rfl (by (simp_all; done)) (zC rfl (zC rfl (zC rfl (zC rfl (zC rfl zU))))), rfl⟩
   have hh65 := hg65; try simp only [aL, ne_eq, cG] at hh65
   refine .gp rfl rfl rfl (by assumption) (zJ (tm rfl)) (.p rfl (zN (tm rfl) (by assumption) (tm rfl)) (.as rfl rfl (.nil ?_)))
   exact ⟨rfl, zY rfl (by (simp_all; done)) (zC rfl (zC rfl (zC rfl (zC rfl (zC rfl zU))))), rfl⟩
  refine AWP.sub [(15, _), (11, _), (9, _), (8, _), (12, _), (14, _)] (zC rfl (zC rfl (zC rfl (zC rfl (zC rfl (zC rfl zU)))))) ?_
  refine AWP.seqTo 76 (.bool ((decide (((val xs / 2 ^ (((yH (val xs) e - e).toNat) - 1) % 2 : Nat) : Int) = 1) && ((decide (val xs % 2 ^ (((yH (val xs) e - e).toNat) - 1) ≠ 0) || more) || decide (((val xs / 2 ^ ((yH (val xs) e - e).toNat) % 2 : Nat) : Int) = ((1 : Nat) : Int)))))) [11, 9, 8, 12] ?_ ?_
  ·-- region 19
   refine .region (.mv rfl rfl (.mv rfl rfl ?_))
   refine zL (t := 69) rfl (fun hg69 => ?_) (fun hg69 => ?_)
   ·have hh69 := hg69; try simp only [aM] at hh69
    refine .gp rfl rfl rfl (by assumption) (zJ (tm rfl)) (.gp rfl rfl rfl (by assumption) (zJ (tm rfl)) ?_)
    refine zL (t := 71) rfl (fun hg71 => ?_) (fun hg71 => ?_)
    ·have hh71 := hg71; try simp only [ne_eq] at hh71
     refine .gn rfl rfl rfl (by assumption) (.gn rfl rfl rfl (by assumption) (.gn rfl rfl rfl (by assumption) (.gp rfl rfl rfl (by assumption) (zO (tm rfl) (by assumption) zM) (.p rfl (zO (tm rfl) (by assumption) (tm rfl)) (.nil ?_)))))
     exact ⟨rfl, zY rfl (by (simp_all; done)) (zC rfl (zC rfl (zC rfl (zC rfl zU)))), rfl⟩
    have hh71 := hg71; try simp only [ne_eq] at hh71
    refine .gp rfl rfl rfl (by assumption) (zJ (tm rfl)) (.gp rfl rfl rfl (by assumption) (qY (tm rfl) (zI 2) (by omega)) (.gp rfl rfl rfl (by assumption) (zR (tm rfl) (zI 1)) (.gp rfl rfl rfl (by assumption) (zN (tm rfl) (by assumption) (tm rfl)) (.p rfl (zO (tm rfl) (by assumption) (tm rfl)) (.nil ?_)))))
    exact ⟨rfl, zY rfl (by (simp_all; done)) (zC rfl (zC rfl (zC rfl (zC rfl zU)))), rfl⟩
   have hh69 := hg69; try simp only [aL] at hh69
   refine .gn rfl rfl rfl (by assumption) (.gn rfl rfl rfl (by assumption) ?_)
   refine AList.gdead rfl rfl rfl ?_
   refine AList.gdead rfl rfl rfl ?_
   refine AList.gdead rfl rfl rfl ?_
   refine .gn rfl rfl rfl (by assumption) (.p rfl (zN (tm rfl) (by assumption) zM) (.nil ?_))
   exact ⟨rfl, zY rfl (by (simp_all; done)) (zC rfl (zC rfl (zC rfl (zC rfl zU)))), rfl⟩
  refine AWP.sub [(76, _), (11, _), (9, _), (8, _), (12, _)] (zC rfl (zC rfl (zC rfl (zC rfl (zC rfl zU))))) ?_
  refine AWP.cond (tm rfl) (fun hc76 => ?_) (fun hc76 => ?_)
  ·try simp only [ne_eq] at hc76
   rw [aO hc76] at hms
   refine .region (.mv rfl rfl (.p rfl (yR (tm rfl) (zI 1) (by omega)) (.as rfl rfl (.nil ?_))))
   exact ⟨rfl, (zX rfl (by rw [hms]) (zC rfl (zC rfl (zC rfl zU)))), rfl⟩
  try simp only [ne_eq] at hc76
  rw [aN (by rw [hc76]; decide)] at hms
  refine .skip ?_
  exact ⟨rfl, (zX rfl (by rw [hms]) (zC rfl (zC rfl (zC rfl zU)))), rfl⟩
 refine AWP.sub [(12, _), (11, _), (9, _), (8, _)] (zC rfl (zC rfl (zC rfl (zC rfl zU)))) ?_
 refine AWP.seqToL [(12, .int .u64 ((akR (acG (val xs) e more) : Nat) : Int)), (11, .int .i64 (ajQ (acG (val xs) e more) (yH (val xs) e)))] [9, 8] ?_ ?_
 ·refine .sr (.mv rfl rfl (.p rfl (zR (tm rfl) (zI 9007199254740992)) (.ng ?_)))
  refine AWP.cond (tm rfl) (fun hc80 => ?_) (fun hc80 => ?_)
  ·try simp only [aM] at hc80
   refine .sr (.p rfl (zA (zI 4503599627370496)) (.ng (.region (.mv rfl rfl (.p rfl (yT (tm rfl) zE (by omega)) (.as rfl rfl (.nil ?_)))))))
   exact ⟨rfl, (zX rfl (by (unfold akR; rw [aO (by omega)]; done)) (zX rfl (by (unfold ajQ; rw [aO (by omega)]; done)) (zC rfl (zC rfl zU)))), rfl⟩
  try simp only [aL] at hc80
  refine .skip ?_
  exact ⟨rfl, (zX rfl (by (unfold akR; rw [aN (by omega)]; done)) (zX rfl (by (unfold ajQ; rw [aN (by omega)]; done)) (zC rfl (zC rfl zU)))), rfl⟩
 refine AWP.sub [(12, _), (11, _), (9, _), (8, _)] (zC rfl (zC rfl (zC rfl (zC rfl zU)))) ?_
 have hR : yB neg (val xs) e more = aaH neg + acQ (akR (acG (val xs) e more)) (ajQ (acG (val xs) e more) (yH (val xs) e)) := by
  unfold yB; rw [aN (by omega), aN (by omega), bcG]
 have hA := bcH hml
 have hU := bcF (acG (val xs) e more) (yH (val xs) e)
 generalize akR (acG (val xs) e more) = m1 at hA hR ⊢
 generalize ajQ (acG (val xs) e more) (yH (val xs) e) = u1 at hU hR ⊢
 refine .seq (.sr (.mv rfl rfl (.p rfl (yN (tm rfl) (zI 4503599627370496)) (.ng ?_))))
 refine AWP.cond (tm rfl) (fun hc84 => ?_) (fun hc84 => ?_)
 ·try simp only [aM] at hc84
  refine .sr (.mv rfl rfl (.mv rfl rfl (.p rfl (yR (tm rfl) (tm rfl) (by omega)) (.as rfl rfl (.ng (.ret ?_))))))
  refine Next.rt ?_
  refine Ret.go (.cons (.tmp _ _ rfl) .nil) _ (hRa _) ?_
  refine ⟨?_, rfl⟩
  rw [hR]; unfold acQ; rw [aO (by omega)]; rfl
 try simp only [aL, bN] at hc84
 refine .skip ?_
 refine Next.go ?_
 refine .seq (.sr (.mv rfl rfl (.p rfl (yT (tm rfl) zE (by omega)) (.p rfl (yS (tm rfl) zE) (.ng ?_)))))
 refine AWP.cond (tm rfl) (fun hc90 => ?_) (fun hc90 => ?_)
 ·try simp only [aM] at hc90
  refine .sr (.mv rfl rfl (.p rfl (yR (tm rfl) (zI 9218868437227405312) (by omega)) (.as rfl rfl (.ng (.ret ?_)))))
  refine Next.rt ?_
  refine Ret.go (.cons (.tmp _ _ rfl) .nil) _ (hRa _) ?_
  refine ⟨?_, rfl⟩
  rw [hR]; unfold acQ; rw [aN (by omega), aO (by omega)]; rfl
 try simp only [aL, cA] at hc90
 refine .skip ?_
 refine Next.go ?_
 refine .sr (.mv rfl rfl (.mv rfl rfl (.p rfl (yT (tm rfl) zE (by omega)) ?_)))
 refine .p rfl (.as (b := .int .u64 (((u1 + 1075).toNat : Nat) : Int)) (by congr 1; omega) (qM U3 U22 (tm rfl) (wrap64 (by omega) (by omega)))) ?_
 refine .p rfl (qL (tm rfl) (zI 52) (by omega) (by rw [shl52 (by omega)]; omega)) (.p rfl (yR (tm rfl) (tm rfl) (by (rw [shl52 (by omega)]; omega))) (.mv rfl rfl (.p rfl (yR (tm rfl) (tm rfl) (by (rw [shl52 (by omega)]; omega))) (.p rfl (abI (tm rfl) (zI 4503599627370496) (by (rw [shl52 (by omega)]; omega)) (by (rw [shl52 (by omega)]; omega))) (.as rfl rfl (.ng (.ret ?_)))))))
 refine Ret.go (.cons (.tmp _ _ rfl) .nil) _ (hRa _) ?_
 refine ⟨?_, rfl⟩
 rw [hR]; unfold acQ; rw [aN (by omega), aN (by omega)]
 exact congrArg (fun w : Nat => AV.int .u64 (w : Int)) (show aaH neg + (u1 + 1075).toNat * 2 ^ 52 + m1 - 4503599627370496 = aaH neg + (m1 + (u1 + 1074).toNat * 4503599627370496) by rw [shl52 (by omega)]; omega)

end
section
open Go Go.RowKit
set_option maxRecDepth 100000

theorem BIG_bits : ∃ a : Nat, a = 8192 ∧ BIG = 2 ^ a := ⟨8192, rfl, by decide +kernel⟩
theorem aeC {x : Nat} (h : yJ x ≤ 8192) : x < BIG := by
 obtain ⟨a, ha, e⟩ := BIG_bits
 rw [e]; exact qB.1 (by omega)
theorem aqW (neg : Bool) (n : Nat) (e : Int) (more : Bool) : yB neg n e more = aaH neg + yB false n e more := by
 unfold yB
 split
 ·rfl
 split
 ·unfold aaH; simp
 rw [atF, atF]; unfold aaH; simp
theorem num_step (h : i < ds.length) : num (ds.take (i + 1)) = num (ds.take i) * 10 + ((ds.getD i 0).toNat - 48) := by
 rw [List.take_add_one, aP, bF h]
 generalize ds[i] = c
 show num (ds.take i ++ [c]) = _
 rw [ahY]; unfold num; rw [acV, ahZ]; simp
theorem baS (n : Nat) : yJ (n * 10) ≤ yJ n + 4 := by
 have h1 : n < 2 ^ yJ n := qB.1 (aX _)
 refine qB.2 ?_
 rw [bB]; omega
theorem num_bl (hd : Digs ds) : yJ (num ds) ≤ 10 * ds.length / 3 + 2 := aZ (agF (dG (afX hd))) (aiK _)
theorem mul_bl (hd : Digs ds) {j : Nat} (h : ds.length + j ≤ 2000) : yJ (num ds * 10 ^ j) ≤ 8192 := by
 have h1 : num ds * 10 ^ j ≤ 10 ^ (ds.length + j) := by rw [bB]; exact aV _ (dG (afX hd))
 have := aZ (agF h1) (aiK _)
 omega
def rK (m : Nat) (b : Nat) : Nat := yJ b + 70 - yJ m
def bjQ (neg : Bool) (ds : List UInt8) (e : Int) : Nat := aaH neg + (if ds = [] ∨ (ds.length : Int) + e < -400 then 0 else if 400 < (ds.length : Int) + e then akT else aiV (num ds) e)
theorem rat_read {m : Nat} {k : Int} (hm : 0 < m) (hk : -2000 ≤ k) (h0 : k < 0) : avK m (10 ^ (-k).toNat) (rK m (10 ^ (-k).toNat)) = aiV m k := by
 unfold aiV
 rw [aN (by omega)]
 have hbl := ahV (-k).toNat
 have ht := acF (-k).toNat
 have hb := adQ hm
 refine (bbZ ht ?_ (by unfold rK; omega) (by omega)).symm
 have h1 := apG hm
 have h2 := afM (10 ^ (-k).toNat)
 have h3 : 2 ^ 65 ≤ m * 2 ^ rK m (10 ^ (-k).toNat) / 10 ^ (-k).toNat := by
  rw [cZ ht]
  refine aZ (bT _ (dG h2)) (aZ ?_ (aV _ h1))
  rw [← bB, ← bB]
  exact aT (by decide) (by unfold rK; omega)
 have := aaX.2 h3
 omega
theorem bgA {r : Nat} : decide ((0 : Int) < ((zK r).length : Int)) = decide (r ≠ 0) := by
 refine bA.2 ⟨fun h q => ?_, fun h => ?_⟩
 ·subst q; rw [show zK 0 = [] by decide +kernel] at h; simp at h
 rw [qV (eI h)]; simp only [bE]; omega

def bjR (ds : List UInt8) (H : Heap) : Nat → Env → Heap → Prop := fun k env H1 => ∃ (i : Nat) (tl : Tail), i ≤ ds.length ∧ env = [(0, .str ds), (3, .slice 1 (U .u32 (zK (num (ds.take i)))) tl), (4, .int .i64 (i : Int))] ∧ H = H1 ∧ k = ds.length - i

theorem ayX (ds : List UInt8) (hd : Digs ds) (hl : ds.length ≤ 1200) (H : Heap) : ACall Tryz.prog 81 [.str ds] H (fun y H' => y = aaT (num ds) ∧ H' = H) := by
 refine ACall.of_body Tryz.func81 rfl Tryz.ntmps81 Tryz.results81 rfl ?_
 refine .sr ?_
 refine .p rfl (zA (qK (sz := 1) (tl := .full))) ?_
 refine .nr (.e rfl (asI U107 Z166 V166 ) (.as rfl rfl (.ng (.seq (.sr (.p rfl (zA (zI 0)) (.ng (.block ?_))))))))
 refine AWP.loopW (bjR ds H) (ds.length) ⟨0, .full, Nat.zero_le _, rfl, rfl, rfl⟩ (zC rfl (zX rfl (adI rfl) (zC rfl zU))) (hRa _) ?_
 rintro _ _ _ ⟨i, tl, hi, rfl, rfl, hk⟩
 have hbl := num_bl (hd.take i)
 have htl : (ds.take i).length ≤ 1200 := by rw [aQ]; omega
 have hl := yU (n := num (ds.take i)) (aeC (by omega))
 refine .seq (.sr (.mv rfl rfl (.mv rfl rfl (.p rfl (yQ U9 (tm rfl)) (.p rfl (yN (tm rfl) (tm rfl)) (.ng ?_))))))
 refine AWP.cond (tm rfl) (fun hc9 => ?_) (fun hc9 => ?_)
 ·try simp only [aM] at hc9
  have hil : i < ds.length := by omega
  have hdi := hd.at hil
  have hdi2 : 48 ≤ (ds.getD ((i : Nat) : Int).toNat 0).toNat ∧ (ds.getD ((i : Nat) : Int).toNat 0).toNat ≤ 57 := hdi
  have hl2 := yU (n := val (zK (num (ds.take i))) * val [10]) (aeC (by have h1 := baS (num (ds.take i)); rw [zT]; show yJ (num (ds.take i) * 10) ≤ _; omega))
  refine .skip ?_
  refine Next.go ?_
  refine .seq (.block ?_)
  refine AWP.draw [(0, true), (1, true), (2, true), (3, true), (4, true), (5, true), (6, true), (7, true), (8, true), (9, true), (10, true)] rfl (by decide +kernel) ?_
  refine .p rfl rfl (zJ (tm rfl)) ?_
  refine APlan.f rfl rfl (fun _ => aaF U107 Z166 V166 rfl (zI 10) (.inl rfl) ⟨rfl, rfl⟩) ?_
  refine APlan.f rfl rfl (fun _ => zF C83 (evs2 rfl rfl) (adO (zK (num (ds.take i))) tl (zP _) (by omega) [10] .full (Limbs.mk (by decide) Limbs.nil) (by decide) _)) ?_
  refine .p rfl rfl (zJ (tm rfl)) (.p rfl rfl (zJ (tm rfl)) (.p rfl rfl (abK U9 (tm rfl) (tm rfl) (by omega) (by omega)) (.p rfl rfl (bfA (tm rfl) (zI 48) (by omega) (by omega)) (.p rfl rfl (qM U5 U166 (tm rfl) (wrapN32 (by omega))) ?_))))
  refine APlan.f rfl rfl (fun _ => aaF U107 Z166 V166 rfl (tm rfl) (.inl rfl) ⟨rfl, rfl⟩) ?_
  refine APlan.f rfl rfl (fun _ => zF Tryz.call149 (evs2 rfl rfl) (ayV (zK (val (zK (num (ds.take i))) * val [10])) .shared (zP _) (by omega) [(ds.getD i 0).toNat - 48] .full (Limbs.mk (by omega) Limbs.nil) (by simp) _)) ?_
  refine .p rfl rfl (zA (tm rfl)) (.nil ?_)
  refine Block.go ?_
  refine Next.go ?_
  refine .region (.mv rfl rfl (.p rfl (yT (tm rfl) (zI 1) (by omega)) (.as rfl rfl (.ng ?_))))
  refine Round.mk (J := bjR ds H) ⟨i + 1, .shared, by omega, rfl, rfl, rfl⟩ (zC rfl (zX rfl (congrArg aaT (show _ = num (ds.take (i + 1)) by rw [zT, zT, num_step hil]; rfl)) (zC rfl zU))) (hRa _) (by omega)
 try simp only [aL, bN] at hc9
 refine .exit ?_
 refine Next.ex ?_
 refine Next.ex ?_
 refine Block.hit ?_
 refine Next.go ?_
 refine .sr (.mv rfl rfl (.as rfl rfl (.ng (.ret ?_))))
 refine Ret.go (.cons (.weak _ _ _ rfl (.slice _ _ _)) .nil) _ (hRa _) ?_
 refine ⟨?_, rfl⟩
 rw [show i = ds.length by omega, dL]; rfl

theorem anE (neg : Bool) (x : Nat) (hx : x < 9223372036854775808) (H : Heap) : ACall Tryz.prog 80 [.bool neg, .int .u64 (x : Int)] H (fun y H' => y = .int .u64 ((aaH neg + x : Nat) : Int) ∧ H' = H) := by
 refine ACall.of_body Tryz.func80 rfl Tryz.ntmps80 Tryz.results80 rfl ?_
 refine .sr (.p rfl (zA (zI 0)) (.ng (.seq (.sr (.mv rfl rfl (.ng ?_))))))
 refine AWP.cond (tm rfl) (fun hc5 => ?_) (fun hc5 => ?_)
 ·try simp only [aK] at hc5
  refine .sr (.mv rfl rfl (.p rfl (yR (tm rfl) (zI 9223372036854775808) (by omega)) (.as rfl rfl (.ng (.ret ?_)))))
  refine Next.rt ?_
  refine Ret.go (.cons (.tmp _ _ rfl) .nil) _ (hRa _) ?_
  refine ⟨?_, rfl⟩
  unfold aaH; rw [aO (by assumption), eL]; rfl
 try simp only [aK] at hc5
 refine .skip ?_
 refine Next.go ?_
 refine .sr (.mv rfl rfl (.as rfl rfl (.ng (.ret ?_))))
 refine Ret.go (.cons (.tmp _ _ rfl) .nil) _ (hRa _) ?_
 refine ⟨?_, rfl⟩
 unfold aaH; rw [aN (by simp_all), bW]; rfl

theorem avO (neg : Bool) (ds : List UInt8) (e : Int) (hr : qE ds e = true) (hl : ds.length ≤ 1000) (H : Heap) : ACall Tryz.prog 29 [dA neg ds e] H (fun y H' => y = .int .u64 ((bjQ neg ds e : Nat) : Int) ∧ H' = H) := by
 have hd := qQ hr
 have hnb := num_bl hd
 have hrl := aaY hr
 refine ACall.of_body Tryz.func29 rfl Tryz.ntmps29 Tryz.results29 rfl ?_
 refine .sr (.e rfl (zZ (tm rfl) (.inr ⟨_, rfl⟩)) (.p rfl (zA (zI 0)) (.nr (.p rfl (zQ G58 Z58 (tm rfl) (lB rfl)) (.cl rfl Tryz.call79 (evs1 rfl) (avN neg ds e (by rw [zW]; omega) _) ?_)))))
 rw [show agZ ds e = (ds.length : Int) + e by unfold agZ; rw [aO hr]]
 refine .as rfl rfl (.ng (.seq (.block ?_)))
 refine AWP.seqTo 11 (.bool (decide (ds = [] ∨ (ds.length : Int) + e < -400))) [1, 2, 3] ?_ ?_
 ·-- region 2
  refine .region (.p rfl (zD U58 rfl Z9 (tm rfl)) (.p rfl (zH G9 (tm rfl)) (.p rfl (yQ U9 (tm rfl)) (.p rfl (zR (tm rfl) zE) (.mv rfl rfl ?_)))))
  refine zL (t := 16) rfl (fun hg16 => ?_) (fun hg16 => ?_)
  ·refine .gn rfl rfl rfl (by assumption) (.gn rfl rfl rfl (by assumption) (.p rfl (zO (tm rfl) (by assumption) zM) (.as rfl rfl (.nil ?_))))
   exact ⟨rfl, zY rfl (by (simp_all; done)) (zC rfl (zC rfl (zC rfl zU))), rfl⟩
  refine .gp rfl rfl rfl (by assumption) (zJ (tm rfl)) (.gp rfl rfl rfl (by assumption) (yN (tm rfl) zE) (.p rfl (zN (tm rfl) (by assumption) (tm rfl)) (.as rfl rfl (.nil ?_))))
  exact ⟨rfl, zY rfl (by (simp_all; done)) (zC rfl (zC rfl (zC rfl zU))), rfl⟩
 refine AWP.sub [(11, _), (1, _), (2, _), (3, _)] (zC rfl (zC rfl (zC rfl (zC rfl zU)))) ?_
 refine AWP.cond (tm rfl) (fun hc11 => ?_) (fun hc11 => ?_)
 ·try simp only [aM] at hc11
  have hc0 : ds = [] ∨ (ds.length : Int) + e < -400 := hc11
  refine .sr (.p rfl (zD U58 rfl Z4 (tm rfl)) (.p rfl (zH G4 (tm rfl)) (.cl rfl Tryz.call80 (.cons (tm rfl) (.cons (zI 0) .nil)) (anE neg 0 (by decide) _) (.as rfl rfl (.ng (.ret ?_))))))
  refine Block.rt ?_
  refine Next.rt ?_
  refine Ret.go (.cons (.tmp _ _ rfl) .nil) _ (hRa _) ?_
  exact ⟨congrArg (fun w : Nat => AV.int .u64 (w : Int)) (show _ = bjQ neg ds e by unfold bjQ; rw [aO hc0]), rfl⟩
 try simp only [aL] at hc11
 have hc0 : ¬ (ds = [] ∨ (ds.length : Int) + e < -400) := hc11
 have hne : ds ≠ [] := fun q => hc0 (.inl q)
 refine .sr (.mv rfl rfl (.p rfl (yC (tm rfl) zE) (.as rfl rfl (.ng ?_))))
 refine AWP.cond (tm rfl) (fun hc23 => ?_) (fun hc23 => ?_)
 ·try simp only [aM] at hc23
  refine .sr (.p rfl (zD U58 rfl Z4 (tm rfl)) (.p rfl (zH G4 (tm rfl)) (.cl rfl Tryz.call80 (.cons (tm rfl) (.cons (zI 9218868437227405312) .nil)) (anE neg 9218868437227405312 (by decide) _) (.as rfl rfl (.ng (.ret ?_))))))
  refine Block.rt ?_
  refine Next.rt ?_
  refine Ret.go (.cons (.tmp _ _ rfl) .nil) _ (hRa _) ?_
  exact ⟨congrArg (fun w : Nat => AV.int .u64 (w : Int)) (show _ = bjQ neg ds e by unfold bjQ; rw [aN hc0, aO (by omega)]; rfl), rfl⟩
 try simp only [aL, bN] at hc23
 have hnl := yU (n := num ds) (aeC (by omega))
 have hn0 : 0 < num ds := bM (acF _) (avB hr hne).1
 refine .skip ?_
 refine Block.go ?_
 refine Next.go ?_
 refine .sr (.p rfl (zD U58 rfl Z9 (tm rfl)) (.p rfl (zH G9 (tm rfl)) (.cl rfl Tryz.call81 (evs1 rfl) (ayX ds hd (by omega) _) (.as rfl rfl (.ng (.seq (.sr (.p rfl (zD U58 rfl Z3 (tm rfl)) ?_))))))))
 refine .p rfl (zH G3 (tm rfl)) (.p rfl (yS (tm rfl) zE) (.ng ?_))
 refine AWP.cond (tm rfl) (fun hc34 => ?_) (fun hc34 => ?_)
 ·try simp only [aM] at hc34
  have hbe := aiK e.toNat
  have htl := yU (n := 10 ^ e.toNat) (aeC (by omega))
  have hml := yU (n := num ds * 10 ^ e.toNat) (aeC (mul_bl hd (by omega)))
  refine .seq ?_
  refine AWP.draw [(0, true), (1, true), (2, true), (3, true), (4, true), (5, false), (6, true), (7, false), (8, true)] rfl (by decide +kernel) ?_
  refine .p rfl rfl (zD U58 rfl Z4 (tm rfl)) (.p rfl rfl (zH G4 (tm rfl)) (.p rfl rfl (zJ (tm rfl)) (.p rfl rfl (zD U58 rfl Z3 (tm rfl)) (.p rfl rfl (zH G3 (tm rfl)) ?_))))
  refine .s rfl rfl (zF Tryz.call84 (evs1 rfl) (aqU e.toNat (by omega) _ (by omega) (aeC (by have := aiK e.toNat; omega)) _)) ?_
  rintro _ _ ⟨rfl, hH⟩
  obtain rfl := hH.symm
  refine APlan.f rfl rfl (fun _ => zF C83 (evs2 rfl rfl) (adO (zK (num ds)) .shared (zP _) (by omega) (zK (10 ^ e.toNat)) .shared (zP _) (by omega) _)) ?_
  refine .s rfl rfl (zF Tryz.call82 (.cons (tm rfl) (.cons (tm rfl) (.cons zE (.cons zM .nil)))) (alL neg (zK (val (zK (num ds)) * val (zK (10 ^ e.toNat)))) .shared (zP _) (by rw [zT, zT]; omega) 0 (by decide) false _)) ?_
  rintro _ _ ⟨rfl, hH⟩
  obtain rfl := hH.symm
  refine .p rfl rfl (zA (tm rfl)) (.nil ?_)
  refine Next.go ?_
  refine .ret ?_
  refine Next.rt ?_
  refine Ret.go (.cons (.tmp _ _ rfl) .nil) _ (hRa _) ?_
  have e1 : yB neg (val (zK (val (zK (num ds)) * val (zK (10 ^ e.toNat))))) 0 false = bjQ neg ds e := by
   unfold bjQ aiV
   rw [aN hc0, aN (by omega), aO (by omega), aqW, zT, zT, zT]
  exact ⟨congrArg (fun w : Nat => AV.int .u64 (w : Int)) e1, rfl⟩
 try simp only [aL, cA] at hc34
 have hbe := aiK (-e).toNat
 have htl := yU (n := 10 ^ (-e).toNat) (aeC (by omega))
 have hbp := acF (-e).toNat
 have hbb := adQ hbp
 have hnp := adQ hn0
 have hk : rK (num ds) (10 ^ (-e).toNat) = yJ (10 ^ (-e).toNat) + 70 - yJ (num ds) := rfl
 have hup : num ds * 2 ^ rK (num ds) (10 ^ (-e).toNat) < BIG := aeC (by rw [bdG hn0]; omega)
 have hul := yU hup
 have hql := yU (n := num ds * 2 ^ rK (num ds) (10 ^ (-e).toNat) / 10 ^ (-e).toNat) (aR (cU _ _) hup)
 refine .skip ?_
 refine Next.go ?_
 refine .sr (.p rfl (zD U58 rfl Z3 (tm rfl)) (.p rfl (zH G3 (tm rfl)) (.p rfl (abR (tm rfl) (by omega)) (.cl rfl Tryz.call84 (evs1 rfl) (aqU (-e).toNat (by omega) _ (by omega) (aeC (by omega)) _) (.as rfl rfl (.nr (.p rfl (zA zE) (.ng ?_))))))))
 refine AWP.seqToL [(6, .int .i64 ((rK (num ds) (10 ^ (-e).toNat) : Nat) : Int))] [1, 2, 4, 5] ?_ ?_
 ·refine .sr (.mv rfl rfl (.cl rfl C85 (evs1 rfl) (afT (zK (10 ^ (-e).toNat)) .shared (zP _) (by omega) _) ?_))
  rw [zT]
  refine .mv rfl rfl (.cl rfl C85 (evs1 rfl) (afT (zK (num ds)) .shared (zP _) (by omega) _) ?_)
  rw [zT]
  refine .p rfl (yG (tm rfl) (tm rfl) (by omega)) (.p rfl (yT (tm rfl) zE (by omega)) (.p rfl (yC (tm rfl) zE) (.ng ?_)))
  refine AWP.cond (tm rfl) (fun hc53 => ?_) (fun hc53 => ?_)
  ·try simp only [aM] at hc53
   refine .region (.mv rfl rfl (.cl rfl C85 (evs1 rfl) (afT (zK (10 ^ (-e).toNat)) .shared (zP _) (by omega) _) ?_))
   rw [zT]
   refine .mv rfl rfl (.cl rfl C85 (evs1 rfl) (afT (zK (num ds)) .shared (zP _) (by omega) _) ?_)
   rw [zT]
   refine .p rfl (yG (tm rfl) (tm rfl) (by omega)) (.p rfl (yT (tm rfl) zE (by omega)) (.as rfl rfl (.nil ?_)))
   exact ⟨rfl, (zX rfl (by (rw [hk]; exact congrArg (AV.int .i64) (by omega))) (zC rfl (zC rfl (zC rfl (zC rfl zU))))), rfl⟩
  try simp only [aL, bN] at hc53
  refine .skip ?_
  exact ⟨rfl, (zX rfl (by (rw [hk]; exact congrArg (AV.int .i64) (by omega))) (zC rfl (zC rfl (zC rfl (zC rfl zU))))), rfl⟩
 refine AWP.sub [(6, _), (1, _), (2, _), (4, _), (5, _)] (zC rfl (zC rfl (zC rfl (zC rfl (zC rfl zU))))) ?_
 refine .sr (.mv rfl rfl (.mv rfl rfl (.cl rfl Tryz.call87 (evs2 rfl rfl) (anT (zK (num ds)) .shared (zP _) (by omega) (rK (num ds) (10 ^ (-e).toNat)) (by omega) _ rfl (by rw [zT]; exact hup) _) ?_)))
 rw [zT]
 refine .mv rfl rfl ?_
 refine .cl rfl Tryz.call86 (evs2 rfl rfl) (alN (zK (num ds * 2 ^ rK (num ds) (10 ^ (-e).toNat))) .shared (zP _) (by omega) (zK (10 ^ (-e).toNat)) .shared (zP _) (by omega) (by rw [zT]; exact hbp) _) ?_
 rw [zT]
 rw [zT]
 refine .mv rfl rfl (.p rfl (zB (tm rfl) rfl) (.p rfl (zB (tm rfl) rfl) (.as rfl rfl (.as rfl rfl (.nr (.p rfl (zD U58 rfl Z4 (tm rfl)) (.p rfl (zH G4 (tm rfl)) (.mv rfl rfl ?_))))))))
 refine .mv rfl rfl (.p rfl (abR (tm rfl) (by omega)) (.mv rfl rfl (.p rfl (abD U107 (tm rfl)) (.p rfl (yC (tm rfl) zE) ?_))))
 refine .cl rfl Tryz.call82 (.cons (tm rfl) (evs3 rfl rfl rfl)) (alL neg (zK (num ds * 2 ^ rK (num ds) (10 ^ (-e).toNat) / (10 ^ (-e).toNat))) .shared (zP _) (by omega) (-((rK (num ds) (10 ^ (-e).toNat) : Nat) : Int)) (by omega) _ _) ?_
 refine .as rfl rfl (.ng (.ret ?_))
 refine Ret.go (.cons (.tmp _ _ rfl) .nil) _ (hRa _) ?_
 have hrr := rat_read (m := num ds) (k := e) hn0 (by omega) (by omega)
 unfold avK at hrr
 have e1 : yB neg (val (zK (num ds * 2 ^ rK (num ds) (10 ^ (-e).toNat) / 10 ^ (-e).toNat))) (-((rK (num ds) (10 ^ (-e).toNat) : Nat) : Int)) (decide ((0 : Int) < ((zK (num ds * 2 ^ rK (num ds) (10 ^ (-e).toNat) % 10 ^ (-e).toNat)).length : Int))) = bjQ neg ds e := by
  unfold bjQ
  rw [aN hc0, aN (by omega), aqW, zT, bgA, hrr]
 exact ⟨congrArg (fun w : Nat => AV.int .u64 (w : Int)) e1, rfl⟩

theorem bjP {neg : Bool} {e : Int} (hr : qE ds e = true) : bjQ neg ds e = acX neg ds e := by
 unfold bjQ acX
 congr 1
 by_cases h0 : ds = []
 ·unfold ahH; rw [aO (.inl h0), aO (.inl h0)]
 by_cases h1 : (ds.length : Int) + e < -400
 ·unfold ahH; rw [aO (.inr h1), aO (.inr (by omega))]
 by_cases h2 : 400 < (ds.length : Int) + e
 ·unfold ahH; rw [aN (by simp [h0, h1]), aO h2, aN (by simp [h0]; omega), aO (by omega)]
 rw [aN (by simp [h0, h1]), aN h2, biV hr h0 ⟨by omega, by omega⟩]

end
end Go.Proofs.YtmmgbnolccpjoaaGreatDoor
