import Derived.Test.YtmmgbnolccpjoaaGreatDoorU2
namespace Go.Proofs.YtmmgbnolccpjoaaGreatDoor
open Go Go.RowKit
section
set_option maxRecDepth 100000

def EntN.zero : EntN := ⟨0, 0, 0, false, false⟩
def afI (l : Loc) (u : List UInt8) : Option (List UInt8 × Bool) :=
 if Lib.hasPrefix u [40] = true then (if Lib.hasSuffix (Lib.trimPrefix u [40]) [41] = true then some (abT yL (Lib.trimSuffix (Lib.trimPrefix u [40]) [41]), true) else none)
 else some (abA yL (acW l u).1.length (acW l u).1, (acW l u).2)
def atS (l : Loc) (v : List UInt8) (neg : Bool) : EntN × Int :=
 match aoI l (acY l v).2.1 with
 | none => (EntN.zero, 3)
 | some (d, e, k, gr, x) =>
  if (mkN neg d (e + (acY l v).2.2)).2 ≠ 0 then (EntN.zero, 2)
  else if yD (acX (mkN neg d (e + (acY l v).2.2)).1.1 (mkN neg d (e + (acY l v).2.2)).1.2.1 (mkN neg d (e + (acY l v).2.2)).1.2.2) = 3 then (EntN.zero, 2)
  else (⟨acX (mkN neg d (e + (acY l v).2.2)).1.1 (mkN neg d (e + (acY l v).2.2)).1.2.1 (mkN neg d (e + (acY l v).2.2)).1.2.2, (acY l v).1, k, gr, x⟩, 0)
def abS (l : Loc) (u : List UInt8) : EntN × Int := match afI l u with | none => (EntN.zero, 3) | some (v, neg) => atS l v neg
theorem awB {l : Loc} {s d : List UInt8} {e : Int} {k : Nat} {gr x : Bool} (h : aoI l s = some (d, e, k, gr, x)) : Digs d ∧ d.length ≤ 2 * s.length ∧ e ≤ 2000000000 ∧ -1000000000 - (s.length : Int) ≤ e := by
 unfold aoI at h
 cases hh : ajX l s with
 | none => rw [hh] at h; cases h
 | some q =>
  obtain ⟨t, n, y⟩ := q
  rw [hh] at h
  simp only at h
  cases hb : alW l t with
  | none => rw [hb] at h; cases h
  | some q =>
   obtain ⟨d2, k2, g2⟩ := q
   rw [hb] at h
   injection h with h
   injection h with h1 h2
   injection h2 with h2 h3
   subst h1; subst h2
   have a := arN hh
   have b := bhI hb
   exact ⟨b.1, by omega, by omega, by omega⟩
theorem amtP_sh (l : Loc) (s : List UInt8) : -2 ≤ (acY l s).2.2 ∧ (acY l s).2.2 ≤ 0 := by
 unfold acY
 repeat' split
 all_goals simp
theorem bdH (neg : Bool) (ds : List UInt8) (e : Int) : acX neg ds e < 18446744073709551616 := by
 have := bbQ ds e
 unfold acX aaH
 split <;> omega

theorem apN (l : Loc) (hk : l.ok) (hg : l.grp ≠ []) (f : Nat → List AV) (hf : ROK f) (s : List UInt8) (hs : s.length ≤ 1000) (b : Nat) (H : Heap) (hb : H.objs b = some (.box 189 (aaP f))) : ACall Tryz.prog 38 [erA l b, .str s] H (fun y H' => y = .tuple [.agg (abS l (abT yL s)).1.cs, .int .i64 (abS l (abT yL s)).2] ∧ ∃ f', ROK f' ∧ H' = H.set b (.box 189 (aaP f'))) := by
 have htl := amV yL s
 refine ACall.of_body Tryz.func38 rfl Tryz.ntmps38 Tryz.results38 rfl ?_
 refine .sr ?_
 refine .al zr76 (fun b4 hb4 => ?_)
 refine .p rfl (zA zE) (.ng (.seq (.sr (.mv rfl rfl (.p rfl (yQ U9 (tm rfl)) (.p rfl (yC (tm rfl) zE) (.ng ?_)))))))
 refine AWP.cond_false (tm rfl) (by exact bG (by omega)) ?_
 refine .skip ?_
 refine Next.go ?_
 refine .sr (.mv rfl rfl (.cl rfl Tryz.call91 (.cons (tm rfl) (.cons (.func _) .nil)) (trimFuncA s _) (.as rfl rfl (.nr (.mv rfl rfl (.cl rfl C93 (.cons (tm rfl) (.cons (zS rfl) .nil)) (cutPrefixA _ _ _) (.mv rfl rfl (.p rfl (zB (tm rfl) rfl) ?_))))))))
 refine .p rfl (zB (tm rfl) rfl) (.as rfl rfl (.as rfl rfl (.ng ?_)))
 refine AWP.meet (fun env H2 => ∃ (v : List UInt8) (neg : Bool), afI l (abT yL s) = some (v, neg) ∧ v.length ≤ 1000 ∧ env = [(0, erA l b), (4, .ptr (some ⟨b4, 0, none⟩)), (5, .int .i64 0), (6, .str v), (7, .bool neg)] ∧ H2 = H.set b4 (.box 76 (EntN.cs EntN.zero))) ?_ ?_
 ·refine .sr (.mv rfl rfl (.ng ?_))
  refine AWP.cond (tm rfl) (fun hc25 => ?_) (fun hc25 => ?_)
  ·try simp only [aK] at hc25
   refine .sr (.p rfl (zA zM) (.ng (.seq (.sr (.mv rfl rfl (.cl rfl Tryz.call94 (.cons (tm rfl) (.cons (zS rfl) .nil)) (cutSuffixA _ _ _) (.mv rfl rfl (.p rfl (zB (tm rfl) rfl) ?_))))))))
   refine .p rfl (zB (tm rfl) rfl) (.as rfl rfl (.as rfl rfl (.nr (.mv rfl rfl (.p rfl (aaB (tm rfl)) (.ng ?_))))))
   refine AWP.cond (tm rfl) (fun hc32 => ?_) (fun hc32 => ?_)
   ·try simp only [cK] at hc32
    have hin : afI l (abT yL s) = none := by unfold afI; rw [aO hc25, aN (by simpa using hc32)]
    refine .sr (.p rfl (yK zr76 pl76 .nil rfl) (.e0 (zG Z76 (tm rfl) (tm rfl) rfl rfl (.inr ⟨_, rfl⟩) (oS _ _ _) (lB rfl)) ?_))
    try first | rw [sS] | rw [sU (by assumption)]
    refine .p rfl (zA zE) (.ng ?_)
    refine AWP.frz (t := 4) rfl hb4 ?_
    refine .ret ?_
    refine Next.rt ?_
    refine Next.rt ?_
    refine Ret.go (.cons (.cellI _ _ _ _ rfl G76 Z76 rfl) (.cons (.tmp _ _ rfl) .nil)) _ (hRa _) ?_
    refine ⟨?_, f, hf, (Heap.set_self hb).symm⟩
    unfold abS
    rw [hin]; rfl
   try simp only [cJ] at hc32
   have hin : afI l (abT yL s) = some (abT yL (Lib.trimSuffix (Lib.trimPrefix (abT yL s) [40]) [41]), true) := by unfold afI; rw [aO hc25, aO (by simpa using hc32)]
   refine .skip ?_
   refine Next.go ?_
   refine .region (.mv rfl rfl (.cl rfl Tryz.call91 (.cons (tm rfl) (.cons (.func _) .nil)) (trimFuncA _ _) (.as rfl rfl (.ng ?_))))
   refine Meets.mk (M := fun env H2 => ∃ (v : List UInt8) (neg : Bool), afI l (abT yL s) = some (v, neg) ∧ v.length ≤ 1000 ∧ env = [(0, erA l b), (4, .ptr (some ⟨b4, 0, none⟩)), (5, .int .i64 0), (6, .str v), (7, .bool neg)] ∧ H2 = H.set b4 (.box 76 (EntN.cs EntN.zero))) ⟨_, true, hin, by have := amV yL (Lib.trimSuffix (Lib.trimPrefix (abT yL s) [40]) [41]); have := adB (Lib.trimPrefix (abT yL s) [40]) [41]; have := aeL (abT yL s) [40]; omega, rfl, rfl⟩ (zC rfl (zC rfl (zC rfl (zC rfl (zX rfl (by (rw [show Lib.hasPrefix (abT yL s) [40] = true from hc25])) zU))))) (hRa _)
  try simp only [aK] at hc25
  have hin : afI l (abT yL s) = some (abA yL (acW l (abT yL s)).1.length (acW l (abT yL s)).1, (acW l (abT yL s)).2) := by unfold afI; rw [aN (by simp [hc25])]
  refine .sr (.mv rfl rfl (.mv rfl rfl (.cl rfl Tryz.call95 (evs2 rfl rfl) (aqN l b _ _) (.mv rfl rfl (.p rfl (zB (tm rfl) rfl) (.p rfl (zB (tm rfl) rfl) (.as rfl rfl (.as rfl rfl ?_))))))))
  refine .ng (.region (.mv rfl rfl (.cl rfl C96 (.cons (tm rfl) (.cons (.func _) .nil)) (trimLeftFuncA _ _) (.as rfl rfl (.ng ?_)))))
  refine Meets.mk (M := fun env H2 => ∃ (v : List UInt8) (neg : Bool), afI l (abT yL s) = some (v, neg) ∧ v.length ≤ 1000 ∧ env = [(0, erA l b), (4, .ptr (some ⟨b4, 0, none⟩)), (5, .int .i64 0), (6, .str v), (7, .bool neg)] ∧ H2 = H.set b4 (.box 76 (EntN.cs EntN.zero))) ⟨_, _, hin, by have := adM yL (acW l (abT yL s)).1.length (acW l (abT yL s)).1; have := auX l (abT yL s); omega, rfl, rfl⟩ (zC rfl (zC rfl (zC rfl (zC rfl (zX rfl (by rfl) zU))))) (hRa _)
 rintro _ _ ⟨v, neg, hin, hvl, rfl, rfl⟩
 have hh4 := hb4
 refine .sr ?_
 refine .al zr76 (fun b9 hb9 => ?_)
 have hn4_9 := Heap.ne_of (oS _ _ _) hb9
 refine .ng (.seq ?_)
 have h4b : b4 ≠ b := by intro q; rw [← q, hb4] at hb; cases hb
 have hb90 : H.objs b9 = none := by have q := hb9; rw [oN _ _ hn4_9.symm] at q; exact q
 have h9b : b9 ≠ b := by intro q; rw [← q, hb90] at hb; cases hb
 have hal := amtP_len l v
 have hsh := amtP_sh l v
 refine .region (.mv rfl rfl (.mv rfl rfl (.s rfl (zF Tryz.call97 (evs3 rfl rfl rfl) (axG l hk hg b v hvl EntN.zero ⟨rfl, rfl⟩ rfl b9 _ (oS _ _ _))) ?_)))
 rintro _ _ ⟨p, o1, rfl, rfl, hp⟩
 rw [sS]
 refine .mv rfl rfl (.p rfl (zB (tm rfl) rfl) (.p rfl (zB (tm rfl) rfl) ?_))
 refine .al zr130 (fun b10 hb10 => ?_)
 have hn4_10 := Heap.ne_of (oS _ _ _) hb10
 have hn9_10 := Heap.ne_of (oS _ _ _) hb10
 refine .e0 (zG Z130 (tm rfl) (tm rfl) rfl rfl (.inr ⟨_, rfl⟩) (oS _ _ _) (lB rfl)) ?_
 try first | rw [sS] | rw [sU (by assumption)]
 refine .as rfl rfl (.ng ?_)
 refine AWP.frz (t := 10) rfl (hb10) ?_
 refine .seq (.sr (.mv rfl rfl (.p rfl (aaB (tm rfl)) (.ng ?_))))
 refine AWP.cond (tm rfl) (fun hc51 => ?_) (fun hc51 => ?_)
 ·try simp only [cK] at hc51
  have hnn : aoI l (acY l v).2.1 = none := by simpa using hc51
  refine .sr (.p rfl (yK zr76 pl76 .nil rfl) (.e0 (zG Z76 (tm rfl) (tm rfl) rfl rfl (.inr ⟨_, rfl⟩) ((oN _ _ (by assumption)).trans (oS _ _ _)) (lB rfl)) ?_))
  try first | rw [sS] | rw [sU (by assumption)]
  refine .p rfl (zA zE) (.ng ?_)
  refine AWP.dropb (fS hb9 _) ?_
  refine AWP.frz (t := 4) rfl hb4 ?_
  refine .ret ?_
  refine Next.rt ?_
  refine Ret.go (.cons (.cellI _ _ _ _ rfl G76 Z76 rfl) (.cons (.tmp _ _ rfl) .nil)) _ (hRa _) ?_
  refine ⟨?_, f, hf, (Heap.set_self hb).symm⟩
  unfold abS
  rw [hin]
  show _ = AV.tuple [.agg (atS l v neg).1.cs, .int .i64 (atS l v neg).2]
  have hfp : atS l v neg = (EntN.zero, 3) := by
   unfold atS
   rw [hnn]
  rw [hfp]; rfl
 try simp only [cJ] at hc51
 obtain ⟨⟨d, e, k, gr, x⟩, hnn⟩ := Option.isSome_iff_exists.1 (show (aoI l (acY l v).2.1).isSome = true by simpa using hc51)
 obtain ⟨rfl, rfl⟩ := hp _ hnn
 obtain ⟨hdd, hdl, he2, he3⟩ := awB hnn
 refine .skip ?_
 refine Next.go ?_
 refine .sr (.mv rfl rfl (.p rfl (zD U130 rfl Z9 (tm rfl)) (.p rfl (zH G9 (tm rfl)) (.p rfl (zD U130 rfl Z3 (tm rfl)) (.p rfl (zH G3 (tm rfl)) (.cl rfl Tryz.call98 (evs3 rfl rfl rfl) (akZ neg d (e + (acY l v).2.2) hdd (by omega) (by constructor <;> omega) _) (.mv rfl rfl (.p rfl (zB (tm rfl) rfl) ?_))))))))
 refine .p rfl (zB (tm rfl) rfl) ?_
 refine .al zr58 (fun b12 hb12 => ?_)
 have hn4_12 := Heap.ne_of (oS _ _ _) hb12
 have hn9_12 := Heap.ne_of (oS _ _ _) hb12
 refine .e0 (zG Z58 (tm rfl) (tm rfl) rfl rfl (.inr ⟨_, rfl⟩) (oS _ _ _) (lB rfl)) ?_
 try first | rw [sS] | rw [sU (by assumption)]
 refine .as rfl rfl (.ng ?_)
 refine AWP.frz (t := 12) rfl (hb12) ?_
 refine .seq (.sr (.mv rfl rfl (.p rfl (qA (tm rfl) zE) (.ng ?_))))
 refine AWP.cond (tm rfl) (fun hc63 => ?_) (fun hc63 => ?_)
 ·try simp only [aM, ne_eq] at hc63
  have hm0 : (mkN neg d (e + (acY l v).2.2)).2 ≠ 0 := by simpa using hc63
  refine .sr (.p rfl (yK zr76 pl76 .nil rfl) (.e0 (zG Z76 (tm rfl) (tm rfl) rfl rfl (.inr ⟨_, rfl⟩) ((oN _ _ (by assumption)).trans (oS _ _ _)) (lB rfl)) ?_))
  try first | rw [sS] | rw [sU (by assumption)]
  refine .p rfl (zA zE) (.ng ?_)
  refine AWP.dropb (fS hb9 _) ?_
  refine AWP.frz (t := 4) rfl hb4 ?_
  refine .ret ?_
  refine Next.rt ?_
  refine Ret.go (.cons (.cellI _ _ _ _ rfl G76 Z76 rfl) (.cons (.tmp _ _ rfl) .nil)) _ (hRa _) ?_
  refine ⟨?_, f, hf, (Heap.set_self hb).symm⟩
  unfold abS
  rw [hin]
  show _ = AV.tuple [.agg (atS l v neg).1.cs, .int .i64 (atS l v neg).2]
  have hfp : atS l v neg = (EntN.zero, 2) := by
   unfold atS
   rw [hnn]
   simp only
   rw [aO hm0]
  rw [hfp]; rfl
 try simp only [aL, ne_eq, cG] at hc63
 have hm0 : ¬ (mkN neg d (e + (acY l v).2.2)).2 ≠ 0 := by simpa using hc63
 refine .skip ?_
 refine Next.go ?_
 refine .seq (.seq ?_)
 refine AWP.draw [(0, true), (1, true), (2, true), (3, true), (4, true), (5, false), (6, true), (7, true), (8, true), (9, true), (10, false)] rfl (by decide +kernel) ?_
 refine .p rfl rfl (zJ (tm rfl)) (.p rfl rfl (yZ (tm rfl)) (.p rfl rfl (zD U123 rfl Tryz.sizeOf120 (tm rfl)) (.p rfl rfl (zH Tryz.isAgg120 (tm rfl)) (.p rfl rfl (zQ G58 Z58 (tm rfl) (lB rfl)) ?_))))
 refine .s rfl rfl (zF Tryz.call99 (evs2 rfl rfl) (ayY f hf (mkN neg d (e + (acY l v).2.2)).1.1 (mkN neg d (e + (acY l v).2.2)).1.2.1 (mkN neg d (e + (acY l v).2.2)).1.2.2 (amE hdd) b _ ((oN _ _ h9b.symm).trans ((oN _ _ h4b.symm).trans hb)))) ?_
 rintro _ _ ⟨rfl, f1, hf1, rfl⟩
 rw [Heap.set_comm h9b, Heap.set_comm h4b]
 refine .p rfl rfl (zJ (tm rfl)) (.p rfl rfl (zB (tm rfl) rfl) (.p rfl rfl (zB (tm rfl) rfl) (.p rfl rfl (zV U76 rfl Z22 (tm rfl)) (.s0 rfl (zG Z22 (tm rfl) (tm rfl) rfl rfl (.inl rfl) (oS _ _ _) (lB rfl)) ?_))))
 rintro _ _ ⟨rfl, hH⟩
 obtain rfl := hH.symm
 try first | rw [sS] | rw [sU (by assumption)]
 refine .nil ?_
 refine Next.go ?_
 refine .sr (.p rfl (zV U76 rfl Z22 (tm rfl)) (.e rfl (yE G22 (tm rfl) (oS _ _ _) rfl) (.cl rfl C89 (evs1 rfl) (aaE (acX (mkN neg d (e + (acY l v).2.2)).1.1 (mkN neg d (e + (acY l v).2.2)).1.2.1 (mkN neg d (e + (acY l v).2.2)).1.2.2) (bdH _ _ _) _) (.p rfl (zR (tm rfl) zE) (.ng ?_)))))
 refine AWP.cond (tm rfl) (fun hc78 => ?_) (fun hc78 => ?_)
 ·try simp only [aM] at hc78
  have hk3 : yD (acX (mkN neg d (e + (acY l v).2.2)).1.1 (mkN neg d (e + (acY l v).2.2)).1.2.1 (mkN neg d (e + (acY l v).2.2)).1.2.2) = 3 := by omega
  refine .sr (.p rfl (yK zr76 pl76 .nil rfl) (.e0 (zG Z76 (tm rfl) (tm rfl) rfl rfl (.inr ⟨_, rfl⟩) ((oN _ _ (by assumption)).trans (oS _ _ _)) (lB rfl)) ?_))
  try first | rw [sS] | rw [sU (by assumption)]
  refine .p rfl (zA zE) (.ng ?_)
  refine AWP.dropb ((oN _ _ hn4_9.symm).trans ((oN _ _ h9b).trans hb90)) ?_
  refine AWP.frz (t := 4) rfl ((oN _ _ h4b).trans hb4) ?_
  refine .ret ?_
  refine Next.rt ?_
  refine Ret.go (.cons (.cellI _ _ _ _ rfl G76 Z76 rfl) (.cons (.tmp _ _ rfl) .nil)) _ (hRa _) ?_
  refine ⟨?_, f1, hf1, rfl⟩
  unfold abS
  rw [hin]
  show _ = AV.tuple [.agg (atS l v neg).1.cs, .int .i64 (atS l v neg).2]
  have hfp : atS l v neg = (EntN.zero, 2) := by
   unfold atS
   rw [hnn]
   simp only
   rw [aN hm0, aO hk3]
  rw [hfp]; rfl
 try simp only [aL] at hc78
 have hk3 : ¬ yD (acX (mkN neg d (e + (acY l v).2.2)).1.1 (mkN neg d (e + (acY l v).2.2)).1.2.1 (mkN neg d (e + (acY l v).2.2)).1.2.2) = 3 := by omega
 refine .skip ?_
 refine Next.go ?_
 refine .sr (.e rfl (yW G76 Z76 (tm rfl) (oS _ _ _) (lB rfl)) (.e0 (zG Z76 (tm rfl) (tm rfl) rfl rfl (.inr ⟨_, rfl⟩) ((oN _ _ (by assumption)).trans (oS _ _ _)) (lB rfl)) ?_))
 try first | rw [sS] | rw [sU (by assumption)]
 refine .p rfl (zA zE) (.ng ?_)
 refine AWP.dropb ((oN _ _ hn4_9.symm).trans ((oN _ _ h9b).trans hb90)) ?_
 refine AWP.frz (t := 4) rfl ((oN _ _ h4b).trans hb4) ?_
 refine .ret ?_
 refine Ret.go (.cons (.cellI _ _ _ _ rfl G76 Z76 rfl) (.cons (.tmp _ _ rfl) .nil)) _ (hRa _) ?_
 refine ⟨?_, f1, hf1, rfl⟩
 unfold abS
 rw [hin]
 show _ = AV.tuple [.agg (atS l v neg).1.cs, .int .i64 (atS l v neg).2]
 have hfp : atS l v neg = (⟨(acX (mkN neg d (e + (acY l v).2.2)).1.1 (mkN neg d (e + (acY l v).2.2)).1.2.1 (mkN neg d (e + (acY l v).2.2)).1.2.2), (acY l v).1, k, gr, x⟩, 0) := by
  unfold atS
  rw [hnn]
  simp only
  rw [aN hm0, aN hk3]
 rw [hfp]; rfl

end
theorem bgC {x : Nat} (h : x < akT) : yD x ≤ 2 := by
 unfold akT at h
 unfold yD
 repeat' split
 all_goals omega
theorem blL {x : Nat} (neg : Bool) (h : x ≤ akT) : yD (aaH neg + x) ≤ 3 := by
 unfold akT at h
 unfold yD aaH
 repeat' split
 all_goals omega
theorem biL : ∀ i : Fin 23, yD (tenB i.1) ≤ 2 := by decide +kernel
theorem bcL {p q : Nat} (hp : p ≤ 2) (hq : q ≤ 2) : bfT (aiJ p) (aiJ q) ≠ 1 ∧ bfT (aiJ p) (aiJ q) ≠ 5 := by
 rcases (by omega : p = 0 ∨ p = 1 ∨ p = 2) with rfl | rfl | rfl <;> rcases (by omega : q = 0 ∨ q = 1 ∨ q = 2) with rfl | rfl | rfl <;> decide
theorem fmul_fin {a b : Nat} (ha : a < 9223372036854775808) (hb : b < 9223372036854775808) (hka : yD a ≤ 2) (hkb : yD b ≤ 2) : aeA a b ≤ akT := by
 have hn : ajS a b = false := by
  unfold ajS
  refine bG ?_
  rw [bX (show a < 2 ^ 63 from ha), bX (show b < 2 ^ 63 from hb)]
  simp
 unfold aeA
 rw [aN (bcL hka hkb).1, aN (bcL hka hkb).2, hn]
 exact acL _ _ _
theorem blX {m : Nat} (hm : m < 10 ^ 15) : yD (yB false m 0 false) ≤ 2 := by
 refine bgC ?_
 rcases aY m with h | h
 ·subst h; decide +kernel
 have h1 := afS (n1 := m) (n2 := 10 ^ 15) (e := 0) (m1 := false) (m2 := false) (by decide) (by decide) h (.inl hm)
 have h2 : yB false (10 ^ 15) 0 false < akT := by decide +kernel
 exact aR h1 h2
theorem auW {ds : List UInt8} (hd : Digs ds) (e : Int) : ahH ds e ≤ akT := by
 have hs : amZ (num ds) e ≤ akT := by
  unfold amZ avK
  split <;> exact acL _ _ _
 unfold ahH
 split
 ·exact Nat.zero_le _
 split
 ·exact aX _
 split
 ·split
  ·rename_i h
   have hm : num ds < 10 ^ 15 := bM (afX hd) (aT (by decide) h.1)
   exact fmul_fin (aR (acL _ _ _) (by decide)) (axZ _) (blX hm) (biL ⟨e.toNat, by omega⟩)
  split
  ·exact acL _ _ _
  exact hs
 exact hs
theorem bnD (l : Loc) (s : List UInt8) : 0 ≤ (acY l s).1 ∧ (acY l s).1 ≤ 2 := by
 unfold acY
 repeat' split
 all_goals simp
theorem bgT (l : Loc) (u : List UInt8) : ((abS l u).2 ≠ 0 → (abS l u).1 = EntN.zero) ∧ ((abS l u).2 = 0 → yD (abS l u).1.bits ≤ 2 ∧ (abS l u).1.bits < 18446744073709551616 ∧ 0 ≤ (abS l u).1.places ∧ 0 ≤ (abS l u).1.kind ∧ (abS l u).1.kind ≤ 2) := by
 unfold abS
 cases hi : afI l u with
 | none => exact ⟨fun _ => rfl, fun h => by cases h⟩
 | some q =>
  obtain ⟨v, neg⟩ := q
  simp only
  unfold atS
  cases hn : aoI l (acY l v).2.1 with
  | none => exact ⟨fun _ => rfl, fun h => by cases h⟩
  | some r =>
   obtain ⟨d, e, k, gr, x⟩ := r
   simp only
   split
   ·exact ⟨fun _ => rfl, fun h => by cases h⟩
   split
   ·exact ⟨fun _ => rfl, fun h => by cases h⟩
   rename_i hk
   have hd := (awB hn).1
   have hr := qQ (amE (neg := neg) (e := e + (acY l v).2.2) hd)
   have h3 := blL (mkN neg d (e + (acY l v).2.2)).1.1 (auW hr (mkN neg d (e + (acY l v).2.2)).1.2.2)
   have ha := bnD l v
   refine ⟨fun h => absurd rfl h, fun _ => ⟨?_, bdH _ _ _, cF k, ha.1, ha.2⟩⟩
   show yD (acX _ _ _) ≤ 2
   unfold acX at hk ⊢
   omega
theorem aaJ : ∀ l ∈ locs, l.grp ≠ [] := by
 intro l hl
 simp only [locs, cQ, fL, or_false] at hl
 rcases hl with rfl | rfl | rfl | rfl | rfl | rfl <;> simp
end Go.Proofs.YtmmgbnolccpjoaaGreatDoor
