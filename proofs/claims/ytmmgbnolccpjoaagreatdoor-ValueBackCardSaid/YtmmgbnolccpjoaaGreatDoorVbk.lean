import Derived.Test.YtmmgbnolccpjoaaGreatDoorV4
namespace Go.Proofs.YtmmgbnolccpjoaaGreatDoor
open Go Go.RowKit
set_option maxRecDepth 100000

theorem zr74 : ZR 74 [.str [], .str [], .str [], .str [], .str [], .str [], .str [], .bool false, .bool false, .slice 1 [] .full, .ptr none] := ZRi Tryz.zeroValue74 rfl fun g => by repeat first | exact .nil | refine .cons (.bool _) ?_ | refine .cons (.ptr _) ?_ | refine .cons (.str [] (Nat.zero_le _)) ?_ | refine .cons (.nilSlice _ _) ?_
theorem pl74 : PL 74 [(0, 10), (10, 1)] := PLi U74 (by repeat first | exact True.intro | refine ⟨rfl, szo, ?_⟩ | refine ⟨rfl, Tryz.sizeOf71, ?_⟩)

def opA (l : Loc) (b : Nat) : AV := .iptr ((pL l (szA l)).cells ++ [erA l b])

theorem aqE (l : Loc) (H : Heap) : ACall Tryz.prog 11 [pL l (szA l)] H (fun y H' => ∃ b, H.objs b = none ∧ y = opA l b ∧ H' = H.set b (.box 189 (aaP arO))) := by
 refine ACall.of_body Tryz.func11 rfl Tryz.ntmps11 Tryz.results11 rfl ?_
 refine .sr (.e rfl (zZ (tm rfl) (.inr ⟨_, rfl⟩)) (.p rfl (zA ajY) (.ng (.seq ?_))))
 refine AWP.draw [(0, true), (1, true), (2, false), (3, true), (4, true), (5, true)] rfl (by decide +kernel) ?_
 refine .p rfl rfl (zQ G29 Z29 (tm rfl) (lB rfl)) (.p rfl rfl (zQ G29 Z29 (tm rfl) (lB rfl)) (.s rfl rfl (zF Tryz.call37 (evs1 rfl) (bgU l _)) ?_))
 rintro _ _ ⟨b, hb0, rfl, rfl⟩
 refine .p rfl rfl (yK zr74 pl74 (.cons (tm rfl) (.inr ⟨_, rfl⟩) (.cons (tm rfl) (.inl rfl) .nil)) rfl) ?_
 refine APlan.f rfl rfl (fun _ => zZ (tm rfl) (.inr ⟨_, rfl⟩)) ?_
 refine .p rfl rfl (zA (tm rfl)) (.nil ?_)
 refine Next.go ?_
 refine .ret ?_
 refine Ret.go (.cons (.tmp _ _ rfl) .nil) _ (hRa _) ?_
 exact ⟨b, hb0, rfl, rfl⟩

theorem aaK (l : Loc) (hk : l.ok) (hg : l.grp ≠ []) (v : Val) (hv : v.bits < 18446744073709551616) (ht : v.text.length ≤ 1000) (f : Nat → List AV) (hf : ROK f) (b : Nat) (H : Heap) (hb : H.objs b = some (.box 189 (aaP f))) : ACall Tryz.prog 12 [opA l b, v.av] H (fun y H' => y = .tuple [.int .u64 (((abB l v).1 : Nat) : Int), .int .i64 (abB l v).2] ∧ ∃ f', ROK f' ∧ H' = H.set b (.box 189 (aaP f'))) := by
 refine ACall.of_body Tryz.func12 rfl Tryz.ntmps12 Tryz.results12 rfl ?_
 refine .sr (.e rfl (zZ (tm rfl) (.inr ⟨_, rfl⟩)) (.p rfl (zA zE) (.p rfl (zA zE) (.ng (.seq (.sr (.p rfl (zD U24 rfl Z3 (tm rfl)) (.p rfl (zH G3 (tm rfl)) ?_))))))))
 refine .ng (.block (.sr (.p rfl (zR (tm rfl) zE) (.as rfl rfl (.ng ?_)))))
 refine AWP.cond (tm rfl) (fun hc10 => ?_) (fun hc10 => ?_)
 ·try simp only [aM] at hc10
  refine .sr (.p rfl (zD U24 rfl Z22 (tm rfl)) (.p rfl (zH G22 (tm rfl)) (.as rfl rfl (.p rfl (zA zE) (.ng (.ret ?_))))))
  refine Block.rt ?_
  refine Next.rt ?_
  refine Ret.go (.cons (.tmp _ _ rfl) (.cons (.tmp _ _ rfl) .nil)) _ (hRa _) ?_
  refine ⟨?_, f, hf, (Heap.set_self hb).symm⟩
  unfold abB
  rw [aO (by omega)]; rfl
 try simp only [aL] at hc10
 refine .sr (.p rfl (zR (tm rfl) zE) (.as rfl rfl (.ng ?_)))
 refine AWP.cond (tm rfl) (fun hc14 => ?_) (fun hc14 => ?_)
 ·try simp only [aM] at hc14
  refine .sr (.p rfl (zD U24 rfl Z4 (tm rfl)) (.p rfl (zH G4 (tm rfl)) (.ng ?_)))
  refine AWP.cond (tm rfl) (fun hc17 => ?_) (fun hc17 => ?_)
  ·try simp only [aK] at hc17
   refine .sr (.p rfl (zA zE) (.p rfl (zA zE) (.ng (.ret ?_))))
   refine Block.rt ?_
   refine Next.rt ?_
   refine Ret.go (.cons (.tmp _ _ rfl) (.cons (.tmp _ _ rfl) .nil)) _ (hRa _) ?_
   refine ⟨?_, f, hf, (Heap.set_self hb).symm⟩
   unfold abB
   rw [aN (by omega), aO ⟨by omega, hc17⟩]; rfl
  try simp only [aK] at hc17
  refine .skip ?_
  refine Block.go ?_
  refine Next.go ?_
  refine .seq ?_
  refine AWP.draw [(0, true), (1, true), (2, true), (3, true)] rfl (by decide +kernel) ?_
  refine .p rfl rfl (zD U24 rfl Z3 (tm rfl)) (.p rfl rfl (zH G3 (tm rfl)) (.p rfl rfl (zA zE) (.p rfl rfl (zA (tm rfl)) (.nil ?_))))
  refine Next.go ?_
  refine .ret ?_
  refine Ret.go (.cons (.tmp _ _ rfl) (.cons (.tmp _ _ rfl) .nil)) _ (hRa _) ?_
  refine ⟨?_, f, hf, (Heap.set_self hb).symm⟩
  unfold abB
  rw [aN (by omega), aN (fun q => by rw [hc17] at q; exact absurd q.2 (by decide)), aN (by omega)]
  rfl
 try simp only [aL] at hc14
 refine .sr (.p rfl (zR (tm rfl) zE) (.as rfl rfl (.ng ?_)))
 refine AWP.cond (tm rfl) (fun hc18 => ?_) (fun hc18 => ?_)
 ·try simp only [aM] at hc18
  refine .seq ?_
  refine AWP.drawT (.op 0 true (.op 1 true (.op 2 true (.op 3 true (.op 4 true (.op 5 true (.two 6 (.op 7 true (.op 8 true (.op 9 true (.op 10 false (.op 11 false (.op 12 true .done)))))) 10 (.op 6 false (.op 7 true (.op 8 true (.op 9 true (.op 11 false (.op 12 true .done))))))))))))) rfl (by decide +kernel) ?_
  refine ATree.p rfl rfl (zJ (tm rfl)) ?_
  refine ATree.p rfl rfl (yZ (tm rfl)) ?_
  refine ATree.p rfl rfl (zD U74 rfl Tryz.sizeOf71 (tm rfl)) ?_
  refine ATree.p rfl rfl (zH Tryz.isAgg71 (tm rfl)) ?_
  refine ATree.p rfl rfl (zD U24 rfl Z9 (tm rfl)) ?_
  refine ATree.p rfl rfl (zH G9 (tm rfl)) ?_
  refine ⟨?_, ?_⟩
  ·refine XTree.s rfl rfl (zF Tryz.call38 (evs2 rfl rfl) (apN l hk hg f hf v.text ht b _ (hb))) ?_
   rintro _ _ ⟨rfl, f1, hf1, rfl⟩
   skip
   refine ATree.p rfl rfl (zJ (tm rfl)) ?_
   refine ATree.p rfl rfl (zB (tm rfl) rfl) ?_
   refine ATree.p rfl rfl (zB (tm rfl) rfl) ?_
   refine ATree.s rfl rfl (agJ zr76) ?_
   rintro _ _ ⟨b6, hb6, rfl, hH⟩
   obtain rfl := hH.symm
   refine ATree.s0 rfl (zG Z76 (tm rfl) (tm rfl) rfl rfl (.inr ⟨_, rfl⟩) (oS _ _ _) (lB rfl)) ?_
   rintro _ _ ⟨rfl, hH⟩
   obtain rfl := hH.symm
   try first | rw [sS] | rw [sU (by assumption)]
   refine ATree.p rfl rfl (zA (tm rfl)) ?_
   refine ATree.nil ?_
   refine Next.go ?_
   refine AWP.frz (t := 6) rfl (hb6) ?_
   refine .seq (.sr (.mv rfl rfl (.p rfl (qA (tm rfl) zE) (.ng ?_))))
   refine AWP.cond (tm rfl) (fun hc31 => ?_) (fun hc31 => ?_)
   ·try simp only [aM, ne_eq] at hc31
    refine .sr (.p rfl (zA zE) (.p rfl (zA zE) (.ng (.ret ?_))))
    refine Next.rt ?_
    refine Block.rt ?_
    refine Next.rt ?_
    refine Ret.go (.cons (.tmp _ _ rfl) (.cons (.tmp _ _ rfl) .nil)) _ (hRa _) ?_
    refine ⟨?_, f1, hf1, rfl⟩
    unfold abB
    rw [aN (by omega), aN (by omega), aO (by omega), aO (by omega)]
    rfl
   try simp only [aL, ne_eq, cG] at hc31
   refine .skip ?_
   refine Next.go ?_
   refine .sr (.p rfl (zD U76 rfl Z22 (tm rfl)) (.p rfl (zH G22 (tm rfl)) (.as rfl rfl (.p rfl (zA zE) (.ng (.ret ?_))))))
   refine Block.rt ?_
   refine Next.rt ?_
   refine Ret.go (.cons (.tmp _ _ rfl) (.cons (.tmp _ _ rfl) .nil)) _ (hRa _) ?_
   refine ⟨?_, f1, hf1, rfl⟩
   unfold abB
   rw [aN (by omega), aN (by omega), aO (by omega), aN (by omega)]
   rfl
  refine XTree.s rfl rfl (agJ zr76) ?_
  rintro _ _ ⟨b6, hb6, rfl, hH⟩
  obtain rfl := hH.symm
  refine ATree.s rfl rfl (zF Tryz.call38 (evs2 rfl rfl) (apN l hk hg f hf v.text ht b _ (by exact (oN _ _ (show b ≠ b6 by rintro rfl; rw [hb6] at hb; cases hb)).trans hb))) ?_
  rintro _ _ ⟨rfl, f1, hf1, rfl⟩
  have hn6 : b6 ≠ b := (by rintro rfl; rw [hb6] at hb; cases hb)
  rw [Heap.set_comm hn6]
  replace hb6 : (H.set b (.box 189 (aaP f1))).objs b6 = none := (oN _ _ hn6).trans hb6
  refine ATree.p rfl rfl (zJ (tm rfl)) ?_
  refine ATree.p rfl rfl (zB (tm rfl) rfl) ?_
  refine ATree.p rfl rfl (zB (tm rfl) rfl) ?_
  refine ATree.s0 rfl (zG Z76 (tm rfl) (tm rfl) rfl rfl (.inr ⟨_, rfl⟩) (oS _ _ _) (lB rfl)) ?_
  rintro _ _ ⟨rfl, hH⟩
  obtain rfl := hH.symm
  try first | rw [sS] | rw [sU (by assumption)]
  refine ATree.p rfl rfl (zA (tm rfl)) ?_
  refine ATree.nil ?_
  refine Next.go ?_
  refine AWP.frz (t := 6) rfl (hb6) ?_
  refine .seq (.sr (.mv rfl rfl (.p rfl (qA (tm rfl) zE) (.ng ?_))))
  refine AWP.cond (tm rfl) (fun hc31 => ?_) (fun hc31 => ?_)
  ·try simp only [aM, ne_eq] at hc31
   refine .sr (.p rfl (zA zE) (.p rfl (zA zE) (.ng (.ret ?_))))
   refine Next.rt ?_
   refine Block.rt ?_
   refine Next.rt ?_
   refine Ret.go (.cons (.tmp _ _ rfl) (.cons (.tmp _ _ rfl) .nil)) _ (hRa _) ?_
   refine ⟨?_, f1, hf1, rfl⟩
   unfold abB
   rw [aN (by omega), aN (by omega), aO (by omega), aO (by omega)]
   rfl
  try simp only [aL, ne_eq, cG] at hc31
  refine .skip ?_
  refine Next.go ?_
  refine .sr (.p rfl (zD U76 rfl Z22 (tm rfl)) (.p rfl (zH G22 (tm rfl)) (.as rfl rfl (.p rfl (zA zE) (.ng (.ret ?_))))))
  refine Block.rt ?_
  refine Next.rt ?_
  refine Ret.go (.cons (.tmp _ _ rfl) (.cons (.tmp _ _ rfl) .nil)) _ (hRa _) ?_
  refine ⟨?_, f1, hf1, rfl⟩
  unfold abB
  rw [aN (by omega), aN (by omega), aO (by omega), aN (by omega)]
  rfl
 try simp only [aL] at hc18
 refine .skip ?_
 refine Block.go ?_
 refine Next.go ?_
 refine .seq ?_
 refine AWP.draw [(0, true), (1, true), (2, true), (3, true)] rfl (by decide +kernel) ?_
 refine .p rfl rfl (zD U24 rfl Z3 (tm rfl)) (.p rfl rfl (zH G3 (tm rfl)) (.p rfl rfl (zA zE) (.p rfl rfl (zA (tm rfl)) (.nil ?_))))
 refine Next.go ?_
 refine .ret ?_
 refine Ret.go (.cons (.tmp _ _ rfl) (.cons (.tmp _ _ rfl) .nil)) _ (hRa _) ?_
 refine ⟨?_, f, hf, (Heap.set_self hb).symm⟩
 unfold abB
 rw [aN (by omega), aN (fun q => by omega), aN (by omega)]
 rfl

theorem ahU (p : AV) (v : Val) (hv : v.bits < 18446744073709551616) (ht : v.text.length ≤ 1000) (H : Heap) : ACall Tryz.prog 14 [p, v.av] H (fun y H' => y = .tuple [.bool (aeM v).1, .int .i64 (aeM v).2] ∧ H' = H) := by
 refine ACall.of_body Tryz.func14 rfl Tryz.ntmps14 Tryz.results14 rfl ?_
 refine .sr (.e rfl (zZ (tm rfl) (.inr ⟨_, rfl⟩)) (.p rfl (zA zM) (.p rfl (zA zE) (.ng (.seq (.sr (.p rfl (zD U24 rfl Z3 (tm rfl)) (.p rfl (zH G3 (tm rfl)) ?_))))))))
 refine .ng (.block (.sr (.p rfl (zR (tm rfl) zE) (.as rfl rfl (.ng ?_)))))
 refine AWP.cond (tm rfl) (fun hc8 => ?_) (fun hc8 => ?_)
 ·try simp only [aM] at hc8
  refine .sr (.p rfl (zD U24 rfl Z22 (tm rfl)) (.p rfl (zH G22 (tm rfl)) (.cl rfl C40 (evs1 rfl) (agT _ (by assumption) _) (.p rfl (qA (tm rfl) zE) (.as rfl rfl (.p rfl (zA zE) (.ng (.ret ?_))))))))
  refine Block.rt ?_
  refine Next.rt ?_
  refine Ret.go (.cons (.tmp _ _ rfl) (.cons (.tmp _ _ rfl) .nil)) _ (hRa _) ?_
  refine ⟨?_, rfl⟩
  unfold aeM
  rw [aO (by omega)]
  rfl
 try simp only [aL] at hc8
 refine .sr (.p rfl (zR (tm rfl) zE) (.as rfl rfl (.ng ?_)))
 refine AWP.cond (tm rfl) (fun hc14 => ?_) (fun hc14 => ?_)
 ·try simp only [aM] at hc14
  refine .seq (.sr (.p rfl (zD U24 rfl Z9 (tm rfl)) (.p rfl (zH G9 (tm rfl)) (.cl rfl Tryz.call41 (evs1 rfl) (aiQ _ (by omega) _) (.ng (.block (.sr (.p rfl (yM (tm rfl) (zS rfl)) ?_))))))))
  refine .as rfl rfl (.ng ?_)
  refine AWP.cond (tm rfl) (fun hc19 => ?_) (fun hc19 => ?_)
  ·try simp only [aM] at hc19
   refine .sr (.p rfl (zA zM) (.p rfl (zA zE) (.ng (.ret ?_))))
   refine Block.rt ?_
   refine Next.rt ?_
   refine Block.rt ?_
   refine Next.rt ?_
   refine Ret.go (.cons (.tmp _ _ rfl) (.cons (.tmp _ _ rfl) .nil)) _ (hRa _) ?_
   refine ⟨?_, rfl⟩
   unfold aeM
   rw [aN (by omega), aO (by omega), aO (by assumption)]
   rfl
  try simp only [aL] at hc19
  refine .sr (.p rfl (yM (tm rfl) (zS rfl)) (.as rfl rfl (.ng ?_)))
  refine AWP.cond (tm rfl) (fun hc21 => ?_) (fun hc21 => ?_)
  ·try simp only [aM] at hc21
   refine .sr (.p rfl (zA zM) (.p rfl (zA zE) (.ng (.ret ?_))))
   refine Block.rt ?_
   refine Next.rt ?_
   refine Block.rt ?_
   refine Next.rt ?_
   refine Ret.go (.cons (.tmp _ _ rfl) (.cons (.tmp _ _ rfl) .nil)) _ (hRa _) ?_
   refine ⟨?_, rfl⟩
   unfold aeM
   rw [aN (by omega), aO (by omega), aN (by assumption), aO (by assumption)]
   rfl
  try simp only [aL] at hc21
  refine .skip ?_
  refine Block.go ?_
  refine Next.go ?_
  refine .sr (.p rfl (zA zM) (.p rfl (zA zE) (.ng (.ret ?_))))
  refine Block.rt ?_
  refine Next.rt ?_
  refine Ret.go (.cons (.tmp _ _ rfl) (.cons (.tmp _ _ rfl) .nil)) _ (hRa _) ?_
  refine ⟨?_, rfl⟩
  unfold aeM
  rw [aN (by omega), aO (by omega), aN (by assumption), aN (by assumption)]
  rfl
 try simp only [aL] at hc14
 refine .skip ?_
 refine Block.go ?_
 refine Next.go ?_
 refine .seq ?_
 refine AWP.draw [(0, true), (1, true), (2, true), (3, true), (4, true), (5, true)] rfl (by decide +kernel) ?_
 refine .p rfl rfl (zD U24 rfl Z4 (tm rfl)) (.p rfl rfl (zH G4 (tm rfl)) (.p rfl rfl (zD U24 rfl Z3 (tm rfl)) (.p rfl rfl (zH G3 (tm rfl)) (.p rfl rfl (zA (tm rfl)) (.p rfl rfl (zA (tm rfl)) (.nil ?_))))))
 refine Next.go ?_
 refine .ret ?_
 refine Ret.go (.cons (.tmp _ _ rfl) (.cons (.tmp _ _ rfl) .nil)) _ (hRa _) ?_
 refine ⟨?_, rfl⟩
 unfold aeM
 rw [aN (by omega), aN (by omega)]
 rfl

theorem ahT (l : Loc) (hk : l.ok) (b : Nat) (v : Val) (hv : v.bits < 18446744073709551616) (ht : v.text.length ≤ 1000) (H : Heap) : ACall Tryz.prog 16 [opA l b, v.av] H (fun y H' => y = .tuple [.str (acE l v).1, .int .i64 (acE l v).2] ∧ H' = H) := by
 refine ACall.of_body Tryz.func16 rfl Tryz.ntmps16 Tryz.results16 rfl ?_
 refine .sr (.e rfl (zZ (tm rfl) (.inr ⟨_, rfl⟩)) (.p rfl (zA (zS rfl)) (.p rfl (zA zE) (.ng (.seq (.sr (.p rfl (zD U24 rfl Z3 (tm rfl)) (.p rfl (zH G3 (tm rfl)) ?_))))))))
 refine .ng (.block (.sr (.p rfl (zR (tm rfl) zE) (.as rfl rfl (.ng ?_)))))
 refine AWP.cond (tm rfl) (fun hc8 => ?_) (fun hc8 => ?_)
 ·try simp only [aM] at hc8
  refine .seq ?_
  refine AWP.draw [(0, true), (1, true), (2, true), (3, true), (4, true), (5, true), (6, false), (7, true), (8, true)] rfl (by decide +kernel) ?_
  refine .p rfl rfl (zD U24 rfl Z22 (tm rfl)) (.p rfl rfl (zH G22 (tm rfl)) (.p rfl rfl (zJ (tm rfl)) (.p rfl rfl (yZ (tm rfl)) (.p rfl rfl (zD U74 rfl Z29 (tm rfl)) (.p rfl rfl (zQ G29 Z29 (tm rfl) (lB rfl)) (.s rfl rfl (zF Tryz.call43 (evs2 rfl rfl) (auH l hk _ v.bits hv _)) ?_))))))
  rintro _ _ ⟨rfl, hH⟩
  obtain rfl := hH.symm
  refine .p rfl rfl (zA (tm rfl)) (.p rfl rfl (zA zE) (.nil ?_))
  refine Next.go ?_
  refine .ret ?_
  refine Block.rt ?_
  refine Next.rt ?_
  refine Ret.go (.cons (.tmp _ _ rfl) (.cons (.tmp _ _ rfl) .nil)) _ (hRa _) ?_
  refine ⟨?_, rfl⟩
  unfold acE
  rw [aO (by omega)]
  rfl
 try simp only [aL] at hc8
 refine .sr (.p rfl (zR (tm rfl) zE) (.as rfl rfl (.ng ?_)))
 refine AWP.cond (tm rfl) (fun hc17 => ?_) (fun hc17 => ?_)
 ·try simp only [aM] at hc17
  refine .sr (.p rfl (zD U24 rfl Z4 (tm rfl)) (.p rfl (zH G4 (tm rfl)) (.cl rfl Tryz.call44 (evs1 rfl) (akG _ _) (.as rfl rfl (.p rfl (zA zE) (.ng (.ret ?_)))))))
  refine Block.rt ?_
  refine Next.rt ?_
  refine Ret.go (.cons (.tmp _ _ rfl) (.cons (.tmp _ _ rfl) .nil)) _ (hRa _) ?_
  refine ⟨?_, rfl⟩
  unfold acE
  rw [aN (by omega), aO (by omega)]
  rfl
 try simp only [aL] at hc17
 refine .skip ?_
 refine Block.go ?_
 refine Next.go ?_
 refine .seq ?_
 refine AWP.draw [(0, true), (1, true), (2, true), (3, true), (4, true), (5, true)] rfl (by decide +kernel) ?_
 refine .p rfl rfl (zD U24 rfl Z9 (tm rfl)) (.p rfl rfl (zH G9 (tm rfl)) (.p rfl rfl (zD U24 rfl Z3 (tm rfl)) (.p rfl rfl (zH G3 (tm rfl)) (.p rfl rfl (zA (tm rfl)) (.p rfl rfl (zA (tm rfl)) (.nil ?_))))))
 refine Next.go ?_
 refine .ret ?_
 refine Ret.go (.cons (.tmp _ _ rfl) (.cons (.tmp _ _ rfl) .nil)) _ (hRa _) ?_
 refine ⟨?_, rfl⟩
 unfold acE
 rw [aN (by omega), aN (by omega)]
 rfl

theorem bfR (x y : Nat) (hx : x < 18446744073709551616) (hy : y < 18446744073709551616) (H : Heap) : ACall Tryz.prog 64 [.int .u64 (x : Int), .int .u64 (y : Int)] H (fun z H' => z = (apR (ahQ x y)).av ∧ H' = H) := by
 have ha := bmD hx hy
 refine ACall.of_body Tryz.func64 rfl Tryz.ntmps64 Tryz.results64 rfl ?_
 refine .sr ?_
 refine .al zr24 (fun b4 hb4 => ?_)
 refine .nr (.mv rfl rfl (.mv rfl rfl (.cl rfl Tryz.call131 (evs2 rfl rfl) (arV _ _ (by assumption) (by assumption) _) (.cl rfl C35 (evs1 rfl) (qS _ (by assumption) _) (.e0 (zG Z24 (tm rfl) (tm rfl) rfl rfl (.inr ⟨_, rfl⟩) (oS _ _ _) (lB rfl)) ?_)))))
 try first | rw [sS] | rw [sU (by assumption)]
 refine .ng ?_
 refine AWP.frz (t := 4) rfl (hb4) ?_
 refine .ret ?_
 refine Ret.go (.cons (.cellI _ _ _ _ rfl G24 Z24 rfl) .nil) _ (hRa _) ?_
 exact ⟨rfl, rfl⟩

theorem bgO (a b : Nat) (ha : a < 18446744073709551616) (hb : b < 18446744073709551616) (H : Heap) : ACall Tryz.prog 132 [.int .u64 (a : Int), .int .u64 (b : Int)] H (fun y H' => y = .int .u64 ((ahQ a (apY b) : Nat) : Int) ∧ H' = H) := by
 have hn := baE hb
 refine ACall.of_body Tryz.func132 rfl Tryz.ntmps132 Tryz.results132 rfl ?_
 refine .sr (.p rfl (zA (zI 0)) (.nr (.mv rfl rfl (.mv rfl rfl (.cl rfl Tryz.call56 (evs1 rfl) (arT _ (by assumption) _) (.cl rfl Tryz.call131 (evs2 rfl rfl) (arV _ _ (by assumption) (by assumption) _) (.as rfl rfl (.ng ?_))))))))
 refine .ret ?_
 refine Ret.go (.cons (.tmp _ _ rfl) .nil) _ (hRa _) ?_
 exact ⟨rfl, rfl⟩

theorem bfO (x y : Nat) (hx : x < 18446744073709551616) (hy : y < 18446744073709551616) (H : Heap) : ACall Tryz.prog 65 [.int .u64 (x : Int), .int .u64 (y : Int)] H (fun z H' => z = (apR (ahQ x (apY y))).av ∧ H' = H) := by
 have hn := baE hy
 have ha := bmD hx hn
 refine ACall.of_body Tryz.func65 rfl Tryz.ntmps65 Tryz.results65 rfl ?_
 refine .sr ?_
 refine .al zr24 (fun b4 hb4 => ?_)
 refine .nr (.mv rfl rfl (.mv rfl rfl (.cl rfl Tryz.call132 (evs2 rfl rfl) (bgO x y hx hy _) (.cl rfl C35 (evs1 rfl) (qS _ (by assumption) _) (.e0 (zG Z24 (tm rfl) (tm rfl) rfl rfl (.inr ⟨_, rfl⟩) (oS _ _ _) (lB rfl)) ?_)))))
 try first | rw [sS] | rw [sU (by assumption)]
 refine .ng ?_
 refine AWP.frz (t := 4) rfl (hb4) ?_
 refine .ret ?_
 refine Ret.go (.cons (.cellI _ _ _ _ rfl G24 Z24 rfl) .nil) _ (hRa _) ?_
 exact ⟨rfl, rfl⟩

theorem bfP (x y : Nat) (hx : x < 18446744073709551616) (hy : y < 18446744073709551616) (H : Heap) : ACall Tryz.prog 66 [.int .u64 (x : Int), .int .u64 (y : Int)] H (fun z H' => z = (apR (aeA x y)).av ∧ H' = H) := by
 have ha := amM x y
 refine ACall.of_body Tryz.func66 rfl Tryz.ntmps66 Tryz.results66 rfl ?_
 refine .sr ?_
 refine .al zr24 (fun b4 hb4 => ?_)
 refine .nr (.mv rfl rfl (.mv rfl rfl (.cl rfl C133 (evs2 rfl rfl) (agB _ _ (by assumption) (by assumption) _) (.cl rfl C35 (evs1 rfl) (qS _ (by assumption) _) (.e0 (zG Z24 (tm rfl) (tm rfl) rfl rfl (.inr ⟨_, rfl⟩) (oS _ _ _) (lB rfl)) ?_)))))
 try first | rw [sS] | rw [sU (by assumption)]
 refine .ng ?_
 refine AWP.frz (t := 4) rfl (hb4) ?_
 refine .ret ?_
 refine Ret.go (.cons (.cellI _ _ _ _ rfl G24 Z24 rfl) .nil) _ (hRa _) ?_
 exact ⟨rfl, rfl⟩

theorem bfQ (x y : Nat) (hx : x < 18446744073709551616) (hy : y < 18446744073709551616) (H : Heap) : ACall Tryz.prog 67 [.int .u64 (x : Int), .int .u64 (y : Int)] H (fun z H' => z = (divV x y).av ∧ H' = H) := by
 have ha := baF x y
 refine ACall.of_body Tryz.func67 rfl Tryz.ntmps67 Tryz.results67 rfl ?_
 refine .sr ?_
 refine .al zr24 (fun b4 hb4 => ?_)
 refine .ng (.seq (.sr (.mv rfl rfl (.cl rfl C40 (evs1 rfl) (agT _ (by assumption) _) (.p rfl (zR (tm rfl) zE) (.ng ?_))))))
 refine AWP.cond (tm rfl) (fun hc7 => ?_) (fun hc7 => ?_)
 ·try simp only [aM] at hc7
  refine .sr (.cl rfl C53 (.cons zE .nil) (aaG _ _) (.e0 (zG Z24 (tm rfl) (tm rfl) rfl rfl (.inr ⟨_, rfl⟩) (oS _ _ _) (lB rfl)) ?_))
  try first | rw [sS] | rw [sU (by assumption)]
  refine .ng ?_
  refine AWP.frz (t := 4) rfl (hb4) ?_
  refine .ret ?_
  refine Next.rt ?_
  refine Ret.go (.cons (.cellI _ _ _ _ rfl G24 Z24 rfl) .nil) _ (hRa _) ?_
  refine ⟨?_, rfl⟩
  unfold divV
  rw [aO (by omega)]
  rfl
 try simp only [aL] at hc7
 refine .skip ?_
 refine Next.go ?_
 refine .sr (.mv rfl rfl (.mv rfl rfl (.cl rfl C54 (evs2 rfl rfl) (agC x y hx hy _) (.cl rfl C35 (evs1 rfl) (qS _ (by assumption) _) (.e0 (zG Z24 (tm rfl) (tm rfl) rfl rfl (.inr ⟨_, rfl⟩) (oS _ _ _) (lB rfl)) ?_)))))
 try first | rw [sS] | rw [sU (by assumption)]
 refine .ng ?_
 refine AWP.frz (t := 4) rfl (hb4) ?_
 refine .ret ?_
 refine Ret.go (.cons (.cellI _ _ _ _ rfl G24 Z24 rfl) .nil) _ (hRa _) ?_
 refine ⟨?_, rfl⟩
 unfold divV
 rw [aN (by omega)]
 rfl

theorem awC (x y : Nat) (hx : x < 18446744073709551616) (hy : y < 18446744073709551616) (H : Heap) : ACall Tryz.prog 68 [.int .u64 (x : Int), .int .u64 (y : Int)] H (fun z H' => z = (bkA x y).av ∧ H' = H) := by
 have hpl := fpow_lt x (toN y).1
 have hsl := fsqrt_lt hx
 have hhl : yB false 2 0 false < 18446744073709551616 := adN _ _ _ _
 refine ACall.of_body Tryz.func68 rfl Tryz.ntmps68 Tryz.results68 rfl ?_
 refine .sr ?_
 refine .al zr24 (fun b4 hb4 => ?_)
 refine .nr (.mv rfl rfl (.cl rfl C40 (evs1 rfl) (agT _ (by assumption) _) (.as rfl rfl (.ng (.seq (.sr (.mv rfl rfl (.cl rfl C40 (evs1 rfl) (agT _ (by assumption) _) ?_))))))))
 refine .p rfl (zR (tm rfl) zE) (.ng ?_)
 refine AWP.cond (tm rfl) (fun hc12 => ?_) (fun hc12 => ?_)
 ·try simp only [aM] at hc12
  refine .block (.sr (.mv rfl rfl (.p rfl (zR (tm rfl) zE) (.as rfl rfl (.ng ?_)))))
  refine AWP.cond (tm rfl) (fun hc13 => ?_) (fun hc13 => ?_)
  ·try simp only [aM] at hc13
   refine .sr (.cl rfl C53 (.cons zE .nil) (aaG _ _) (.e0 (zG Z24 (tm rfl) (tm rfl) rfl rfl (.inr ⟨_, rfl⟩) (oS _ _ _) (lB rfl)) ?_))
   try first | rw [sS] | rw [sU (by assumption)]
   refine .ng ?_
   refine AWP.frz (t := 4) rfl (hb4) ?_
   refine .ret ?_
   refine Block.rt ?_
   refine Next.rt ?_
   refine Ret.go (.cons (.cellI _ _ _ _ rfl G24 Z24 rfl) .nil) _ (hRa _) ?_
   refine ⟨?_, rfl⟩
   unfold bkA
   rw [aO ⟨by omega, by omega⟩]
   rfl
  try simp only [aL] at hc13
  refine .sr (.mv rfl rfl (.p rfl (yN (tm rfl) zE) (.as rfl rfl (.ng ?_))))
  refine AWP.cond (tm rfl) (fun hc17 => ?_) (fun hc17 => ?_)
  ·try simp only [aM] at hc17
   refine .sr (.cl rfl C53 (.cons zE .nil) (aaG _ _) (.e0 (zG Z24 (tm rfl) (tm rfl) rfl rfl (.inr ⟨_, rfl⟩) (oS _ _ _) (lB rfl)) ?_))
   try first | rw [sS] | rw [sU (by assumption)]
   refine .ng ?_
   refine AWP.frz (t := 4) rfl (hb4) ?_
   refine .ret ?_
   refine Block.rt ?_
   refine Next.rt ?_
   refine Ret.go (.cons (.cellI _ _ _ _ rfl G24 Z24 rfl) .nil) _ (hRa _) ?_
   refine ⟨?_, rfl⟩
   unfold bkA
   rw [aN (by omega), aO ⟨by omega, by omega⟩]
   rfl
  try simp only [aL, bN] at hc17
  refine .skip ?_
  refine Block.go ?_
  refine Next.go ?_
  refine .seq (.sr (.mv rfl rfl (.cl rfl Tryz.call134 (.cons (tm rfl) (.cons zE .nil)) (awT _ (by assumption) _) (.mv rfl rfl (.p rfl (zB (tm rfl) rfl) (.p rfl (zB (tm rfl) rfl) (.as rfl rfl (.as rfl rfl ?_))))))))
  refine .ng ?_
  refine AWP.seqTo 39 (.bool (decide ((toN y).2 = 0 ∧ isN y = true ∧ -1000000 ≤ (toN y).1 ∧ (toN y).1 ≤ 1000000))) [0, 1, 4, 6] ?_ ?_
  ·-- region 8
   refine .region (.mv rfl rfl (.p rfl (zR (tm rfl) zE) (.mv rfl rfl ?_)))
   refine zL (t := 28) rfl (fun hg28 => ?_) (fun hg28 => ?_)
   ·have hh28 := hg28; try simp only [aM] at hh28
    refine .gp rfl rfl rfl (by assumption) (zJ (tm rfl)) (.gs rfl rfl rfl (by assumption) (zF Tryz.call135 (evs1 rfl) (awU _ (by assumption) _)) ?_)
    rintro _ _ ⟨rfl, hH⟩
    obtain rfl := hH.symm
    refine .p rfl (zO (tm rfl) (by assumption) (tm rfl)) (.mv rfl rfl ?_)
    refine zL (t := 32) rfl (fun hg32 => ?_) (fun hg32 => ?_)
    ·have hh32 := hg32; try simp only [aK] at hh32
     refine .gp rfl rfl rfl (by assumption) (zJ (tm rfl)) (.gp rfl rfl rfl (by assumption) (yS (tm rfl) zE) (.p rfl (zO (tm rfl) (by assumption) (tm rfl)) (.mv rfl rfl ?_)))
     refine zL (t := 36) rfl (fun hg36 => ?_) (fun hg36 => ?_)
     ·have hh36 := hg36; try simp only [aM] at hh36
      refine .gp rfl rfl rfl (by assumption) (zJ (tm rfl)) (.gp rfl rfl rfl (by assumption) (abJ (tm rfl) zE) (.p rfl (zO (tm rfl) (by assumption) (tm rfl)) (.nil ?_)))
      exact ⟨rfl, zY rfl (by (refine Eq.symm ?_; exact bA.2 ⟨fun q => q.2.2.2, fun q => ⟨by omega, by assumption, by omega, q⟩⟩)) (zC rfl (zC rfl (zC rfl (zC rfl zU)))), rfl⟩
     have hh36 := hg36; try simp only [aL, cA] at hh36
     refine .gn rfl rfl rfl (by assumption) (.gn rfl rfl rfl (by assumption) (.p rfl (zN (tm rfl) (by assumption) zM) (.nil ?_)))
     exact ⟨rfl, zY rfl (by (refine Eq.symm ?_; exact bG (fun q => by omega))) (zC rfl (zC rfl (zC rfl (zC rfl zU)))), rfl⟩
    have hh32 := hg32; try simp only [aK] at hh32
    refine .gn rfl rfl rfl (by assumption) (.gn rfl rfl rfl (by assumption) (.p rfl (zN (tm rfl) (by assumption) zM) (.mv rfl rfl (.gn rfl rfl rfl (by rfl) (.gn rfl rfl rfl (by rfl) (.p rfl (zN (tm rfl) (by rfl) zM) (.nil ?_)))))))
    exact ⟨rfl, zY rfl (by (refine Eq.symm ?_; exact bG (fun q => by rw [q.2.1] at hg32; cases hg32))) (zC rfl (zC rfl (zC rfl (zC rfl zU)))), rfl⟩
   have hh28 := hg28; try simp only [aL] at hh28
   refine .gn rfl rfl rfl (by assumption) (.gn rfl rfl rfl (by assumption) (.p rfl (zN (tm rfl) (by assumption) zM) (.mv rfl rfl (.gn rfl rfl rfl (by rfl) (.gn rfl rfl rfl (by rfl) (.p rfl (zN (tm rfl) (by rfl) zM) (.mv rfl rfl (.gn rfl rfl rfl (by rfl) ?_))))))))
   refine .gn rfl rfl rfl (by rfl) (.p rfl (zN (tm rfl) (by rfl) zM) (.nil ?_))
   exact ⟨rfl, zY rfl (by (refine Eq.symm ?_; exact bG (fun q => by omega))) (zC rfl (zC rfl (zC rfl (zC rfl zU)))), rfl⟩
  refine AWP.sub [(39, _), (0, _), (1, _), (4, _), (6, _)] (zC rfl (zC rfl (zC rfl (zC rfl (zC rfl zU))))) ?_
  refine AWP.cond (tm rfl) (fun hc39 => ?_) (fun hc39 => ?_)
  ·try simp only [aM] at hc39
   refine .sr (.mv rfl rfl (.mv rfl rfl (.cl rfl Tryz.call136 (evs2 rfl rfl) (arS x hx _ (by omega) _) (.cl rfl C35 (evs1 rfl) (qS _ (by assumption) _) (.e0 (zG Z24 (tm rfl) (tm rfl) rfl rfl (.inr ⟨_, rfl⟩) (oS _ _ _) (lB rfl)) ?_)))))
   try first | rw [sS] | rw [sU (by assumption)]
   refine .ng ?_
   refine AWP.frz (t := 4) rfl (hb4) ?_
   refine .ret ?_
   refine Next.rt ?_
   refine Ret.go (.cons (.cellI _ _ _ _ rfl G24 Z24 rfl) .nil) _ (hRa _) ?_
   refine ⟨?_, rfl⟩
   unfold bkA
   rw [aN (by omega), aN (by omega), aO (by assumption)]
   rfl
  try simp only [aL] at hc39
  refine .skip ?_
  refine Next.go ?_
  refine .seq (.sr (.mv rfl rfl (.cl rfl C55 (.cons zE .nil) (aeH 2 (by decide) _) (.cl rfl C54 (.cons (zI 4607182418800017408) (evs1 rfl)) (agC _ _ (by decide) hhl _) (.p rfl (zR (tm rfl) (tm rfl)) (.ng ?_))))))
  refine AWP.cond (tm rfl) (fun hc47 => ?_) (fun hc47 => ?_)
  ·try simp only [aM] at hc47
   refine .sr (.mv rfl rfl (.cl rfl Tryz.call137 (evs1 rfl) (aoW _ (by assumption) _) (.cl rfl C35 (evs1 rfl) (qS _ (by assumption) _) (.e0 (zG Z24 (tm rfl) (tm rfl) rfl rfl (.inr ⟨_, rfl⟩) (oS _ _ _) (lB rfl)) ?_))))
   try first | rw [sS] | rw [sU (by assumption)]
   refine .ng ?_
   refine AWP.frz (t := 4) rfl (hb4) ?_
   refine .ret ?_
   refine Next.rt ?_
   refine Ret.go (.cons (.cellI _ _ _ _ rfl G24 Z24 rfl) .nil) _ (hRa _) ?_
   refine ⟨?_, rfl⟩
   unfold bkA
   rw [aN (by omega), aN (by omega), aN (by assumption), aO (show y = blQ from Int.ofNat_inj.1 hc47)]
   rfl
  try simp only [aL] at hc47
  refine .skip ?_
  refine Next.go ?_
  refine .sr (.cl rfl C53 (.cons zE .nil) (aaG _ _) (.e0 (zG Z24 (tm rfl) (tm rfl) rfl rfl (.inr ⟨_, rfl⟩) (oS _ _ _) (lB rfl)) ?_))
  try first | rw [sS] | rw [sU (by assumption)]
  refine .ng ?_
  refine AWP.frz (t := 4) rfl (hb4) ?_
  refine .ret ?_
  refine Ret.go (.cons (.cellI _ _ _ _ rfl G24 Z24 rfl) .nil) _ (hRa _) ?_
  refine ⟨?_, rfl⟩
  unfold bkA
  rw [aN (by omega), aN (by omega), aN (by assumption), aN (show ¬ y = blQ from fun q => hc47 (congrArg Int.ofNat q))]
  rfl
 try simp only [aL] at hc12
 refine .skip ?_
 refine Next.go ?_
 refine .seq (.sr (.mv rfl rfl (.cl rfl Tryz.call134 (.cons (tm rfl) (.cons zE .nil)) (awT _ (by assumption) _) (.mv rfl rfl (.p rfl (zB (tm rfl) rfl) (.p rfl (zB (tm rfl) rfl) (.as rfl rfl (.as rfl rfl ?_))))))))
 refine .ng ?_
 refine AWP.seqTo 39 (.bool (decide ((toN y).2 = 0 ∧ isN y = true ∧ -1000000 ≤ (toN y).1 ∧ (toN y).1 ≤ 1000000))) [0, 1, 4, 6] ?_ ?_
 ·-- region 8
  refine .region (.mv rfl rfl (.p rfl (zR (tm rfl) zE) (.mv rfl rfl ?_)))
  refine zL (t := 28) rfl (fun hg28 => ?_) (fun hg28 => ?_)
  ·have hh28 := hg28; try simp only [aM] at hh28
   refine .gp rfl rfl rfl (by assumption) (zJ (tm rfl)) (.gs rfl rfl rfl (by assumption) (zF Tryz.call135 (evs1 rfl) (awU _ (by assumption) _)) ?_)
   rintro _ _ ⟨rfl, hH⟩
   obtain rfl := hH.symm
   refine .p rfl (zO (tm rfl) (by assumption) (tm rfl)) (.mv rfl rfl ?_)
   refine zL (t := 32) rfl (fun hg32 => ?_) (fun hg32 => ?_)
   ·have hh32 := hg32; try simp only [aK] at hh32
    refine .gp rfl rfl rfl (by assumption) (zJ (tm rfl)) (.gp rfl rfl rfl (by assumption) (yS (tm rfl) zE) (.p rfl (zO (tm rfl) (by assumption) (tm rfl)) (.mv rfl rfl ?_)))
    refine zL (t := 36) rfl (fun hg36 => ?_) (fun hg36 => ?_)
    ·have hh36 := hg36; try simp only [aM] at hh36
     refine .gp rfl rfl rfl (by assumption) (zJ (tm rfl)) (.gp rfl rfl rfl (by assumption) (abJ (tm rfl) zE) (.p rfl (zO (tm rfl) (by assumption) (tm rfl)) (.nil ?_)))
     exact ⟨rfl, zY rfl (by (refine Eq.symm ?_; exact bA.2 ⟨fun q => q.2.2.2, fun q => ⟨by omega, by assumption, by omega, q⟩⟩)) (zC rfl (zC rfl (zC rfl (zC rfl zU)))), rfl⟩
    have hh36 := hg36; try simp only [aL, cA] at hh36
    refine .gn rfl rfl rfl (by assumption) (.gn rfl rfl rfl (by assumption) (.p rfl (zN (tm rfl) (by assumption) zM) (.nil ?_)))
    exact ⟨rfl, zY rfl (by (refine Eq.symm ?_; exact bG (fun q => by omega))) (zC rfl (zC rfl (zC rfl (zC rfl zU)))), rfl⟩
   have hh32 := hg32; try simp only [aK] at hh32
   refine .gn rfl rfl rfl (by assumption) (.gn rfl rfl rfl (by assumption) (.p rfl (zN (tm rfl) (by assumption) zM) (.mv rfl rfl (.gn rfl rfl rfl (by rfl) (.gn rfl rfl rfl (by rfl) (.p rfl (zN (tm rfl) (by rfl) zM) (.nil ?_)))))))
   exact ⟨rfl, zY rfl (by (refine Eq.symm ?_; exact bG (fun q => by rw [q.2.1] at hg32; cases hg32))) (zC rfl (zC rfl (zC rfl (zC rfl zU)))), rfl⟩
  have hh28 := hg28; try simp only [aL] at hh28
  refine .gn rfl rfl rfl (by assumption) (.gn rfl rfl rfl (by assumption) (.p rfl (zN (tm rfl) (by assumption) zM) (.mv rfl rfl (.gn rfl rfl rfl (by rfl) (.gn rfl rfl rfl (by rfl) (.p rfl (zN (tm rfl) (by rfl) zM) (.mv rfl rfl (.gn rfl rfl rfl (by rfl) ?_))))))))
  refine .gn rfl rfl rfl (by rfl) (.p rfl (zN (tm rfl) (by rfl) zM) (.nil ?_))
  exact ⟨rfl, zY rfl (by (refine Eq.symm ?_; exact bG (fun q => by omega))) (zC rfl (zC rfl (zC rfl (zC rfl zU)))), rfl⟩
 refine AWP.sub [(39, _), (0, _), (1, _), (4, _), (6, _)] (zC rfl (zC rfl (zC rfl (zC rfl (zC rfl zU))))) ?_
 refine AWP.cond (tm rfl) (fun hc39 => ?_) (fun hc39 => ?_)
 ·try simp only [aM] at hc39
  refine .sr (.mv rfl rfl (.mv rfl rfl (.cl rfl Tryz.call136 (evs2 rfl rfl) (arS x hx _ (by omega) _) (.cl rfl C35 (evs1 rfl) (qS _ (by assumption) _) (.e0 (zG Z24 (tm rfl) (tm rfl) rfl rfl (.inr ⟨_, rfl⟩) (oS _ _ _) (lB rfl)) ?_)))))
  try first | rw [sS] | rw [sU (by assumption)]
  refine .ng ?_
  refine AWP.frz (t := 4) rfl (hb4) ?_
  refine .ret ?_
  refine Next.rt ?_
  refine Ret.go (.cons (.cellI _ _ _ _ rfl G24 Z24 rfl) .nil) _ (hRa _) ?_
  refine ⟨?_, rfl⟩
  unfold bkA
  rw [aN (by omega), aN (by omega), aO (by assumption)]
  rfl
 try simp only [aL] at hc39
 refine .skip ?_
 refine Next.go ?_
 refine .seq (.sr (.mv rfl rfl (.cl rfl C55 (.cons zE .nil) (aeH 2 (by decide) _) (.cl rfl C54 (.cons (zI 4607182418800017408) (evs1 rfl)) (agC _ _ (by decide) hhl _) (.p rfl (zR (tm rfl) (tm rfl)) (.ng ?_))))))
 refine AWP.cond (tm rfl) (fun hc47 => ?_) (fun hc47 => ?_)
 ·try simp only [aM] at hc47
  refine .sr (.mv rfl rfl (.cl rfl Tryz.call137 (evs1 rfl) (aoW _ (by assumption) _) (.cl rfl C35 (evs1 rfl) (qS _ (by assumption) _) (.e0 (zG Z24 (tm rfl) (tm rfl) rfl rfl (.inr ⟨_, rfl⟩) (oS _ _ _) (lB rfl)) ?_))))
  try first | rw [sS] | rw [sU (by assumption)]
  refine .ng ?_
  refine AWP.frz (t := 4) rfl (hb4) ?_
  refine .ret ?_
  refine Next.rt ?_
  refine Ret.go (.cons (.cellI _ _ _ _ rfl G24 Z24 rfl) .nil) _ (hRa _) ?_
  refine ⟨?_, rfl⟩
  unfold bkA
  rw [aN (by omega), aN (by omega), aN (by assumption), aO (show y = blQ from Int.ofNat_inj.1 hc47)]
  rfl
 try simp only [aL] at hc47
 refine .skip ?_
 refine Next.go ?_
 refine .sr (.cl rfl C53 (.cons zE .nil) (aaG _ _) (.e0 (zG Z24 (tm rfl) (tm rfl) rfl rfl (.inr ⟨_, rfl⟩) (oS _ _ _) (lB rfl)) ?_))
 try first | rw [sS] | rw [sU (by assumption)]
 refine .ng ?_
 refine AWP.frz (t := 4) rfl (hb4) ?_
 refine .ret ?_
 refine Ret.go (.cons (.cellI _ _ _ _ rfl G24 Z24 rfl) .nil) _ (hRa _) ?_
 refine ⟨?_, rfl⟩
 unfold bkA
 rw [aN (by omega), aN (by omega), aN (by assumption), aN (show ¬ y = blQ from fun q => hc47 (congrArg Int.ofNat q))]
 rfl

theorem agE (l : Loc) (hk : l.ok) (hg : l.grp ≠ []) (x : Val) (x_b : x.bits < 18446744073709551616) (x_t : x.text.length ≤ 1000) (u : Val) (u_b : u.bits < 18446744073709551616) (u_t : u.text.length ≤ 1000) (F : Nat → Nat → Val) (fn : FuncId) (hent : ∀ args w, (callFunc fn args).run Tryz.prog w = .ok (.enter fn args) w) (hF : ∀ x y, x < 18446744073709551616 → y < 18446744073709551616 → ∀ H, ACall Tryz.prog fn [.int .u64 ((x : Nat) : Int), .int .u64 ((y : Nat) : Int)] H (fun z H' => z = (F x y).av ∧ H' = H)) (f : Nat → List AV) (hf : ROK f) (b : Nat) (H : Heap) (hb : H.objs b = some (.box 189 (aaP f))) : ACall Tryz.prog 63 [opA l b, x.av, u.av, .func fn []] H (fun y H' => y = (atU l x u F).av ∧ ∃ f', ROK f' ∧ H' = H.set b (.box 189 (aaP f'))) := by
 refine ACall.of_body Tryz.func63 rfl Tryz.ntmps63 Tryz.results63 rfl ?_
 refine .sr (.e rfl (zZ (tm rfl) (.inr ⟨_, rfl⟩)) (.e rfl (zZ (tm rfl) (.inr ⟨_, rfl⟩)) ?_))
 refine .al zr24 (fun b8 hb8 => ?_)
 refine .ng (.seq ?_)
 have h8b : b8 ≠ b := by rintro rfl; rw [hb8] at hb; cases hb
 refine .region (.mv rfl rfl (.p rfl (zQ G24 Z24 (tm rfl) (lB rfl)) (.s rfl (zF C12 (evs2 rfl rfl) (aaK l hk hg x x_b x_t f hf b _ ((oN _ _ h8b.symm).trans hb))) ?_)))
 rintro _ _ ⟨rfl, f1, hf1, rfl⟩
 rw [Heap.set_comm h8b]
 replace hb8 : (H.set b (.box 189 (aaP f1))).objs b8 = none := (oN _ _ h8b).trans hb8
 refine .mv rfl rfl (.p rfl (zB (tm rfl) rfl) (.p rfl (zB (tm rfl) rfl) (.as rfl rfl (.as rfl rfl (.ng (.seq (.sr (.mv rfl rfl ?_))))))))
 refine .p rfl (qA (tm rfl) zE) (.ng ?_)
 refine AWP.cond (tm rfl) (fun hc19 => ?_) (fun hc19 => ?_)
 ·try simp only [aM, ne_eq] at hc19
  refine .sr (.mv rfl rfl (.cl rfl C53 (evs1 rfl) (aaG _ _) (.e0 (zG Z24 (tm rfl) (tm rfl) rfl rfl (.inr ⟨_, rfl⟩) (oS _ _ _) (lB rfl)) ?_)))
  try first | rw [sS] | rw [sU (by assumption)]
  refine .ng ?_
  refine AWP.frz (t := 8) rfl (hb8) ?_
  refine .ret ?_
  refine Next.rt ?_
  refine Ret.go (.cons (.cellI _ _ _ _ rfl G24 Z24 rfl) .nil) _ (hRa _) ?_
  refine ⟨?_, f1, hf1, rfl⟩
  unfold atU
  rw [aO (by simpa using hc19)]; rfl
 try simp only [aL, ne_eq, cG] at hc19
 refine .skip ?_
 refine Next.go ?_
 refine .sr (.mv rfl rfl (.p rfl (zQ G24 Z24 (tm rfl) (lB rfl)) (.s rfl (zF C12 (evs2 rfl rfl) (aaK l hk hg u u_b u_t f1 hf1 b _ ((oN _ _ h8b.symm).trans (oS _ _ _)))) ?_)))
 rintro _ _ ⟨rfl, f2, hf2, rfl⟩
 rw [sU h8b.symm]
 replace hb8 : (H.set b (.box 189 (aaP f2))).objs b8 = none := fS hb8 _
 refine .mv rfl rfl (.p rfl (zB (tm rfl) rfl) (.p rfl (zB (tm rfl) rfl) (.as rfl rfl (.as rfl rfl (.ng (.seq (.sr (.mv rfl rfl ?_))))))))
 refine .p rfl (qA (tm rfl) zE) (.ng ?_)
 refine AWP.cond (tm rfl) (fun hc29 => ?_) (fun hc29 => ?_)
 ·try simp only [aM, ne_eq] at hc29
  refine .sr (.mv rfl rfl (.cl rfl C53 (evs1 rfl) (aaG _ _) (.e0 (zG Z24 (tm rfl) (tm rfl) rfl rfl (.inr ⟨_, rfl⟩) (oS _ _ _) (lB rfl)) ?_)))
  try first | rw [sS] | rw [sU (by assumption)]
  refine .ng ?_
  refine AWP.frz (t := 8) rfl (hb8) ?_
  refine .ret ?_
  refine Next.rt ?_
  refine Ret.go (.cons (.cellI _ _ _ _ rfl G24 Z24 rfl) .nil) _ (hRa _) ?_
  refine ⟨?_, f2, hf2, rfl⟩
  unfold atU
  rw [aN (by simpa using hc19), aO (by simpa using hc29)]; rfl
 try simp only [aL, ne_eq, cG] at hc29
 refine .skip ?_
 refine Next.go ?_
 refine .sr (.mv rfl rfl (.mv rfl rfl (.mv rfl rfl (.e rfl (amY hent (tm rfl) (evs2 rfl rfl) (hF _ _ (asG x_b) (asG u_b) _)) (.e0 (zG Z24 (tm rfl) (tm rfl) rfl rfl (.inr ⟨_, rfl⟩) (oS _ _ _) (lB rfl)) ?_)))))
 try first | rw [sS] | rw [sU (by assumption)]
 refine .ng ?_
 refine AWP.frz (t := 8) rfl (hb8) ?_
 refine .ret ?_
 refine Ret.go (.cons (.cellI _ _ _ _ rfl G24 Z24 rfl) .nil) _ (hRa _) ?_
 refine ⟨?_, f2, hf2, rfl⟩
 unfold atU
 rw [aN (by simpa using hc19), aN (by simpa using hc29)]; rfl

theorem apI (l : Loc) (hk : l.ok) (hg : l.grp ≠ []) (op : List UInt8) (v : Val) (v_b : v.bits < 18446744073709551616) (v_t : v.text.length ≤ 1000) (f : Nat → List AV) (hf : ROK f) (b : Nat) (H : Heap) (hb : H.objs b = some (.box 189 (aaP f))) : ACall Tryz.prog 20 [opA l b, .str op, v.av] H (fun y H' => y = (akD l op v).av ∧ ∃ f', ROK f' ∧ H' = H.set b (.box 189 (aaP f'))) := by
 have htl := asG (l := l) v_b
 have hhl : hunN < 18446744073709551616 := adN _ _ _ _
 have hdl := baF (abB l v).1 hunN
 have hnl := baE htl
 refine ACall.of_body Tryz.func20 rfl Tryz.ntmps20 Tryz.results20 rfl ?_
 refine .sr (.e rfl (zZ (tm rfl) (.inr ⟨_, rfl⟩)) ?_)
 refine .al zr24 (fun b6 hb6 => ?_)
 refine .ng (.seq (.block ?_))
 refine AWP.seqTo 9 (.bool (decide (v.kind = 4 ∨ op = [43]))) [0, 1, 5, 6] ?_ ?_
 ·-- region 1
  refine .region (.p rfl (zD U24 rfl Z3 (tm rfl)) (.p rfl (zH G3 (tm rfl)) (.p rfl (zR (tm rfl) zE) (.mv rfl rfl ?_))))
  refine zL (t := 13) rfl (fun hg13 => ?_) (fun hg13 => ?_)
  ·have hh13 := hg13; try simp only [aM] at hh13
   refine .gn rfl rfl rfl (by assumption) (.gn rfl rfl rfl (by assumption) (.p rfl (zO (tm rfl) (by assumption) zM) (.as rfl rfl (.nil ?_))))
   exact ⟨rfl, zY rfl (by (refine Eq.symm ?_; exact bH (.inl (by assumption)))) (zC rfl (zC rfl (zC rfl (zC rfl zU)))), rfl⟩
  have hh13 := hg13; try simp only [aL] at hh13
  refine .gp rfl rfl rfl (by assumption) (zJ (tm rfl)) (.gp rfl rfl rfl (by assumption) (yM (tm rfl) (zS rfl)) (.p rfl (zN (tm rfl) (by assumption) (tm rfl)) (.as rfl rfl (.nil ?_))))
  exact ⟨rfl, zY rfl (by (refine Eq.symm ?_; (refine bA.2 ⟨fun q => ?_, fun q => .inr q⟩; rcases q with q | q; exact absurd q (by assumption); exact q))) (zC rfl (zC rfl (zC rfl (zC rfl zU)))), rfl⟩
 refine AWP.sub [(9, _), (0, _), (1, _), (5, _), (6, _)] (zC rfl (zC rfl (zC rfl (zC rfl (zC rfl zU))))) ?_
 refine AWP.cond (tm rfl) (fun hc9 => ?_) (fun hc9 => ?_)
 ·try simp only [aM] at hc9
  refine .sr (.p rfl (zQ G24 Z24 (tm rfl) (lB rfl)) (.e0 (zG Z24 (tm rfl) (tm rfl) rfl rfl (.inr ⟨_, rfl⟩) (oS _ _ _) (lB rfl)) ?_))
  try first | rw [sS] | rw [sU (by assumption)]
  refine .ng ?_
  refine AWP.frz (t := 6) rfl (hb6) ?_
  refine .ret ?_
  refine Block.rt ?_
  refine Next.rt ?_
  refine Ret.go (.cons (.cellI _ _ _ _ rfl G24 Z24 rfl) .nil) _ (hRa _) ?_
  refine ⟨?_, f, hf, (Heap.set_self hb).symm⟩
  unfold akD
  rw [aO hc9]; rfl
 try simp only [aL] at hc9
 refine AWP.seqTo 18 (.bool (decide (op ≠ [45] ∧ op ≠ [37]))) [0, 1, 5, 6] ?_ ?_
 ·-- region 3
  refine .region (.mv rfl rfl (.p rfl (qO (tm rfl) (zS rfl)) (.mv rfl rfl ?_)))
  refine zL (t := 21) rfl (fun hg21 => ?_) (fun hg21 => ?_)
  ·have hh21 := hg21; try simp only [aL, cK] at hh21
   refine .gp rfl rfl rfl (by assumption) (zJ (tm rfl)) (.gp rfl rfl rfl (by assumption) (qO (tm rfl) (zS rfl)) (.p rfl (zO (tm rfl) (by assumption) (tm rfl)) (.as rfl rfl (.nil ?_))))
   exact ⟨rfl, zY rfl (by (refine Eq.symm ?_; (rw [← decide_not]; exact bA.2 ⟨fun q => q.2, fun q => ⟨by assumption, q⟩⟩))) (zC rfl (zC rfl (zC rfl (zC rfl zU)))), rfl⟩
  have hh21 := hg21; try simp only [aM, cJ] at hh21
  refine .gn rfl rfl rfl (by assumption) (.gn rfl rfl rfl (by assumption) (.p rfl (zN (tm rfl) (by assumption) zM) (.as rfl rfl (.nil ?_))))
  exact ⟨rfl, zY rfl (by (refine Eq.symm ?_; exact bG (fun q => q.1 (by assumption)))) (zC rfl (zC rfl (zC rfl (zC rfl zU)))), rfl⟩
 refine AWP.sub [(18, _), (0, _), (1, _), (5, _), (6, _)] (zC rfl (zC rfl (zC rfl (zC rfl (zC rfl zU))))) ?_
 refine AWP.cond (tm rfl) (fun hc18 => ?_) (fun hc18 => ?_)
 ·try simp only [aM, ne_eq] at hc18
  refine .sr (.cl rfl C53 (.cons zE .nil) (aaG _ _) (.e0 (zG Z24 (tm rfl) (tm rfl) rfl rfl (.inr ⟨_, rfl⟩) (oS _ _ _) (lB rfl)) ?_))
  try first | rw [sS] | rw [sU (by assumption)]
  refine .ng ?_
  refine AWP.frz (t := 6) rfl (hb6) ?_
  refine .ret ?_
  refine Block.rt ?_
  refine Next.rt ?_
  refine Ret.go (.cons (.cellI _ _ _ _ rfl G24 Z24 rfl) .nil) _ (hRa _) ?_
  refine ⟨?_, f, hf, (Heap.set_self hb).symm⟩
  unfold akD
  rw [aN hc9, aO hc18]; rfl
 try simp only [aL, ne_eq] at hc18
 have h8b : b6 ≠ b := by rintro rfl; rw [hb6] at hb; cases hb
 refine .skip ?_
 refine Block.go ?_
 refine Next.go ?_
 refine .sr (.mv rfl rfl (.p rfl (zQ G24 Z24 (tm rfl) (lB rfl)) (.s rfl (zF C12 (evs2 rfl rfl) (aaK l hk hg v v_b v_t f hf b _ ((oN _ _ h8b.symm).trans hb))) ?_)))
 rintro _ _ ⟨rfl, f1, hf1, rfl⟩
 rw [Heap.set_comm h8b]
 replace hb6 : (H.set b (.box 189 (aaP f1))).objs b6 = none := (oN _ _ h8b).trans hb6
 refine .mv rfl rfl (.p rfl (zB (tm rfl) rfl) (.p rfl (zB (tm rfl) rfl) (.as rfl rfl (.as rfl rfl (.ng (.seq (.sr (.mv rfl rfl ?_))))))))
 refine .p rfl (qA (tm rfl) zE) (.ng ?_)
 refine AWP.cond (tm rfl) (fun hc33 => ?_) (fun hc33 => ?_)
 ·try simp only [aM, ne_eq] at hc33
  refine .sr (.mv rfl rfl (.cl rfl C53 (evs1 rfl) (aaG _ _) (.e0 (zG Z24 (tm rfl) (tm rfl) rfl rfl (.inr ⟨_, rfl⟩) (oS _ _ _) (lB rfl)) ?_)))
  try first | rw [sS] | rw [sU (by assumption)]
  refine .ng ?_
  refine AWP.frz (t := 6) rfl (hb6) ?_
  refine .ret ?_
  refine Next.rt ?_
  refine Ret.go (.cons (.cellI _ _ _ _ rfl G24 Z24 rfl) .nil) _ (hRa _) ?_
  refine ⟨?_, f1, hf1, rfl⟩
  unfold akD
  rw [aN hc9, aN hc18, aO (by simpa using hc33)]; rfl
 try simp only [aL, ne_eq, cG] at hc33
 refine .skip ?_
 refine Next.go ?_
 refine .seq (.sr (.mv rfl rfl (.p rfl (yM (tm rfl) (zS rfl)) (.ng ?_))))
 refine AWP.cond (tm rfl) (fun hc37 => ?_) (fun hc37 => ?_)
 ·try simp only [aM] at hc37
  refine .sr (.mv rfl rfl (.cl rfl C55 (.cons zE .nil) (aeH 100 (by decide) _) (.cl rfl C54 (evs2 rfl rfl) (agC _ _ htl hhl _) (.cl rfl C35 (evs1 rfl) (qS _ hdl _) (.e0 (zG Z24 (tm rfl) (tm rfl) rfl rfl (.inr ⟨_, rfl⟩) (oS _ _ _) (lB rfl)) ?_)))))
  try first | rw [sS] | rw [sU (by assumption)]
  refine .ng ?_
  refine AWP.frz (t := 6) rfl (hb6) ?_
  refine .ret ?_
  refine Next.rt ?_
  refine Ret.go (.cons (.cellI _ _ _ _ rfl G24 Z24 rfl) .nil) _ (hRa _) ?_
  refine ⟨?_, f1, hf1, rfl⟩
  unfold akD
  rw [aN hc9, aN hc18, aN (by simpa using hc33), aO (by simpa using hc37)]; rfl
 try simp only [aL] at hc37
 refine .skip ?_
 refine Next.go ?_
 refine .sr (.mv rfl rfl (.cl rfl Tryz.call56 (evs1 rfl) (arT _ htl _) (.cl rfl C35 (evs1 rfl) (qS _ hnl _) (.e0 (zG Z24 (tm rfl) (tm rfl) rfl rfl (.inr ⟨_, rfl⟩) (oS _ _ _) (lB rfl)) ?_))))
 try first | rw [sS] | rw [sU (by assumption)]
 refine .ng ?_
 refine AWP.frz (t := 6) rfl (hb6) ?_
 refine .ret ?_
 refine Ret.go (.cons (.cellI _ _ _ _ rfl G24 Z24 rfl) .nil) _ (hRa _) ?_
 refine ⟨?_, f1, hf1, rfl⟩
 unfold akD
 rw [aN hc9, aN hc18, aN (by simpa using hc33), aN (by simpa using hc37)]; rfl

theorem aaA (l : Loc) (hk : l.ok) (hg : l.grp ≠ []) (op : List UInt8) (x : Val) (x_b : x.bits < 18446744073709551616) (x_t : x.text.length ≤ 1000) (u : Val) (u_b : u.bits < 18446744073709551616) (u_t : u.text.length ≤ 1000) (lx : (acE l x).1.length ≤ 1000000) (lu : (acE l u).1.length ≤ 1000000) (f : Nat → List AV) (hf : ROK f) (b : Nat) (H : Heap) (hb : H.objs b = some (.box 189 (aaP f))) : ACall Tryz.prog 22 [opA l b, .str op, x.av, u.av] H (fun y H' => y = (qW l op x u).av ∧ ∃ f', ROK f' ∧ H' = H.set b (.box 189 (aaP f'))) := by
 have hcat : ((acE l x).1 ++ (acE l u).1).length ≤ maxLen := by rw [aS, zW]; omega
 refine ACall.of_body Tryz.func22 rfl Tryz.ntmps22 Tryz.results22 rfl ?_
 refine .sr (.e rfl (zZ (tm rfl) (.inr ⟨_, rfl⟩)) (.e rfl (zZ (tm rfl) (.inr ⟨_, rfl⟩)) ?_))
 refine .al zr24 (fun b8 hb8 => ?_)
 refine .ng (.seq (.block (.seq ?_)))
 have h8b : b8 ≠ b := by rintro rfl; rw [hb8] at hb; cases hb
 refine .region (.p rfl (zD U24 rfl Z3 (tm rfl)) (.p rfl (zH G3 (tm rfl)) (.p rfl (zR (tm rfl) zE) (.as rfl rfl (.ng ?_)))))
 refine AWP.cond (tm rfl) (fun hc14 => ?_) (fun hc14 => ?_)
 ·try simp only [aM] at hc14
  refine .sr (.p rfl (zQ G24 Z24 (tm rfl) (lB rfl)) (.e0 (zG Z24 (tm rfl) (tm rfl) rfl rfl (.inr ⟨_, rfl⟩) (oS _ _ _) (lB rfl)) ?_))
  try first | rw [sS] | rw [sU (by assumption)]
  refine .ng ?_
  refine AWP.frz (t := 8) rfl (hb8) ?_
  refine .ret ?_
  refine Block.rt ?_
  refine Next.rt ?_
  refine Ret.go (.cons (.cellI _ _ _ _ rfl G24 Z24 rfl) .nil) _ (hRa _) ?_
  refine ⟨?_, f, hf, (Heap.set_self hb).symm⟩
  unfold qW
  rw [aO hc14]; rfl
 try simp only [aL] at hc14
 refine .sr (.p rfl (zD U24 rfl Z3 (tm rfl)) (.p rfl (zH G3 (tm rfl)) (.p rfl (zR (tm rfl) zE) (.as rfl rfl (.ng ?_)))))
 refine AWP.cond (tm rfl) (fun hc19 => ?_) (fun hc19 => ?_)
 ·try simp only [aM] at hc19
  refine .sr (.p rfl (zQ G24 Z24 (tm rfl) (lB rfl)) (.e0 (zG Z24 (tm rfl) (tm rfl) rfl rfl (.inr ⟨_, rfl⟩) (oS _ _ _) (lB rfl)) ?_))
  try first | rw [sS] | rw [sU (by assumption)]
  refine .ng ?_
  refine AWP.frz (t := 8) rfl (hb8) ?_
  refine .ret ?_
  refine Block.rt ?_
  refine Next.rt ?_
  refine Ret.go (.cons (.cellI _ _ _ _ rfl G24 Z24 rfl) .nil) _ (hRa _) ?_
  refine ⟨?_, f, hf, (Heap.set_self hb).symm⟩
  unfold qW
  rw [aN hc14, aO hc19]; rfl
 try simp only [aL] at hc19
 refine .skip ?_
 refine Block.go ?_
 refine Next.go ?_
 refine .sr (.mv rfl rfl (.p rfl (zQ G24 Z24 (tm rfl) (lB rfl)) (.p rfl (zQ G24 Z24 (tm rfl) (lB rfl)) (.cl rfl C18 (evs3 rfl rfl rfl) (acC _ x u x_b u_b (by omega) (by omega) _) (.as rfl rfl (.ng (.seq (.sr ?_))))))))
 refine .mv rfl rfl (.ng (.block (.sr (.p rfl (yM (tm rfl) (zS rfl)) (.as rfl rfl (.ng ?_))))))
 refine AWP.cond (tm rfl) (fun hc29 => ?_) (fun hc29 => ?_)
 ·try simp only [aM] at hc29
  refine .sr (.mv rfl rfl (.p rfl (zR (tm rfl) zE) (.cl rfl C61 (evs1 rfl) (adA _ _) (.e0 (zG Z24 (tm rfl) (tm rfl) rfl rfl (.inr ⟨_, rfl⟩) (oS _ _ _) (lB rfl)) ?_))))
  try first | rw [sS] | rw [sU (by assumption)]
  refine .ng ?_
  refine AWP.frz (t := 8) rfl (hb8) ?_
  refine .ret ?_
  refine Block.rt ?_
  refine Next.rt ?_
  refine Ret.go (.cons (.cellI _ _ _ _ rfl G24 Z24 rfl) .nil) _ (hRa _) ?_
  refine ⟨?_, f, hf, (Heap.set_self hb).symm⟩
  unfold qW
  rw [aN hc14, aN hc19, aO hc29]; rfl
 try simp only [aL] at hc29
 refine .sr (.p rfl (yM (tm rfl) (zS rfl)) (.as rfl rfl (.ng ?_)))
 refine AWP.cond (tm rfl) (fun hc34 => ?_) (fun hc34 => ?_)
 ·try simp only [aM] at hc34
  refine .sr (.mv rfl rfl (.p rfl (qA (tm rfl) zE) (.cl rfl C61 (evs1 rfl) (adA _ _) (.e0 (zG Z24 (tm rfl) (tm rfl) rfl rfl (.inr ⟨_, rfl⟩) (oS _ _ _) (lB rfl)) ?_))))
  try first | rw [sS] | rw [sU (by assumption)]
  refine .ng ?_
  refine AWP.frz (t := 8) rfl (hb8) ?_
  refine .ret ?_
  refine Block.rt ?_
  refine Next.rt ?_
  refine Ret.go (.cons (.cellI _ _ _ _ rfl G24 Z24 rfl) .nil) _ (hRa _) ?_
  refine ⟨?_, f, hf, (Heap.set_self hb).symm⟩
  unfold qW
  rw [aN hc14, aN hc19, aN hc29, aO hc34]; rfl
 try simp only [aL] at hc34
 refine .sr (.p rfl (yM (tm rfl) (zS rfl)) (.as rfl rfl (.ng ?_)))
 refine AWP.cond (tm rfl) (fun hc39 => ?_) (fun hc39 => ?_)
 ·try simp only [aM] at hc39
  refine .sr (.mv rfl rfl (.p rfl (yN (tm rfl) zE) (.cl rfl C61 (evs1 rfl) (adA _ _) (.e0 (zG Z24 (tm rfl) (tm rfl) rfl rfl (.inr ⟨_, rfl⟩) (oS _ _ _) (lB rfl)) ?_))))
  try first | rw [sS] | rw [sU (by assumption)]
  refine .ng ?_
  refine AWP.frz (t := 8) rfl (hb8) ?_
  refine .ret ?_
  refine Block.rt ?_
  refine Next.rt ?_
  refine Ret.go (.cons (.cellI _ _ _ _ rfl G24 Z24 rfl) .nil) _ (hRa _) ?_
  refine ⟨?_, f, hf, (Heap.set_self hb).symm⟩
  unfold qW
  rw [aN hc14, aN hc19, aN hc29, aN hc34, aO hc39]; rfl
 try simp only [aL] at hc39
 refine .sr (.p rfl (yM (tm rfl) (zS rfl)) (.as rfl rfl (.ng ?_)))
 refine AWP.cond (tm rfl) (fun hc44 => ?_) (fun hc44 => ?_)
 ·try simp only [aM] at hc44
  refine .sr (.mv rfl rfl (.p rfl (abJ (tm rfl) zE) (.cl rfl C61 (evs1 rfl) (adA _ _) (.e0 (zG Z24 (tm rfl) (tm rfl) rfl rfl (.inr ⟨_, rfl⟩) (oS _ _ _) (lB rfl)) ?_))))
  try first | rw [sS] | rw [sU (by assumption)]
  refine .ng ?_
  refine AWP.frz (t := 8) rfl (hb8) ?_
  refine .ret ?_
  refine Block.rt ?_
  refine Next.rt ?_
  refine Ret.go (.cons (.cellI _ _ _ _ rfl G24 Z24 rfl) .nil) _ (hRa _) ?_
  refine ⟨?_, f, hf, (Heap.set_self hb).symm⟩
  unfold qW
  rw [aN hc14, aN hc19, aN hc29, aN hc34, aN hc39, aO hc44]; rfl
 try simp only [aL] at hc44
 refine .sr (.p rfl (yM (tm rfl) (zS rfl)) (.as rfl rfl (.ng ?_)))
 refine AWP.cond (tm rfl) (fun hc49 => ?_) (fun hc49 => ?_)
 ·try simp only [aM] at hc49
  refine .sr (.mv rfl rfl (.p rfl (yC (tm rfl) zE) (.cl rfl C61 (evs1 rfl) (adA _ _) (.e0 (zG Z24 (tm rfl) (tm rfl) rfl rfl (.inr ⟨_, rfl⟩) (oS _ _ _) (lB rfl)) ?_))))
  try first | rw [sS] | rw [sU (by assumption)]
  refine .ng ?_
  refine AWP.frz (t := 8) rfl (hb8) ?_
  refine .ret ?_
  refine Block.rt ?_
  refine Next.rt ?_
  refine Ret.go (.cons (.cellI _ _ _ _ rfl G24 Z24 rfl) .nil) _ (hRa _) ?_
  refine ⟨?_, f, hf, (Heap.set_self hb).symm⟩
  unfold qW
  rw [aN hc14, aN hc19, aN hc29, aN hc34, aN hc39, aN hc44, aO hc49]; rfl
 try simp only [aL] at hc49
 refine .sr (.p rfl (yM (tm rfl) (zS rfl)) (.as rfl rfl (.ng ?_)))
 refine AWP.cond (tm rfl) (fun hc54 => ?_) (fun hc54 => ?_)
 ·try simp only [aM] at hc54
  refine .sr (.mv rfl rfl (.p rfl (yS (tm rfl) zE) (.cl rfl C61 (evs1 rfl) (adA _ _) (.e0 (zG Z24 (tm rfl) (tm rfl) rfl rfl (.inr ⟨_, rfl⟩) (oS _ _ _) (lB rfl)) ?_))))
  try first | rw [sS] | rw [sU (by assumption)]
  refine .ng ?_
  refine AWP.frz (t := 8) rfl (hb8) ?_
  refine .ret ?_
  refine Block.rt ?_
  refine Next.rt ?_
  refine Ret.go (.cons (.cellI _ _ _ _ rfl G24 Z24 rfl) .nil) _ (hRa _) ?_
  refine ⟨?_, f, hf, (Heap.set_self hb).symm⟩
  unfold qW
  rw [aN hc14, aN hc19, aN hc29, aN hc34, aN hc39, aN hc44, aN hc49, aO hc54]; rfl
 try simp only [aL] at hc54
 refine .sr (.p rfl (yM (tm rfl) (zS rfl)) (.as rfl rfl (.ng ?_)))
 refine AWP.cond (tm rfl) (fun hc59 => ?_) (fun hc59 => ?_)
 ·try simp only [aM] at hc59
  refine .sr (.mv rfl rfl (.p rfl (zQ G24 Z24 (tm rfl) (lB rfl)) (.cl rfl Tryz.call16 (evs2 rfl rfl) (ahT l hk b x x_b x_t _) (.mv rfl rfl (.p rfl (zB (tm rfl) rfl) (.p rfl (zB (tm rfl) rfl) (.as rfl rfl (.as rfl rfl ?_))))))))
  refine .nr (.mv rfl rfl (.p rfl (zQ G24 Z24 (tm rfl) (lB rfl)) (.cl rfl Tryz.call16 (evs2 rfl rfl) (ahT l hk b u u_b u_t _) (.mv rfl rfl (.p rfl (zB (tm rfl) rfl) (.p rfl (zB (tm rfl) rfl) (.as rfl rfl (.as rfl rfl ?_))))))))
  refine .nr (.mv rfl rfl (.mv rfl rfl (.p rfl (yX (tm rfl) (tm rfl) (by rw [← aS]; exact hcat)) (.cl rfl Tryz.call62 (evs1 rfl) (axT _ hcat _) (.e0 (zG Z24 (tm rfl) (tm rfl) rfl rfl (.inr ⟨_, rfl⟩) (oS _ _ _) (lB rfl)) ?_)))))
  try first | rw [sS] | rw [sU (by assumption)]
  refine .ng ?_
  refine AWP.frz (t := 8) rfl (hb8) ?_
  refine .ret ?_
  refine Block.rt ?_
  refine Next.rt ?_
  refine Ret.go (.cons (.cellI _ _ _ _ rfl G24 Z24 rfl) .nil) _ (hRa _) ?_
  refine ⟨?_, f, hf, (Heap.set_self hb).symm⟩
  unfold qW
  rw [aN hc14, aN hc19, aN hc29, aN hc34, aN hc39, aN hc44, aN hc49, aN hc54, aO hc59]; rfl
 try simp only [aL] at hc59
 refine .sr (.p rfl (yM (tm rfl) (zS rfl)) (.as rfl rfl (.ng ?_)))
 refine AWP.cond (tm rfl) (fun hc77 => ?_) (fun hc77 => ?_)
 ·try simp only [aM] at hc77
  refine .sr (.mv rfl rfl (.p rfl (zQ G24 Z24 (tm rfl) (lB rfl)) (.p rfl (zQ G24 Z24 (tm rfl) (lB rfl)) ?_)))
  refine .s rfl (zF C63 (.cons (tm rfl) (.cons (tm rfl) (.cons (tm rfl) (.cons (.func _) .nil)))) (agE l hk hg x x_b x_t u u_b u_t (fun x y => apR (ahQ x y)) 64 Tryz.call64 (fun x y hx hy H => bfR x y hx hy H) f hf b _ ((oN _ _ h8b.symm).trans hb))) ?_
  rintro _ _ ⟨rfl, f1, hf1, rfl⟩
  rw [Heap.set_comm h8b]
  replace hb8 : (H.set b (.box 189 (aaP f1))).objs b8 = none := (oN _ _ h8b).trans hb8
  refine .e0 (zG Z24 (tm rfl) (tm rfl) rfl rfl (.inr ⟨_, rfl⟩) (oS _ _ _) (lB rfl)) ?_
  try first | rw [sS] | rw [sU (by assumption)]
  refine .ng ?_
  refine AWP.frz (t := 8) rfl (hb8) ?_
  refine .ret ?_
  refine Block.rt ?_
  refine Next.rt ?_
  refine Ret.go (.cons (.cellI _ _ _ _ rfl G24 Z24 rfl) .nil) _ (hRa _) ?_
  refine ⟨?_, f1, hf1, rfl⟩
  unfold qW
  rw [aN hc14, aN hc19, aN hc29, aN hc34, aN hc39, aN hc44, aN hc49, aN hc54, aN hc59, aO hc77]; rfl
 try simp only [aL] at hc77
 refine .sr (.p rfl (yM (tm rfl) (zS rfl)) (.as rfl rfl (.ng ?_)))
 refine AWP.cond (tm rfl) (fun hc83 => ?_) (fun hc83 => ?_)
 ·try simp only [aM] at hc83
  refine .sr (.mv rfl rfl (.p rfl (zQ G24 Z24 (tm rfl) (lB rfl)) (.p rfl (zQ G24 Z24 (tm rfl) (lB rfl)) ?_)))
  refine .s rfl (zF C63 (.cons (tm rfl) (.cons (tm rfl) (.cons (tm rfl) (.cons (.func _) .nil)))) (agE l hk hg x x_b x_t u u_b u_t (fun x y => apR (ahQ x (apY y))) 65 Tryz.call65 (fun x y hx hy H => bfO x y hx hy H) f hf b _ ((oN _ _ h8b.symm).trans hb))) ?_
  rintro _ _ ⟨rfl, f1, hf1, rfl⟩
  rw [Heap.set_comm h8b]
  replace hb8 : (H.set b (.box 189 (aaP f1))).objs b8 = none := (oN _ _ h8b).trans hb8
  refine .e0 (zG Z24 (tm rfl) (tm rfl) rfl rfl (.inr ⟨_, rfl⟩) (oS _ _ _) (lB rfl)) ?_
  try first | rw [sS] | rw [sU (by assumption)]
  refine .ng ?_
  refine AWP.frz (t := 8) rfl (hb8) ?_
  refine .ret ?_
  refine Block.rt ?_
  refine Next.rt ?_
  refine Ret.go (.cons (.cellI _ _ _ _ rfl G24 Z24 rfl) .nil) _ (hRa _) ?_
  refine ⟨?_, f1, hf1, rfl⟩
  unfold qW
  rw [aN hc14, aN hc19, aN hc29, aN hc34, aN hc39, aN hc44, aN hc49, aN hc54, aN hc59, aN hc77, aO hc83]; rfl
 try simp only [aL] at hc83
 refine .sr (.p rfl (yM (tm rfl) (zS rfl)) (.as rfl rfl (.ng ?_)))
 refine AWP.cond (tm rfl) (fun hc89 => ?_) (fun hc89 => ?_)
 ·try simp only [aM] at hc89
  refine .sr (.mv rfl rfl (.p rfl (zQ G24 Z24 (tm rfl) (lB rfl)) (.p rfl (zQ G24 Z24 (tm rfl) (lB rfl)) ?_)))
  refine .s rfl (zF C63 (.cons (tm rfl) (.cons (tm rfl) (.cons (tm rfl) (.cons (.func _) .nil)))) (agE l hk hg x x_b x_t u u_b u_t (fun x y => apR (aeA x y)) 66 Tryz.call66 (fun x y hx hy H => bfP x y hx hy H) f hf b _ ((oN _ _ h8b.symm).trans hb))) ?_
  rintro _ _ ⟨rfl, f1, hf1, rfl⟩
  rw [Heap.set_comm h8b]
  replace hb8 : (H.set b (.box 189 (aaP f1))).objs b8 = none := (oN _ _ h8b).trans hb8
  refine .e0 (zG Z24 (tm rfl) (tm rfl) rfl rfl (.inr ⟨_, rfl⟩) (oS _ _ _) (lB rfl)) ?_
  try first | rw [sS] | rw [sU (by assumption)]
  refine .ng ?_
  refine AWP.frz (t := 8) rfl (hb8) ?_
  refine .ret ?_
  refine Block.rt ?_
  refine Next.rt ?_
  refine Ret.go (.cons (.cellI _ _ _ _ rfl G24 Z24 rfl) .nil) _ (hRa _) ?_
  refine ⟨?_, f1, hf1, rfl⟩
  unfold qW
  rw [aN hc14, aN hc19, aN hc29, aN hc34, aN hc39, aN hc44, aN hc49, aN hc54, aN hc59, aN hc77, aN hc83, aO hc89]; rfl
 try simp only [aL] at hc89
 refine .sr (.p rfl (yM (tm rfl) (zS rfl)) (.as rfl rfl (.ng ?_)))
 refine AWP.cond (tm rfl) (fun hc95 => ?_) (fun hc95 => ?_)
 ·try simp only [aM] at hc95
  refine .sr (.mv rfl rfl (.p rfl (zQ G24 Z24 (tm rfl) (lB rfl)) (.p rfl (zQ G24 Z24 (tm rfl) (lB rfl)) ?_)))
  refine .s rfl (zF C63 (.cons (tm rfl) (.cons (tm rfl) (.cons (tm rfl) (.cons (.func _) .nil)))) (agE l hk hg x x_b x_t u u_b u_t divV 67 Tryz.call67 (fun x y hx hy H => bfQ x y hx hy H) f hf b _ ((oN _ _ h8b.symm).trans hb))) ?_
  rintro _ _ ⟨rfl, f1, hf1, rfl⟩
  rw [Heap.set_comm h8b]
  replace hb8 : (H.set b (.box 189 (aaP f1))).objs b8 = none := (oN _ _ h8b).trans hb8
  refine .e0 (zG Z24 (tm rfl) (tm rfl) rfl rfl (.inr ⟨_, rfl⟩) (oS _ _ _) (lB rfl)) ?_
  try first | rw [sS] | rw [sU (by assumption)]
  refine .ng ?_
  refine AWP.frz (t := 8) rfl (hb8) ?_
  refine .ret ?_
  refine Block.rt ?_
  refine Next.rt ?_
  refine Ret.go (.cons (.cellI _ _ _ _ rfl G24 Z24 rfl) .nil) _ (hRa _) ?_
  refine ⟨?_, f1, hf1, rfl⟩
  unfold qW
  rw [aN hc14, aN hc19, aN hc29, aN hc34, aN hc39, aN hc44, aN hc49, aN hc54, aN hc59, aN hc77, aN hc83, aN hc89, aO hc95]; rfl
 try simp only [aL] at hc95
 refine .sr (.p rfl (yM (tm rfl) (zS rfl)) (.as rfl rfl (.ng ?_)))
 refine AWP.cond (tm rfl) (fun hc101 => ?_) (fun hc101 => ?_)
 ·try simp only [aM] at hc101
  refine .sr (.mv rfl rfl (.p rfl (zQ G24 Z24 (tm rfl) (lB rfl)) (.p rfl (zQ G24 Z24 (tm rfl) (lB rfl)) ?_)))
  refine .s rfl (zF C63 (.cons (tm rfl) (.cons (tm rfl) (.cons (tm rfl) (.cons (.func _) .nil)))) (agE l hk hg x x_b x_t u u_b u_t bkA 68 Tryz.call68 (fun x y hx hy H => awC x y hx hy H) f hf b _ ((oN _ _ h8b.symm).trans hb))) ?_
  rintro _ _ ⟨rfl, f1, hf1, rfl⟩
  rw [Heap.set_comm h8b]
  replace hb8 : (H.set b (.box 189 (aaP f1))).objs b8 = none := (oN _ _ h8b).trans hb8
  refine .e0 (zG Z24 (tm rfl) (tm rfl) rfl rfl (.inr ⟨_, rfl⟩) (oS _ _ _) (lB rfl)) ?_
  try first | rw [sS] | rw [sU (by assumption)]
  refine .ng ?_
  refine AWP.frz (t := 8) rfl (hb8) ?_
  refine .ret ?_
  refine Block.rt ?_
  refine Next.rt ?_
  refine Ret.go (.cons (.cellI _ _ _ _ rfl G24 Z24 rfl) .nil) _ (hRa _) ?_
  refine ⟨?_, f1, hf1, rfl⟩
  unfold qW
  rw [aN hc14, aN hc19, aN hc29, aN hc34, aN hc39, aN hc44, aN hc49, aN hc54, aN hc59, aN hc77, aN hc83, aN hc89, aN hc95, aO hc101]; rfl
 try simp only [aL] at hc101
 refine .skip ?_
 refine Block.go ?_
 refine Next.go ?_
 refine .sr (.cl rfl C53 (.cons zE .nil) (aaG _ _) (.e0 (zG Z24 (tm rfl) (tm rfl) rfl rfl (.inr ⟨_, rfl⟩) (oS _ _ _) (lB rfl)) ?_))
 try first | rw [sS] | rw [sU (by assumption)]
 refine .ng ?_
 refine AWP.frz (t := 8) rfl (hb8) ?_
 refine .ret ?_
 refine Ret.go (.cons (.cellI _ _ _ _ rfl G24 Z24 rfl) .nil) _ (hRa _) ?_
 refine ⟨?_, f, hf, (Heap.set_self hb).symm⟩
 unfold qW
 rw [aN hc14, aN hc19, aN hc29, aN hc34, aN hc39, aN hc44, aN hc49, aN hc54, aN hc59, aN hc77, aN hc83, aN hc89, aN hc95, aN hc101]; rfl

end Go.Proofs.YtmmgbnolccpjoaaGreatDoor
