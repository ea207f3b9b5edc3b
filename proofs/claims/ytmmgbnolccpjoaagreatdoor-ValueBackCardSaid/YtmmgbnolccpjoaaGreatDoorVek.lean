import Derived.Test.YtmmgbnolccpjoaaGreatDoorVbk
import Derived.Test.YtmmgbnolccpjoaaGreatDoorB2
namespace Go.Proofs.YtmmgbnolccpjoaaGreatDoor
open Go Go.RowKit
set_option maxRecDepth 100000

theorem bits_64 {neg : Bool} {ds : List UInt8} {e : Int} (hr : qE ds e = true) : acX neg ds e < 18446744073709551616 := by
 have h := auW (qQ hr) e
 unfold acX aaH
 unfold akT at h
 split <;> omega
def num17 (x : Nat) : Val := ⟨1, x, false, [], 0⟩
def txt17 (s : List UInt8) : Val := ⟨3, 0, false, s, 0⟩
theorem back_num {l : Loc} (hl : l.fine) {x : Nat} (hk : yD x < 3) : abB l (txt17 (acE l (num17 x)).1) =
  if yD (acX (adT x 15).1.1 (adT x 15).1.2.1 (adT x 15).1.2.2) = 3 then (0, 3) else (acX (adT x 15).1.1 (adT x 15).1.2.1 (adT x 15).1.2.2, 0) := by
 obtain ⟨kp, bx, h⟩ := bnB hl hk
 show (if (abS l (abT yL (bcX l (adT x 15)))).2 ≠ 0 then ((0 : Nat), (3 : Int)) else ((abS l (abT yL (bcX l (adT x 15)))).1.bits, 0)) = _
 rw [h]
 by_cases q : yD (acX (adT x 15).1.1 (adT x 15).1.2.1 (adT x 15).1.2.2) = 3
 ·rw [aO q, aO q]; rfl
 rw [aN q, aN q]; rfl

theorem azQ (x : Nat) (H : Heap) : ACall Tryz.prog 26 [.int .u64 (x : Int)] H (fun y H' => y = (num17 x).av ∧ H' = H) := by
 refine ACall.of_body Tryz.func26 rfl Tryz.ntmps26 Tryz.results26 rfl ?_
 refine .sr ?_
 refine .al zr24 (fun b2 hb2 => ?_)
 refine .nr (.mv rfl rfl (.p rfl (yK zr24 pl24 (.cons zE (.inl rfl) (.cons (tm rfl) (.inl rfl) .nil)) rfl) (.e0 (zG Z24 (tm rfl) (tm rfl) rfl rfl (.inr ⟨_, rfl⟩) (oS _ _ _) (lB rfl)) ?_)))
 try first | rw [sS] | rw [sU (by assumption)]
 refine .ng ?_
 refine AWP.frz (t := 2) rfl (hb2) ?_
 refine .ret ?_
 refine Ret.go (.cons (.cellI _ _ _ _ rfl G24 Z24 rfl) .nil) _ (hRa _) ?_
 exact ⟨rfl, rfl⟩

theorem axW (x : List UInt8) (H : Heap) : ACall Tryz.prog 27 [.str x] H (fun y H' => y = (txt17 x).av ∧ H' = H) := by
 refine ACall.of_body Tryz.func27 rfl Tryz.ntmps27 Tryz.results27 rfl ?_
 refine .sr ?_
 refine .al zr24 (fun b2 hb2 => ?_)
 refine .nr (.mv rfl rfl (.p rfl (yK zr24 pl24 (.cons zE (.inl rfl) (.cons (tm rfl) (.inl rfl) .nil)) rfl) (.e0 (zG Z24 (tm rfl) (tm rfl) rfl rfl (.inr ⟨_, rfl⟩) (oS _ _ _) (lB rfl)) ?_)))
 try first | rw [sS] | rw [sU (by assumption)]
 refine .ng ?_
 refine AWP.frz (t := 2) rfl (hb2) ?_
 refine .ret ?_
 refine Ret.go (.cons (.cellI _ _ _ _ rfl G24 Z24 rfl) .nil) _ (hRa _) ?_
 exact ⟨rfl, rfl⟩

theorem bnM (hsh : ∀ H, ACall Tryz.prog 8 [] H (fun y H' => y = .bool true ∧ H' = H)) (x : Nat) (hx : x < 18446744073709551616) (c : Int) (hc : -9223372036854775808 ≤ c ∧ c ≤ 9223372036854775807) (H : Heap) : ACall Tryz.prog 6 [.int .u64 (x : Int), .int .i64 c] H (fun y H' => y = .bool true ∧ H' = H) := by
 refine ACall.of_body Tryz.func6 rfl Tryz.ntmps6 Tryz.results6 rfl ?_
 refine .sr (.p rfl (zA zM) (.nr (.cl rfl Tryz.call8 .nil (hsh _) (.as rfl rfl (.ng (.seq (.sr (.mv rfl rfl ?_))))))))
 refine .p rfl (aaB (tm rfl)) (.mv rfl rfl (.gp rfl rfl rfl (by rfl) (zJ (tm rfl)) (.gs rfl rfl rfl (by rfl) (zF C25 (evs1 rfl) (agM _ (by assumption) _)) ?_)))
 rintro _ _ ⟨rfl, hH⟩
 obtain rfl := hH.symm
 refine .gp rfl rfl rfl (by rfl) (yS (tm rfl) zE) (.p rfl (zN (tm rfl) (by rfl) (tm rfl)) (.ng ?_))
 refine AWP.cond (tm rfl) (fun hc23 => ?_) (fun hc23 => ?_)
 ·try simp only [aM] at hc23
  refine .sr (.mv rfl rfl (.as rfl rfl (.ng (.ret ?_))))
  refine Next.rt ?_
  refine Ret.go (.cons (.tmp _ _ rfl) .nil) _ (hRa _) ?_
  exact ⟨rfl, rfl⟩
 try simp only [aL, cA] at hc23
 have hk3 : yD x < 3 := by omega
 refine .skip ?_
 refine Next.go ?_
 refine .sr (.mv rfl rfl (.s rfl (zF Tryz.call10 (evs1 rfl) (azY c hc _)) ?_))
 rintro _ _ ⟨⟨l, hlm, rfl⟩, hH⟩
 obtain rfl := hH.symm
 have hk := abG l hlm
 have hgr := aaJ l hlm
 have hgl := auZ hk hk3
 refine .mv rfl rfl (.p rfl (zB (tm rfl) rfl) (.p rfl (zB (tm rfl) rfl) ?_))
 refine .al zr29 (fun b6 hb6 => ?_)
 refine .al zr31 (fun b7 hb7 => ?_)
 have hn6_7 := Heap.ne_of (oS _ _ _) hb7
 refine .e0 (zG Z29 (tm rfl) (tm rfl) rfl rfl (.inr ⟨_, rfl⟩) ((oN _ _ (by assumption)).trans (oS _ _ _)) (lB rfl)) ?_
 try first | rw [sS] | rw [sU (by assumption)]
 refine .e0 (zG Z31 (tm rfl) (tm rfl) rfl rfl (.inr ⟨_, rfl⟩) (oS _ _ _) (lB rfl)) ?_
 try first | rw [sS] | rw [sU (by assumption)]
 refine .ng ?_
 refine AWP.frz (t := 7) rfl (fS hb7 _) ?_
 refine AWP.frz (t := 6) rfl (hb6) ?_
 refine .sr (.p rfl (zQ G29 Z29 (tm rfl) (lB rfl)) (.s rfl (zF Tryz.call11 (evs1 rfl) (aqE l _)) ?_))
 rintro _ _ ⟨b, hb0, rfl, rfl⟩
 refine .as rfl rfl (.nr (.mv rfl rfl (.mv rfl rfl (.cl rfl C26 (evs1 rfl) (azQ _ _) (.cl rfl Tryz.call16 (evs2 rfl rfl) (ahT l hk b (num17 x) hx (Nat.zero_le _) _) (.mv rfl rfl (.p rfl (zB (tm rfl) rfl) (.p rfl (zB (tm rfl) rfl) ?_))))))))
 refine .as rfl rfl (.as rfl rfl (.nr (.mv rfl rfl (.mv rfl rfl (.cl rfl C27 (evs1 rfl) (axW _ _) ?_)))))
 refine .s rfl (zF C12 (evs2 rfl rfl) (aaK l hk hgr (txt17 (acE l (num17 x)).1) (show (0 : Nat) < 18446744073709551616 by decide) (show (bcX l (adT x 15)).length ≤ 1000 by omega) arO awO b _ (oS _ _ _))) ?_
 rintro _ _ ⟨rfl, f1, hf1, rfl⟩
 rw [sS]
 rw [back_num (blE l hlm) hk3]
 refine .mv rfl rfl (.p rfl (zB (tm rfl) rfl) (.p rfl (zB (tm rfl) rfl) (.as rfl rfl (.as rfl rfl (.nr (.mv rfl rfl (.cl rfl Tryz.call28 (.cons (tm rfl) (.cons zE (.cons zE .nil))) (ayJ x hx 15 (by decide) (by decide) _) (.mv rfl rfl ?_))))))))
 refine .p rfl (zB (tm rfl) rfl) (.p rfl (zB (tm rfl) rfl) ?_)
 refine .al zr58 (fun b13 hb13 => ?_)
 refine .e0 (zG Z58 (tm rfl) (tm rfl) rfl rfl (.inr ⟨_, rfl⟩) (oS _ _ _) (lB rfl)) ?_
 try first | rw [sS] | rw [sU (by assumption)]
 refine .as rfl rfl (.ng ?_)
 refine AWP.frz (t := 13) rfl (hb13) ?_
 refine .sr (.p rfl (zQ G58 Z58 (tm rfl) (lB rfl)) ?_)
 refine .cl rfl Tryz.call29 (evs1 rfl) (avO _ _ _ (aeE x 15) (by have := alZ x 15; omega) _) ?_
 rw [bjP (aeE x 15)]
 refine .as rfl rfl (.ng (.seq (.sr (.mv rfl rfl (.cl rfl C25 (evs1 rfl) (agM _ (bits_64 (aeE x 15)) _) (.p rfl (zR (tm rfl) zE) (.ng ?_)))))))
 refine AWP.cond (tm rfl) (fun hc55 => ?_) (fun hc55 => ?_)
 ·try simp only [aM] at hc55
  have hk4 : yD (acX (adT x 15).1.1 (adT x 15).1.2.1 (adT x 15).1.2.2) = 3 := by omega
  rw [aO hk4]
  refine .sr (.mv rfl rfl (.p rfl (zR (tm rfl) zE) (.mv rfl rfl (.gp rfl rfl rfl (by rfl) (zJ (tm rfl)) (.gp rfl rfl rfl (by rfl) (zR (tm rfl) zE) (.p rfl (zO (tm rfl) (by rfl) (tm rfl)) (.as rfl rfl (.ng ?_))))))))
  refine .ret ?_
  refine Next.rt ?_
  refine Ret.go (.cons (.tmp _ _ rfl) .nil) H (Heap.le_set hb0 _) ?_
  exact ⟨rfl, rfl⟩
 try simp only [aL] at hc55
 have hk4 : ¬ yD (acX (adT x 15).1.1 (adT x 15).1.2.1 (adT x 15).1.2.2) = 3 := by omega
 rw [aN hk4]
 have hq1 : decide ((((acX (adT x 15).1.1 (adT x 15).1.2.1 (adT x 15).1.2.2) : Nat) : Int) = (((acX (adT x 15).1.1 (adT x 15).1.2.1 (adT x 15).1.2.2) : Nat) : Int)) = true := bH rfl
 refine .skip ?_
 refine Next.go ?_
 refine .sr (.mv rfl rfl (.p rfl (zR (tm rfl) zE) (.mv rfl rfl (.gp rfl rfl rfl (by rfl) (zJ (tm rfl)) (.gp rfl rfl rfl (by rfl) (zR (tm rfl) zE) (.p rfl (zO (tm rfl) (by rfl) (tm rfl)) (.mv rfl rfl (.gp rfl rfl rfl (by rfl) (zJ (tm rfl)) ?_))))))))
 refine .gp rfl rfl rfl (by rfl) (zJ (tm rfl)) (.gp rfl rfl rfl (by rfl) (zR (tm rfl) (tm rfl)) (.p rfl (zO (tm rfl) (by rfl) (tm rfl)) (.as rfl rfl (.ng (.ret ?_)))))
 refine Ret.go (.cons (.tmp _ _ rfl) .nil) H (Heap.le_set hb0 _) ?_
 exact ⟨congrArg AV.bool hq1, rfl⟩

end Go.Proofs.YtmmgbnolccpjoaaGreatDoor
