import Derived.Test.YtmmgbnolccpjoaaGreatDoorVbk
namespace Go.Proofs.YtmmgbnolccpjoaaGreatDoor
open Go.Proofs.Tryz
open Go Go.RowKit
set_option maxRecDepth 100000

def enL : Loc := ⟨[101, 110], [46], [44], [44], [45], [37], [36], true, false, 3⟩
def abM (x : Nat) : Val := ⟨1, x, false, [], 0⟩
def agN (s : List UInt8) : Val := ⟨3, 0, false, s, 0⟩
theorem mEn : enL ∈ locs := by simp [locs, enL]
theorem qE {v : Val} (h : agG v = true) : (abB enL v).1.length ≤ 1000000 := bjS mEn h

set_option maxRecDepth 1000000 in
theorem hd0 : qV enL (agN [49, 44, 50, 51, 52, 46, 53]) = (4653144203864309760, 0) := by kernel_rfl

set_option maxRecDepth 1000000 in
theorem hd1 : qV enL (afS true) = (4607182418800017408, 0) := by kernel_rfl

set_option maxRecDepth 1000000 in
theorem hd2 : qV enL (agN [120]) = (0, 3) := by kernel_rfl

set_option maxRecDepth 1000000 in
theorem hd3 : qV enL (aiG 0) = (0, 0) := by kernel_rfl

set_option maxRecDepth 1000000 in
theorem hd4 : aaV (agN [116, 114, 117, 101]) = (true, 0) := by kernel_rfl

set_option maxRecDepth 1000000 in
theorem hd5 : aaV (abM 4602678819172646912) = (true, 0) := by kernel_rfl

set_option maxRecDepth 1000000 in
theorem hd6 : aaV (agN [121, 101, 115]) = (false, 3) := by kernel_rfl

set_option maxRecDepth 1000000 in
theorem hd7 : aaZ (agN [97]) (agN [66]) = -1 := by kernel_rfl

set_option maxRecDepth 1000000 in
theorem hd8 : aaZ (abM 4611686018427387904) (agN [49]) = -1 := by kernel_rfl

set_option maxRecDepth 1000000 in
theorem hd9 : aaZ (afS true) (agN [122]) = 1 := by kernel_rfl

set_option maxRecDepth 1000000 in
theorem hd10 : aaZ (aiG 0) (agN []) = 0 := by kernel_rfl

set_option maxRecDepth 1000000 in
theorem hd11 : aaZ (aiG 0) (abM 13830554455654793216) = 1 := by kernel_rfl

set_option maxRecDepth 1000000 in
theorem hd12 : qK enL [43] (agN [53]) (abM 4607182418800017408) = abM 4618441417868443648 := by kernel_rfl

set_option maxRecDepth 1000000 in
theorem hd13 : qK enL [47] (abM 4607182418800017408) (abM 0) = qB 2 := by kernel_rfl

set_option maxRecDepth 1000000 in
theorem hd14 : qK enL [94] (abM 4611686018427387904) (abM 13830554455654793216) = abM 4602678819172646912 := by kernel_rfl

set_option maxRecDepth 1000000 in
theorem hd15 : qK enL [94] (abM 0) (abM 0) = qB 6 := by kernel_rfl

set_option maxRecDepth 1000000 in
theorem hd16 : qK enL [94] (abM 4616189618054758400) (abM 4602678819172646912) = abM 4611686018427387904 := by kernel_rfl

set_option maxRecDepth 1000000 in
theorem hd17 : qK enL [94] (abM 4611686018427387904) (abM 4599075939470750515) = qB 6 := by kernel_rfl

set_option maxRecDepth 1000000 in
theorem hd18 : qK enL [94] (abM 13844065254536904704) (abM 4602678819172646912) = qB 6 := by kernel_rfl

set_option maxRecDepth 1000000 in
theorem hd19 : qK enL [42] (abM 7598952565167317594) (abM 7598952565167317594) = qB 6 := by kernel_rfl

set_option maxRecDepth 1000000 in
theorem hd20 : qK enL [38] (abM 4607182418800017408) (afS true) = agN [49, 84, 82, 85, 69] := by kernel_rfl

set_option maxRecDepth 1000000 in
theorem hd21 : qK enL [38] (agN [49, 84, 82, 85, 69]) (agN [97]) = agN [49, 84, 82, 85, 69, 97] := by kernel_rfl

set_option maxRecDepth 1000000 in
theorem hd22 : qK enL [61] (agN [97]) (agN [65]) = afS true := by kernel_rfl

set_option maxRecDepth 1000000 in
theorem hd23 : qK enL [43] (qB 7) (qB 4) = qB 7 := by kernel_rfl

set_option maxRecDepth 1000000 in
theorem hd24 : amI enL [45] (agN [120]) = qB 3 := by kernel_rfl

set_option maxRecDepth 1000000 in
theorem hd25 : amI enL [37] (abM 4632233691727265792) = abM 4602678819172646912 := by kernel_rfl

theorem hdI : asP 9218868437227405312 = qB 6 := by decide
attribute [local irreducible] qK amI aaZ qV aaV asP

theorem yV (x : Nat) (H : Heap) : ACall prog 26 [.int .u64 (x : Int)] H (fun y H' => y = (abM x).av ∧ H' = H) := by
 refine ACall.of_body func26 rfl ntmps26 results26 rfl ?_
 refine .sr ?_
 refine .al zr24 (fun b2 hb2 => ?_)
 refine .nr (.mv rfl rfl (.p rfl (yB zr24 pl24 (.cons zH (.inl rfl) (.cons (tm rfl) (.inl rfl) .nil)) rfl) (.e0 (zP Z24 (tm rfl) (tm rfl) rfl rfl (.inr ⟨_, rfl⟩) (oS _ _ _) (lB rfl)) ?_)))
 try first | rw [sS] | rw [sU aB]
 refine .ng ?_
 refine AWP.frz (t := 2) rfl (hb2) ?_
 refine .ret ?_
 refine Ret.go (.cons (.cellI _ _ _ _ rfl G24 Z24 rfl) .nil) _ (hRa _) ?_
 exact ⟨rfl, rfl⟩

theorem aaH (s : List UInt8) (H : Heap) : ACall prog 27 [.str s] H (fun y H' => y = (agN s).av ∧ H' = H) := by
 refine ACall.of_body func27 rfl ntmps27 results27 rfl ?_
 refine .sr ?_
 refine .al zr24 (fun b2 hb2 => ?_)
 refine .nr (.mv rfl rfl (.p rfl (yB zr24 pl24 (.cons zH (.inl rfl) (.cons (tm rfl) (.inl rfl) .nil)) rfl) (.e0 (zP Z24 (tm rfl) (tm rfl) rfl rfl (.inr ⟨_, rfl⟩) (oS _ _ _) (lB rfl)) ?_)))
 try first | rw [sS] | rw [sU aB]
 refine .ng ?_
 refine AWP.frz (t := 2) rfl (hb2) ?_
 refine .ret ?_
 refine Ret.go (.cons (.cellI _ _ _ _ rfl G24 Z24 rfl) .nil) _ (hRa _) ?_
 exact ⟨rfl, rfl⟩

theorem abS (n : Int) (H : Heap) : ACall prog 33 [.int .i64 n] H (fun y H' => y = (qB n).av ∧ H' = H) := by
 refine ACall.of_body func33 rfl ntmps33 results33 rfl ?_
 refine .sr ?_
 refine .al zr24 (fun b2 hb2 => ?_)
 refine .nr (.mv rfl rfl (.p rfl (yB zr24 pl24 (.cons zH (.inl rfl) (.cons (tm rfl) (.inl rfl) .nil)) rfl) (.e0 (zP Z24 (tm rfl) (tm rfl) rfl rfl (.inr ⟨_, rfl⟩) (oS _ _ _) (lB rfl)) ?_)))
 try first | rw [sS] | rw [sU aB]
 refine .ng ?_
 refine AWP.frz (t := 2) rfl (hb2) ?_
 refine .ret ?_
 refine Ret.go (.cons (.cellI _ _ _ _ rfl G24 Z24 rfl) .nil) _ (hRa _) ?_
 exact ⟨rfl, rfl⟩

theorem aoY (b : Bool) (H : Heap) : ACall prog 34 [.bool b] H (fun y H' => y = (afS b).av ∧ H' = H) := by
 refine ACall.of_body func34 rfl ntmps34 results34 rfl ?_
 refine .sr ?_
 refine .al zr24 (fun b2 hb2 => ?_)
 refine .nr (.mv rfl rfl (.p rfl (yB zr24 pl24 (.cons zH (.inl rfl) (.cons (tm rfl) (.inl rfl) .nil)) rfl) (.e0 (zP Z24 (tm rfl) (tm rfl) rfl rfl (.inr ⟨_, rfl⟩) (oS _ _ _) (lB rfl)) ?_)))
 try first | rw [sS] | rw [sU aB]
 refine .ng ?_
 refine AWP.frz (t := 2) rfl (hb2) ?_
 refine .ret ?_
 refine Ret.go (.cons (.cellI _ _ _ _ rfl G24 Z24 rfl) .nil) _ (hRa _) ?_
 exact ⟨rfl, rfl⟩

theorem bcZ (f : Nat → List AV) (hf : ROK f) (b : Nat) (H : Heap) (hb : H.objs b = some (.box 189 (aaJ f))) : ACall prog 32 [opA enL b] H (fun y H' => y = .bool true ∧ ∃ f', ROK f' ∧ H' = H.set b (.box 189 (aaJ f'))) := by
 refine ACall.of_body func32 rfl ntmps32 results32 rfl ?_
 refine .sr (.p rfl (zG yH) (.nr (.mv rfl rfl (.cl rfl C27 (.cons (zR rfl) .nil) (aaH _ _) (.s rfl (zB C12 (evs2 rfl rfl) (aaE enL (abF _ mEn) (aaC _ mEn) (agN [49, 44, 50, 51, 52, 46, 53]) aC aC f hf b _ (hb))) ?_)))))
 rintro _ _ ⟨rfl, f1, hf1, rfl⟩
 try rw [sS]
 rw [hd0]
 refine .mv rfl rfl (.p rfl (zW (tm rfl) rfl) (.p rfl (zW (tm rfl) rfl) (.as rfl rfl (.as rfl rfl (.nr (.mv rfl rfl (.cl rfl C34 (.cons yH .nil) (aoY _ _) (.s rfl (zB C12 (evs2 rfl rfl) (aaE enL (abF _ mEn) (aaC _ mEn) (afS true) aC aC f1 hf1 b _ (oS _ _ _))) ?_))))))))
 rintro _ _ ⟨rfl, f2, hf2, rfl⟩
 try rw [sS]
 rw [hd1]
 refine .mv rfl rfl (.p rfl (zW (tm rfl) rfl) (.p rfl (zW (tm rfl) rfl) (.as rfl rfl (.as rfl rfl (.nr (.mv rfl rfl (.cl rfl C27 (.cons (zR rfl) .nil) (aaH _ _) (.s rfl (zB C12 (evs2 rfl rfl) (aaE enL (abF _ mEn) (aaC _ mEn) (agN [120]) aC aC f2 hf2 b _ (oS _ _ _))) ?_))))))))
 rintro _ _ ⟨rfl, f3, hf3, rfl⟩
 try rw [sS]
 rw [hd2]
 refine .mv rfl rfl (.p rfl (zW (tm rfl) rfl) (.p rfl (zW (tm rfl) rfl) (.as rfl rfl (.as rfl rfl (.nr (.mv rfl rfl (.p rfl (yB zr24 pl24 .nil rfl) (.s rfl (zB C12 (evs2 rfl rfl) (aaE enL (abF _ mEn) (aaC _ mEn) (aiG 0) aC aC f3 hf3 b _ (oS _ _ _))) ?_))))))))
 rintro _ _ ⟨rfl, f4, hf4, rfl⟩
 try rw [sS]
 rw [hd3]
 refine .mv rfl rfl (.p rfl (zW (tm rfl) rfl) (.p rfl (zW (tm rfl) rfl) (.as rfl rfl (.as rfl rfl (.nr (.mv rfl rfl (.cl rfl C27 (.cons (zR rfl) .nil) (aaH _ _) (.cl rfl C14 (evs2 rfl rfl) (agF _ (agN [116, 114, 117, 101]) aC aC _) ?_))))))))
 rw [hd4]
 refine .mv rfl rfl (.p rfl (zW (tm rfl) rfl) (.p rfl (zW (tm rfl) rfl) (.as rfl rfl (.as rfl rfl (.nr (.mv rfl rfl (.cl rfl C26 (.cons zH .nil) (yV _ _) (.cl rfl C14 (evs2 rfl rfl) (agF _ (abM 4602678819172646912) aC aC _) ?_))))))))
 rw [hd5]
 refine .mv rfl rfl (.p rfl (zW (tm rfl) rfl) (.p rfl (zW (tm rfl) rfl) (.as rfl rfl (.as rfl rfl (.nr (.mv rfl rfl (.cl rfl C27 (.cons (zR rfl) .nil) (aaH _ _) (.cl rfl C14 (evs2 rfl rfl) (agF _ (agN [121, 101, 115]) aC aC _) ?_))))))))
 rw [hd6]
 refine .mv rfl rfl (.p rfl (zW (tm rfl) rfl) (.p rfl (zW (tm rfl) rfl) (.as rfl rfl (.as rfl rfl (.ng (.seq (.sr (.mv rfl rfl ?_))))))))
 refine .p rfl (abT (tm rfl) zH) (.mv rfl rfl (.gp rfl rfl rfl aD (zM (tm rfl)) (.gp rfl rfl rfl aD (abT (tm rfl) zH) (.p rfl (qD (tm rfl) aD (tm rfl)) (.mv rfl rfl (.gp rfl rfl rfl aD (zM (tm rfl)) (.gp rfl rfl rfl aD (abT (tm rfl) zH) (.p rfl (qD (tm rfl) aD (tm rfl)) ?_))))))))
 refine .mv rfl rfl (.gp rfl rfl rfl aD (zM (tm rfl)) (.gp rfl rfl rfl aD (abT (tm rfl) zH) (.p rfl (qD (tm rfl) aD (tm rfl)) (.mv rfl rfl (.gp rfl rfl rfl aD (zM (tm rfl)) (.gp rfl rfl rfl aD (abT (tm rfl) zH) (.p rfl (qD (tm rfl) aD (tm rfl)) (.mv rfl rfl ?_))))))))
 refine .gp rfl rfl rfl aD (zM (tm rfl)) (.gp rfl rfl rfl aD (abT (tm rfl) zH) (.p rfl (qD (tm rfl) aD (tm rfl)) (.mv rfl rfl (.gp rfl rfl rfl aD (zM (tm rfl)) (.gp rfl rfl rfl aD (abT (tm rfl) zH) (.p rfl (qD (tm rfl) aD (tm rfl)) (.mv rfl rfl (.gp rfl rfl rfl aD (zM (tm rfl)) ?_))))))))
 refine .gp rfl rfl rfl aD (abT (tm rfl) zH) (.p rfl (qD (tm rfl) aD (tm rfl)) (.mv rfl rfl (.gp rfl rfl rfl aD (zM (tm rfl)) (.gp rfl rfl rfl aD (awX (tm rfl)) (.p rfl (qD (tm rfl) aD (tm rfl)) (.mv rfl rfl (.gp rfl rfl rfl aD (zM (tm rfl)) (.gp rfl rfl rfl aD (abT (tm rfl) zH) ?_))))))))
 refine .p rfl (qD (tm rfl) aD (tm rfl)) (.mv rfl rfl (.gp rfl rfl rfl aD (zM (tm rfl)) (.gp rfl rfl rfl aD (awX (tm rfl)) (.p rfl (qD (tm rfl) aD (tm rfl)) (.mv rfl rfl (.gp rfl rfl rfl aD (zM (tm rfl)) (.gp rfl rfl rfl aD (abT (tm rfl) zH) (.p rfl (qD (tm rfl) aD (tm rfl)) ?_))))))))
 refine .mv rfl rfl (.gp rfl rfl rfl aD (zM (tm rfl)) (.gp rfl rfl rfl aD (abT (tm rfl) zH) (.p rfl (qD (tm rfl) aD (tm rfl)) (.ng ?_))))
 refine AWP.cond_false (tm rfl) aD ?_
 refine .skip ?_
 refine Next.go ?_
 refine .sr (.mv rfl rfl (.cl rfl C27 (.cons (zR rfl) .nil) (aaH _ _) (.cl rfl C27 (.cons (zR rfl) .nil) (aaH _ _) (.cl rfl C18 (evs3 rfl rfl rfl) (acH _ (agN [97]) (agN [66]) aC aC aC aC _) ?_))))
 rw [hd7]
 refine .p rfl (yO (tm rfl) zH) (.mv rfl rfl (.gp rfl rfl rfl aD (zM (tm rfl)) (.gs rfl rfl rfl aD (zB C26 (.cons zH .nil) (yV _ _)) ?_)))
 rintro _ _ ⟨rfl, hH⟩
 obtain rfl := hH.symm
 refine .gs rfl rfl rfl aD (zB C27 (.cons (zR rfl) .nil) (aaH _ _)) ?_
 rintro _ _ ⟨rfl, hH⟩
 obtain rfl := hH.symm
 refine .gs rfl rfl rfl aD (zB C18 (evs3 rfl rfl rfl) (acH _ (abM 4611686018427387904) (agN [49]) aC aC aC aC _)) ?_
 rintro _ _ ⟨rfl, hH⟩
 obtain rfl := hH.symm
 rw [hd8]
 refine .gp rfl rfl rfl aD (yO (tm rfl) zH) (.p rfl (yM (tm rfl) aD (tm rfl)) (.mv rfl rfl (.gp rfl rfl rfl aD (zM (tm rfl)) (.gs rfl rfl rfl aD (zB C34 (.cons yH .nil) (aoY _ _)) ?_))))
 rintro _ _ ⟨rfl, hH⟩
 obtain rfl := hH.symm
 refine .gs rfl rfl rfl aD (zB C27 (.cons (zR rfl) .nil) (aaH _ _)) ?_
 rintro _ _ ⟨rfl, hH⟩
 obtain rfl := hH.symm
 refine .gs rfl rfl rfl aD (zB C18 (evs3 rfl rfl rfl) (acH _ (afS true) (agN [122]) aC aC aC aC _)) ?_
 rintro _ _ ⟨rfl, hH⟩
 obtain rfl := hH.symm
 rw [hd9]
 refine .gp rfl rfl rfl aD (yO (tm rfl) zH) (.p rfl (yM (tm rfl) aD (tm rfl)) (.mv rfl rfl (.gp rfl rfl rfl aD (zM (tm rfl)) (.gp rfl rfl rfl aD (yB zr24 pl24 .nil rfl) (.gs rfl rfl rfl aD (zB C27 (.cons (zR rfl) .nil) (aaH _ _)) ?_)))))
 rintro _ _ ⟨rfl, hH⟩
 obtain rfl := hH.symm
 refine .gs rfl rfl rfl aD (zB C18 (evs3 rfl rfl rfl) (acH _ (aiG 0) (agN []) aC aC aC aC _)) ?_
 rintro _ _ ⟨rfl, hH⟩
 obtain rfl := hH.symm
 rw [hd10]
 refine .gp rfl rfl rfl aD (yO (tm rfl) zH) (.p rfl (yM (tm rfl) aD (tm rfl)) (.mv rfl rfl (.gp rfl rfl rfl aD (zM (tm rfl)) (.gp rfl rfl rfl aD (yB zr24 pl24 .nil rfl) (.gs rfl rfl rfl aD (zB C26 (.cons zH .nil) (yV _ _)) ?_)))))
 rintro _ _ ⟨rfl, hH⟩
 obtain rfl := hH.symm
 refine .gs rfl rfl rfl aD (zB C18 (evs3 rfl rfl rfl) (acH _ (aiG 0) (abM 13830554455654793216) aC aC aC aC _)) ?_
 rintro _ _ ⟨rfl, hH⟩
 obtain rfl := hH.symm
 rw [hd11]
 refine .gp rfl rfl rfl aD (yO (tm rfl) zH) (.p rfl (yM (tm rfl) aD (tm rfl)) (.as rfl rfl (.ng (.ret ?_))))
 refine Ret.go (.cons (.tmp _ _ rfl) .nil) _ (hRa _) ?_
 exact ⟨rfl, f4, hf4, rfl⟩

theorem bmA (H : Heap) : ACall prog 8 [] H (fun y H' => y = .bool true ∧ H' = H) := by
 have k23 : decide (abM 4618441417868443648 = abM 4618441417868443648) = true := bG rfl
 have k30 : decide (qB 2 = qB 2) = true := bG rfl
 have k38 : decide (abM 4602678819172646912 = abM 4602678819172646912) = true := bG rfl
 have k46 : decide (qB 6 = qB 6) = true := bG rfl
 have k53 : decide (abM 4611686018427387904 = abM 4611686018427387904) = true := bG rfl
 have k60 : decide (qB 6 = qB 6) = true := bG rfl
 have k68 : decide (qB 6 = qB 6) = true := bG rfl
 have k76 : decide (qB 6 = qB 6) = true := bG rfl
 have k86 : decide (agN [49, 84, 82, 85, 69, 97] = agN [49, 84, 82, 85, 69, 97]) = true := bG rfl
 have k92 : decide (qB 3 = qB 3) = true := bG rfl
 have k99 : decide (abM 4602678819172646912 = abM 4602678819172646912) = true := bG rfl
 have k107 : decide (afS true = afS true) = true := bG rfl
 have k115 : decide (qB 7 = qB 7) = true := bG rfl
 have k130 : decide (qB 6 = qB 6) = true := bG rfl
 refine ACall.of_body func8 rfl ntmps8 results8 rfl ?_
 refine .sr (.p rfl (zG yH) (.nr ?_))
 refine .cl rfl call31 (.cons (zR rfl) .nil) (avD (l := enL) mEn _) ?_
 refine .mv rfl rfl (.p rfl (zW (tm rfl) rfl) (.p rfl (zW (tm rfl) rfl) ?_))
 refine .al zr29 (fun b1 hb1 => ?_)
 refine .e0 (zP Z29 (tm rfl) (tm rfl) rfl rfl (.inr ⟨_, rfl⟩) (oS _ _ _) (lB rfl)) ?_
 try first | rw [sS] | rw [sU aB]
 refine .as rfl rfl (.ng ?_)
 refine AWP.frz (t := 1) rfl (hb1) ?_
 refine .sr (.p rfl (agV G29 Z29 (tm rfl) (lB rfl)) (.s rfl (zB call11 (evs1 rfl) (atL enL _)) ?_))
 rintro _ _ ⟨b, hb0, rfl, rfl⟩
 refine .as rfl rfl (.ng (.seq (.sr (.mv rfl rfl (.p rfl (bkY underlying34 (tm rfl) amB) (.ng ?_))))))
 refine AWP.cond_false (tm rfl) aD ?_
 refine .skip ?_
 refine Next.go ?_
 refine .sr (.mv rfl rfl (.s rfl (zB call32 (evs1 rfl) (bcZ avA bbD b _ (oS _ _ _))) ?_))
 rintro _ _ ⟨rfl, f0, hf0, rfl⟩
 rw [sS]
 refine .as rfl rfl (.nr (.mv rfl rfl (.cl rfl C27 (.cons (zR rfl) .nil) (aaH _ _) (.cl rfl C26 (.cons zH .nil) (yV _ _) ?_))))
 refine .s rfl (zB C22 (.cons (tm rfl) (.cons (zR rfl) (evs2 rfl rfl))) (qP enL (abF _ mEn) (aaC _ mEn) [43] (agN [53]) aC aC (abM 4607182418800017408) aC aC (qE (v := agN [53]) aE) (qE (v := abM 4607182418800017408) aE) f0 hf0 b _ (oS _ _ _))) ?_
 rintro _ _ ⟨rfl, f1, hf1, rfl⟩
 try rw [sS]
 rw [hd12]
 refine .cl rfl C26 (.cons zH .nil) (yV _ _) ?_
 refine .p rfl (qI eqGuardType24 (tm rfl) (tm rfl) (eqVal (abM 4618441417868443648) (abM 4618441417868443648))) ?_
 refine .mv rfl rfl (.gp rfl rfl rfl aD (zM (tm rfl)) (.gs rfl rfl rfl aD (zB C26 (.cons zH .nil) (yV _ _)) ?_))
 rintro _ _ ⟨rfl, hH⟩
 obtain rfl := hH.symm
 refine .gs rfl rfl rfl aD (zB C26 (.cons zH .nil) (yV _ _)) ?_
 rintro _ _ ⟨rfl, hH⟩
 obtain rfl := hH.symm
 refine .gs rfl rfl rfl aD (zB C22 (.cons (tm rfl) (.cons (zR rfl) (evs2 rfl rfl))) (qP enL (abF _ mEn) (aaC _ mEn) [47] (abM 4607182418800017408) aC aC (abM 0) aC aC (qE (v := abM 4607182418800017408) aE) (qE (v := abM 0) aE) f1 hf1 b _ (oS _ _ _))) ?_
 rintro _ _ ⟨rfl, f2, hf2, rfl⟩
 try rw [sS]
 rw [hd13]
 refine .gs rfl rfl rfl aD (zB C33 (.cons zH .nil) (abS _ _)) ?_
 rintro _ _ ⟨rfl, hH⟩
 obtain rfl := hH.symm
 refine .gp rfl rfl rfl aD (qI eqGuardType24 (tm rfl) (tm rfl) (eqVal (qB 2) (qB 2))) ?_
 refine .p rfl (yM (tm rfl) aD (tm rfl)) (.mv rfl rfl (.gp rfl rfl rfl aD (zM (tm rfl)) (.gs rfl rfl rfl aD (zB C26 (.cons zH .nil) (yV _ _)) ?_)))
 rintro _ _ ⟨rfl, hH⟩
 obtain rfl := hH.symm
 refine .gs rfl rfl rfl aD (zB C26 (.cons zH .nil) (yV _ _)) ?_
 rintro _ _ ⟨rfl, hH⟩
 obtain rfl := hH.symm
 refine .gs rfl rfl rfl aD (zB C22 (.cons (tm rfl) (.cons (zR rfl) (evs2 rfl rfl))) (qP enL (abF _ mEn) (aaC _ mEn) [94] (abM 4611686018427387904) aC aC (abM 13830554455654793216) aC aC (qE (v := abM 4611686018427387904) aE) (qE (v := abM 13830554455654793216) aE) f2 hf2 b _ (oS _ _ _))) ?_
 rintro _ _ ⟨rfl, f3, hf3, rfl⟩
 try rw [sS]
 rw [hd14]
 refine .gs rfl rfl rfl aD (zB C26 (.cons zH .nil) (yV _ _)) ?_
 rintro _ _ ⟨rfl, hH⟩
 obtain rfl := hH.symm
 refine .gp rfl rfl rfl aD (qI eqGuardType24 (tm rfl) (tm rfl) (eqVal (abM 4602678819172646912) (abM 4602678819172646912))) ?_
 refine .p rfl (yM (tm rfl) aD (tm rfl)) (.mv rfl rfl (.gp rfl rfl rfl aD (zM (tm rfl)) (.gs rfl rfl rfl aD (zB C26 (.cons zH .nil) (yV _ _)) ?_)))
 rintro _ _ ⟨rfl, hH⟩
 obtain rfl := hH.symm
 refine .gs rfl rfl rfl aD (zB C26 (.cons zH .nil) (yV _ _)) ?_
 rintro _ _ ⟨rfl, hH⟩
 obtain rfl := hH.symm
 refine .gs rfl rfl rfl aD (zB C22 (.cons (tm rfl) (.cons (zR rfl) (evs2 rfl rfl))) (qP enL (abF _ mEn) (aaC _ mEn) [94] (abM 0) aC aC (abM 0) aC aC (qE (v := abM 0) aE) (qE (v := abM 0) aE) f3 hf3 b _ (oS _ _ _))) ?_
 rintro _ _ ⟨rfl, f4, hf4, rfl⟩
 try rw [sS]
 rw [hd15]
 refine .gs rfl rfl rfl aD (zB C33 (.cons zH .nil) (abS _ _)) ?_
 rintro _ _ ⟨rfl, hH⟩
 obtain rfl := hH.symm
 refine .gp rfl rfl rfl aD (qI eqGuardType24 (tm rfl) (tm rfl) (eqVal (qB 6) (qB 6))) ?_
 refine .p rfl (yM (tm rfl) aD (tm rfl)) (.as rfl rfl (.nr (.mv rfl rfl (.cl rfl C26 (.cons zH .nil) (yV _ _) (.cl rfl C26 (.cons zH .nil) (yV _ _) ?_)))))
 refine .s rfl (zB C22 (.cons (tm rfl) (.cons (zR rfl) (evs2 rfl rfl))) (qP enL (abF _ mEn) (aaC _ mEn) [94] (abM 4616189618054758400) aC aC (abM 4602678819172646912) aC aC (qE (v := abM 4616189618054758400) aE) (qE (v := abM 4602678819172646912) aE) f4 hf4 b _ (oS _ _ _))) ?_
 rintro _ _ ⟨rfl, f5, hf5, rfl⟩
 try rw [sS]
 rw [hd16]
 refine .cl rfl C26 (.cons zH .nil) (yV _ _) ?_
 refine .p rfl (qI eqGuardType24 (tm rfl) (tm rfl) (eqVal (abM 4611686018427387904) (abM 4611686018427387904))) ?_
 refine .mv rfl rfl (.gp rfl rfl rfl aD (zM (tm rfl)) (.gs rfl rfl rfl aD (zB C26 (.cons zH .nil) (yV _ _)) ?_))
 rintro _ _ ⟨rfl, hH⟩
 obtain rfl := hH.symm
 refine .gs rfl rfl rfl aD (zB C26 (.cons zH .nil) (yV _ _)) ?_
 rintro _ _ ⟨rfl, hH⟩
 obtain rfl := hH.symm
 refine .gs rfl rfl rfl aD (zB C22 (.cons (tm rfl) (.cons (zR rfl) (evs2 rfl rfl))) (qP enL (abF _ mEn) (aaC _ mEn) [94] (abM 4611686018427387904) aC aC (abM 4599075939470750515) aC aC (qE (v := abM 4611686018427387904) aE) (qE (v := abM 4599075939470750515) aE) f5 hf5 b _ (oS _ _ _))) ?_
 rintro _ _ ⟨rfl, f6, hf6, rfl⟩
 try rw [sS]
 rw [hd17]
 refine .gs rfl rfl rfl aD (zB C33 (.cons zH .nil) (abS _ _)) ?_
 rintro _ _ ⟨rfl, hH⟩
 obtain rfl := hH.symm
 refine .gp rfl rfl rfl aD (qI eqGuardType24 (tm rfl) (tm rfl) (eqVal (qB 6) (qB 6))) ?_
 refine .p rfl (yM (tm rfl) aD (tm rfl)) (.mv rfl rfl (.gp rfl rfl rfl aD (zM (tm rfl)) (.gs rfl rfl rfl aD (zB C26 (.cons zH .nil) (yV _ _)) ?_)))
 rintro _ _ ⟨rfl, hH⟩
 obtain rfl := hH.symm
 refine .gs rfl rfl rfl aD (zB C26 (.cons zH .nil) (yV _ _)) ?_
 rintro _ _ ⟨rfl, hH⟩
 obtain rfl := hH.symm
 refine .gs rfl rfl rfl aD (zB C22 (.cons (tm rfl) (.cons (zR rfl) (evs2 rfl rfl))) (qP enL (abF _ mEn) (aaC _ mEn) [94] (abM 13844065254536904704) aC aC (abM 4602678819172646912) aC aC (qE (v := abM 13844065254536904704) aE) (qE (v := abM 4602678819172646912) aE) f6 hf6 b _ (oS _ _ _))) ?_
 rintro _ _ ⟨rfl, f7, hf7, rfl⟩
 try rw [sS]
 rw [hd18]
 refine .gs rfl rfl rfl aD (zB C33 (.cons zH .nil) (abS _ _)) ?_
 rintro _ _ ⟨rfl, hH⟩
 obtain rfl := hH.symm
 refine .gp rfl rfl rfl aD (qI eqGuardType24 (tm rfl) (tm rfl) (eqVal (qB 6) (qB 6))) ?_
 refine .p rfl (yM (tm rfl) aD (tm rfl)) (.mv rfl rfl (.gp rfl rfl rfl aD (zM (tm rfl)) (.gs rfl rfl rfl aD (zB C26 (.cons zH .nil) (yV _ _)) ?_)))
 rintro _ _ ⟨rfl, hH⟩
 obtain rfl := hH.symm
 refine .gs rfl rfl rfl aD (zB C26 (.cons zH .nil) (yV _ _)) ?_
 rintro _ _ ⟨rfl, hH⟩
 obtain rfl := hH.symm
 refine .gs rfl rfl rfl aD (zB C22 (.cons (tm rfl) (.cons (zR rfl) (evs2 rfl rfl))) (qP enL (abF _ mEn) (aaC _ mEn) [42] (abM 7598952565167317594) aC aC (abM 7598952565167317594) aC aC (qE (v := abM 7598952565167317594) aE) (qE (v := abM 7598952565167317594) aE) f7 hf7 b _ (oS _ _ _))) ?_
 rintro _ _ ⟨rfl, f8, hf8, rfl⟩
 try rw [sS]
 rw [hd19]
 refine .gs rfl rfl rfl aD (zB C33 (.cons zH .nil) (abS _ _)) ?_
 rintro _ _ ⟨rfl, hH⟩
 obtain rfl := hH.symm
 refine .gp rfl rfl rfl aD (qI eqGuardType24 (tm rfl) (tm rfl) (eqVal (qB 6) (qB 6))) ?_
 refine .p rfl (yM (tm rfl) aD (tm rfl)) (.as rfl rfl (.nr (.mv rfl rfl (.mv rfl rfl (.cl rfl C26 (.cons zH .nil) (yV _ _) (.cl rfl C34 (.cons yH .nil) (aoY _ _) ?_))))))
 refine .s rfl (zB C22 (.cons (tm rfl) (.cons (zR rfl) (evs2 rfl rfl))) (qP enL (abF _ mEn) (aaC _ mEn) [38] (abM 4607182418800017408) aC aC (afS true) aC aC (qE (v := abM 4607182418800017408) aE) (qE (v := afS true) aE) f8 hf8 b _ (oS _ _ _))) ?_
 rintro _ _ ⟨rfl, f9, hf9, rfl⟩
 try rw [sS]
 rw [hd20]
 refine .cl rfl C27 (.cons (zR rfl) .nil) (aaH _ _) ?_
 refine .s rfl (zB C22 (.cons (tm rfl) (.cons (zR rfl) (evs2 rfl rfl))) (qP enL (abF _ mEn) (aaC _ mEn) [38] (agN [49, 84, 82, 85, 69]) aC aC (agN [97]) aC aC (qE (v := agN [49, 84, 82, 85, 69]) aE) (qE (v := agN [97]) aE) f9 hf9 b _ (oS _ _ _))) ?_
 rintro _ _ ⟨rfl, f10, hf10, rfl⟩
 try rw [sS]
 rw [hd21]
 refine .cl rfl C27 (.cons (zR rfl) .nil) (aaH _ _) ?_
 refine .p rfl (qI eqGuardType24 (tm rfl) (tm rfl) (eqVal (agN [49, 84, 82, 85, 69, 97]) (agN [49, 84, 82, 85, 69, 97]))) ?_
 refine .mv rfl rfl (.gp rfl rfl rfl aD (zM (tm rfl)) (.gs rfl rfl rfl aD (zB C27 (.cons (zR rfl) .nil) (aaH _ _)) ?_))
 rintro _ _ ⟨rfl, hH⟩
 obtain rfl := hH.symm
 refine .gs rfl rfl rfl aD (zB call20 (.cons (tm rfl) (.cons (zR rfl) (evs1 rfl))) (asL enL (abF _ mEn) (aaC _ mEn) [45] (agN [120]) aC aC f10 hf10 b _ (oS _ _ _))) ?_
 rintro _ _ ⟨rfl, f11, hf11, rfl⟩
 try rw [sS]
 rw [hd24]
 refine .gs rfl rfl rfl aD (zB C33 (.cons zH .nil) (abS _ _)) ?_
 rintro _ _ ⟨rfl, hH⟩
 obtain rfl := hH.symm
 refine .gp rfl rfl rfl aD (qI eqGuardType24 (tm rfl) (tm rfl) (eqVal (qB 3) (qB 3))) ?_
 refine .p rfl (yM (tm rfl) aD (tm rfl)) (.mv rfl rfl (.gp rfl rfl rfl aD (zM (tm rfl)) (.gs rfl rfl rfl aD (zB C26 (.cons zH .nil) (yV _ _)) ?_)))
 rintro _ _ ⟨rfl, hH⟩
 obtain rfl := hH.symm
 refine .gs rfl rfl rfl aD (zB call20 (.cons (tm rfl) (.cons (zR rfl) (evs1 rfl))) (asL enL (abF _ mEn) (aaC _ mEn) [37] (abM 4632233691727265792) aC aC f11 hf11 b _ (oS _ _ _))) ?_
 rintro _ _ ⟨rfl, f12, hf12, rfl⟩
 try rw [sS]
 rw [hd25]
 refine .gs rfl rfl rfl aD (zB C26 (.cons zH .nil) (yV _ _)) ?_
 rintro _ _ ⟨rfl, hH⟩
 obtain rfl := hH.symm
 refine .gp rfl rfl rfl aD (qI eqGuardType24 (tm rfl) (tm rfl) (eqVal (abM 4602678819172646912) (abM 4602678819172646912))) ?_
 refine .p rfl (yM (tm rfl) aD (tm rfl)) (.mv rfl rfl (.gp rfl rfl rfl aD (zM (tm rfl)) (.gs rfl rfl rfl aD (zB C27 (.cons (zR rfl) .nil) (aaH _ _)) ?_)))
 rintro _ _ ⟨rfl, hH⟩
 obtain rfl := hH.symm
 refine .gs rfl rfl rfl aD (zB C27 (.cons (zR rfl) .nil) (aaH _ _)) ?_
 rintro _ _ ⟨rfl, hH⟩
 obtain rfl := hH.symm
 refine .gs rfl rfl rfl aD (zB C22 (.cons (tm rfl) (.cons (zR rfl) (evs2 rfl rfl))) (qP enL (abF _ mEn) (aaC _ mEn) [61] (agN [97]) aC aC (agN [65]) aC aC (qE (v := agN [97]) aE) (qE (v := agN [65]) aE) f12 hf12 b _ (oS _ _ _))) ?_
 rintro _ _ ⟨rfl, f13, hf13, rfl⟩
 try rw [sS]
 rw [hd22]
 refine .gs rfl rfl rfl aD (zB C34 (.cons yH .nil) (aoY _ _)) ?_
 rintro _ _ ⟨rfl, hH⟩
 obtain rfl := hH.symm
 refine .gp rfl rfl rfl aD (qI eqGuardType24 (tm rfl) (tm rfl) (eqVal (afS true) (afS true))) ?_
 refine .p rfl (yM (tm rfl) aD (tm rfl)) (.mv rfl rfl (.gp rfl rfl rfl aD (zM (tm rfl)) (.gs rfl rfl rfl aD (zB C33 (.cons zH .nil) (abS _ _)) ?_)))
 rintro _ _ ⟨rfl, hH⟩
 obtain rfl := hH.symm
 refine .gs rfl rfl rfl aD (zB C33 (.cons zH .nil) (abS _ _)) ?_
 rintro _ _ ⟨rfl, hH⟩
 obtain rfl := hH.symm
 refine .gs rfl rfl rfl aD (zB C22 (.cons (tm rfl) (.cons (zR rfl) (evs2 rfl rfl))) (qP enL (abF _ mEn) (aaC _ mEn) [43] (qB 7) aC aC (qB 4) aC aC (qE (v := qB 7) aE) (qE (v := qB 4) aE) f13 hf13 b _ (oS _ _ _))) ?_
 rintro _ _ ⟨rfl, f14, hf14, rfl⟩
 try rw [sS]
 rw [hd23]
 refine .gs rfl rfl rfl aD (zB C33 (.cons zH .nil) (abS _ _)) ?_
 rintro _ _ ⟨rfl, hH⟩
 obtain rfl := hH.symm
 refine .gp rfl rfl rfl aD (qI eqGuardType24 (tm rfl) (tm rfl) (eqVal (qB 7) (qB 7))) ?_
 refine .p rfl (yM (tm rfl) aD (tm rfl)) (.as rfl rfl (.nr (.mv rfl rfl (.mv rfl rfl (.gp rfl rfl rfl aD (zM (tm rfl)) (.p rfl (yM (tm rfl) aD (tm rfl)) (.mv rfl rfl (.gp rfl rfl rfl aD (zM (tm rfl)) ?_))))))))
 refine .p rfl (yM (tm rfl) aD (tm rfl)) (.mv rfl rfl (.gp rfl rfl rfl aD (zM (tm rfl)) (.p rfl (yM (tm rfl) aD (tm rfl)) (.mv rfl rfl (.gs rfl rfl rfl aD (zB C35 (.cons zH .nil) (qF 9218868437227405312 aC _)) ?_)))))
 rintro _ _ ⟨rfl, hH⟩
 obtain rfl := hH.symm
 rw [hdI]
 refine .gs rfl rfl rfl aD (zB C33 (.cons zH .nil) (abS _ _)) ?_
 rintro _ _ ⟨rfl, hH⟩
 obtain rfl := hH.symm
 refine .gp rfl rfl rfl aD (qI eqGuardType24 (tm rfl) (tm rfl) (eqVal (qB 6) (qB 6))) ?_
 refine .p rfl (yM (tm rfl) aD (tm rfl)) (.as rfl rfl (.ng (.ret ?_)))
 refine Ret.go (.cons (.tmp _ _ rfl) .nil) H (Heap.le_set hb0 _) ?_
 exact ⟨rfl, rfl⟩

end Go.Proofs.YtmmgbnolccpjoaaGreatDoor
