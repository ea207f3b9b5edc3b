import Derived.Test.YtmmgbnolccpjoaaGreatDoorVbk
namespace Go.Proofs.YtmmgbnolccpjoaaGreatDoor
open Go Go.RowKit
set_option maxRecDepth 100000

def enL : Loc := ⟨[101, 110], [46], [44], [44], [45], [37], [36], true, false, 3⟩
def abL (x : Nat) : Val := ⟨1, x, false, [], 0⟩
def afQ (s : List UInt8) : Val := ⟨3, 0, false, s, 0⟩
theorem mEn : enL ∈ locs := by simp [locs, enL]
theorem qR {v : Val} (h : axI v = true) : (acE enL v).1.length ≤ 1000000 := beA mEn h

set_option maxRecDepth 1000000 in
theorem hd0 : abB enL (afQ [49, 44, 50, 51, 52, 46, 53]) = (4653144203864309760, 0) := by kernel_rfl

set_option maxRecDepth 1000000 in
theorem hd1 : abB enL (afC true) = (4607182418800017408, 0) := by kernel_rfl

set_option maxRecDepth 1000000 in
theorem hd2 : abB enL (afQ [120]) = (0, 3) := by kernel_rfl

set_option maxRecDepth 1000000 in
theorem hd3 : abB enL (aiP 0) = (0, 0) := by kernel_rfl

set_option maxRecDepth 1000000 in
theorem hd4 : aeM (afQ [116, 114, 117, 101]) = (true, 0) := by kernel_rfl

set_option maxRecDepth 1000000 in
theorem hd5 : aeM (abL 4602678819172646912) = (true, 0) := by kernel_rfl

set_option maxRecDepth 1000000 in
theorem hd6 : aeM (afQ [121, 101, 115]) = (false, 3) := by kernel_rfl

set_option maxRecDepth 1000000 in
theorem hd7 : abE (afQ [97]) (afQ [66]) = -1 := by kernel_rfl

set_option maxRecDepth 1000000 in
theorem hd8 : abE (abL 4611686018427387904) (afQ [49]) = -1 := by kernel_rfl

set_option maxRecDepth 1000000 in
theorem hd9 : abE (afC true) (afQ [122]) = 1 := by kernel_rfl

set_option maxRecDepth 1000000 in
theorem hd10 : abE (aiP 0) (afQ []) = 0 := by kernel_rfl

set_option maxRecDepth 1000000 in
theorem hd11 : abE (aiP 0) (abL 13830554455654793216) = 1 := by kernel_rfl

set_option maxRecDepth 1000000 in
theorem hd12 : qW enL [43] (afQ [53]) (abL 4607182418800017408) = abL 4618441417868443648 := by kernel_rfl

set_option maxRecDepth 1000000 in
theorem hd13 : qW enL [47] (abL 4607182418800017408) (abL 0) = qP 2 := by kernel_rfl

set_option maxRecDepth 1000000 in
theorem hd14 : qW enL [94] (abL 4611686018427387904) (abL 13830554455654793216) = abL 4602678819172646912 := by kernel_rfl

set_option maxRecDepth 1000000 in
theorem hd15 : qW enL [94] (abL 0) (abL 0) = qP 6 := by kernel_rfl

set_option maxRecDepth 1000000 in
theorem hd16 : qW enL [94] (abL 4616189618054758400) (abL 4602678819172646912) = abL 4611686018427387904 := by kernel_rfl

set_option maxRecDepth 1000000 in
theorem hd17 : qW enL [94] (abL 4611686018427387904) (abL 4599075939470750515) = qP 6 := by kernel_rfl

set_option maxRecDepth 1000000 in
theorem hd18 : qW enL [94] (abL 13844065254536904704) (abL 4602678819172646912) = qP 6 := by kernel_rfl

set_option maxRecDepth 1000000 in
theorem hd19 : qW enL [42] (abL 7598952565167317594) (abL 7598952565167317594) = qP 6 := by kernel_rfl

set_option maxRecDepth 1000000 in
theorem hd20 : qW enL [38] (abL 4607182418800017408) (afC true) = afQ [49, 84, 82, 85, 69] := by kernel_rfl

set_option maxRecDepth 1000000 in
theorem hd21 : qW enL [38] (afQ [49, 84, 82, 85, 69]) (afQ [97]) = afQ [49, 84, 82, 85, 69, 97] := by kernel_rfl

set_option maxRecDepth 1000000 in
theorem hd22 : qW enL [61] (afQ [97]) (afQ [65]) = afC true := by kernel_rfl

set_option maxRecDepth 1000000 in
theorem hd23 : qW enL [43] (qP 7) (qP 4) = qP 7 := by kernel_rfl

set_option maxRecDepth 1000000 in
theorem hd24 : akD enL [45] (afQ [120]) = qP 3 := by kernel_rfl

set_option maxRecDepth 1000000 in
theorem hd25 : akD enL [37] (abL 4632233691727265792) = abL 4602678819172646912 := by kernel_rfl

theorem hdI : apR 9218868437227405312 = qP 6 := by decide
attribute [local irreducible] qW akD abE abB aeM apR

theorem qG (x : Nat) (H : Heap) : ACall Tryz.prog 26 [.int .u64 (x : Int)] H (fun y H' => y = (abL x).av ∧ H' = H) := by
 refine ACall.of_body Tryz.func26 rfl Tryz.ntmps26 Tryz.results26 rfl ?_
 refine .sr ?_
 refine .al zr24 (fun b2 hb2 => ?_)
 refine .nr (.mv rfl rfl (.p rfl (yK zr24 pl24 (.cons zE (.inl rfl) (.cons (tm rfl) (.inl rfl) .nil)) rfl) (.e0 (zG Z24 (tm rfl) (tm rfl) rfl rfl (.inr ⟨_, rfl⟩) (oS _ _ _) (lB rfl)) ?_)))
 try first | rw [sS] | rw [sU (by assumption)]
 refine .ng ?_
 refine AWP.frz (t := 2) rfl (hb2) ?_
 refine .ret ?_
 refine Ret.go (.cons (.cellI _ _ _ _ rfl G24 Z24 rfl) .nil) _ (hRa _) ?_
 exact ⟨rfl, rfl⟩

theorem aaO (s : List UInt8) (H : Heap) : ACall Tryz.prog 27 [.str s] H (fun y H' => y = (afQ s).av ∧ H' = H) := by
 refine ACall.of_body Tryz.func27 rfl Tryz.ntmps27 Tryz.results27 rfl ?_
 refine .sr ?_
 refine .al zr24 (fun b2 hb2 => ?_)
 refine .nr (.mv rfl rfl (.p rfl (yK zr24 pl24 (.cons zE (.inl rfl) (.cons (tm rfl) (.inl rfl) .nil)) rfl) (.e0 (zG Z24 (tm rfl) (tm rfl) rfl rfl (.inr ⟨_, rfl⟩) (oS _ _ _) (lB rfl)) ?_)))
 try first | rw [sS] | rw [sU (by assumption)]
 refine .ng ?_
 refine AWP.frz (t := 2) rfl (hb2) ?_
 refine .ret ?_
 refine Ret.go (.cons (.cellI _ _ _ _ rfl G24 Z24 rfl) .nil) _ (hRa _) ?_
 exact ⟨rfl, rfl⟩

theorem abO (n : Int) (H : Heap) : ACall Tryz.prog 33 [.int .i64 n] H (fun y H' => y = (qP n).av ∧ H' = H) := by
 refine ACall.of_body Tryz.func33 rfl Tryz.ntmps33 Tryz.results33 rfl ?_
 refine .sr ?_
 refine .al zr24 (fun b2 hb2 => ?_)
 refine .nr (.mv rfl rfl (.p rfl (yK zr24 pl24 (.cons zE (.inl rfl) (.cons (tm rfl) (.inl rfl) .nil)) rfl) (.e0 (zG Z24 (tm rfl) (tm rfl) rfl rfl (.inr ⟨_, rfl⟩) (oS _ _ _) (lB rfl)) ?_)))
 try first | rw [sS] | rw [sU (by assumption)]
 refine .ng ?_
 refine AWP.frz (t := 2) rfl (hb2) ?_
 refine .ret ?_
 refine Ret.go (.cons (.cellI _ _ _ _ rfl G24 Z24 rfl) .nil) _ (hRa _) ?_
 exact ⟨rfl, rfl⟩

theorem amJ (b : Bool) (H : Heap) : ACall Tryz.prog 34 [.bool b] H (fun y H' => y = (afC b).av ∧ H' = H) := by
 refine ACall.of_body Tryz.func34 rfl Tryz.ntmps34 Tryz.results34 rfl ?_
 refine .sr ?_
 refine .al zr24 (fun b2 hb2 => ?_)
 refine .nr (.mv rfl rfl (.p rfl (yK zr24 pl24 (.cons zE (.inl rfl) (.cons (tm rfl) (.inl rfl) .nil)) rfl) (.e0 (zG Z24 (tm rfl) (tm rfl) rfl rfl (.inr ⟨_, rfl⟩) (oS _ _ _) (lB rfl)) ?_)))
 try first | rw [sS] | rw [sU (by assumption)]
 refine .ng ?_
 refine AWP.frz (t := 2) rfl (hb2) ?_
 refine .ret ?_
 refine Ret.go (.cons (.cellI _ _ _ _ rfl G24 Z24 rfl) .nil) _ (hRa _) ?_
 exact ⟨rfl, rfl⟩

theorem axX (f : Nat → List AV) (hf : ROK f) (b : Nat) (H : Heap) (hb : H.objs b = some (.box 189 (aaP f))) : ACall Tryz.prog 32 [opA enL b] H (fun y H' => y = .bool true ∧ ∃ f', ROK f' ∧ H' = H.set b (.box 189 (aaP f'))) := by
 refine ACall.of_body Tryz.func32 rfl Tryz.ntmps32 Tryz.results32 rfl ?_
 refine .sr (.p rfl (zA zM) (.nr (.mv rfl rfl (.cl rfl C27 (.cons (zS rfl) .nil) (aaO _ _) (.s rfl (zF C12 (evs2 rfl rfl) (aaK enL (abG _ mEn) (aaJ _ mEn) (afQ [49, 44, 50, 51, 52, 46, 53]) (by decide) (by decide) f hf b _ (hb))) ?_)))))
 rintro _ _ ⟨rfl, f1, hf1, rfl⟩
 try rw [sS]
 rw [hd0]
 refine .mv rfl rfl (.p rfl (zB (tm rfl) rfl) (.p rfl (zB (tm rfl) rfl) (.as rfl rfl (.as rfl rfl (.nr (.mv rfl rfl (.cl rfl C34 (.cons zM .nil) (amJ _ _) (.s rfl (zF C12 (evs2 rfl rfl) (aaK enL (abG _ mEn) (aaJ _ mEn) (afC true) (by decide) (by decide) f1 hf1 b _ (oS _ _ _))) ?_))))))))
 rintro _ _ ⟨rfl, f2, hf2, rfl⟩
 try rw [sS]
 rw [hd1]
 refine .mv rfl rfl (.p rfl (zB (tm rfl) rfl) (.p rfl (zB (tm rfl) rfl) (.as rfl rfl (.as rfl rfl (.nr (.mv rfl rfl (.cl rfl C27 (.cons (zS rfl) .nil) (aaO _ _) (.s rfl (zF C12 (evs2 rfl rfl) (aaK enL (abG _ mEn) (aaJ _ mEn) (afQ [120]) (by decide) (by decide) f2 hf2 b _ (oS _ _ _))) ?_))))))))
 rintro _ _ ⟨rfl, f3, hf3, rfl⟩
 try rw [sS]
 rw [hd2]
 refine .mv rfl rfl (.p rfl (zB (tm rfl) rfl) (.p rfl (zB (tm rfl) rfl) (.as rfl rfl (.as rfl rfl (.nr (.mv rfl rfl (.p rfl (yK zr24 pl24 .nil rfl) (.s rfl (zF C12 (evs2 rfl rfl) (aaK enL (abG _ mEn) (aaJ _ mEn) (aiP 0) (by decide) (by decide) f3 hf3 b _ (oS _ _ _))) ?_))))))))
 rintro _ _ ⟨rfl, f4, hf4, rfl⟩
 try rw [sS]
 rw [hd3]
 refine .mv rfl rfl (.p rfl (zB (tm rfl) rfl) (.p rfl (zB (tm rfl) rfl) (.as rfl rfl (.as rfl rfl (.nr (.mv rfl rfl (.cl rfl C27 (.cons (zS rfl) .nil) (aaO _ _) (.cl rfl Tryz.call14 (evs2 rfl rfl) (ahU _ (afQ [116, 114, 117, 101]) (by decide) (by decide) _) ?_))))))))
 rw [hd4]
 refine .mv rfl rfl (.p rfl (zB (tm rfl) rfl) (.p rfl (zB (tm rfl) rfl) (.as rfl rfl (.as rfl rfl (.nr (.mv rfl rfl (.cl rfl C26 (.cons zE .nil) (qG _ _) (.cl rfl Tryz.call14 (evs2 rfl rfl) (ahU _ (abL 4602678819172646912) (by decide) (by decide) _) ?_))))))))
 rw [hd5]
 refine .mv rfl rfl (.p rfl (zB (tm rfl) rfl) (.p rfl (zB (tm rfl) rfl) (.as rfl rfl (.as rfl rfl (.nr (.mv rfl rfl (.cl rfl C27 (.cons (zS rfl) .nil) (aaO _ _) (.cl rfl Tryz.call14 (evs2 rfl rfl) (ahU _ (afQ [121, 101, 115]) (by decide) (by decide) _) ?_))))))))
 rw [hd6]
 refine .mv rfl rfl (.p rfl (zB (tm rfl) rfl) (.p rfl (zB (tm rfl) rfl) (.as rfl rfl (.as rfl rfl (.ng (.seq (.sr (.mv rfl rfl ?_))))))))
 refine .p rfl (qA (tm rfl) zE) (.mv rfl rfl (.gp rfl rfl rfl (by rfl) (zJ (tm rfl)) (.gp rfl rfl rfl (by rfl) (qA (tm rfl) zE) (.p rfl (zN (tm rfl) (by rfl) (tm rfl)) (.mv rfl rfl (.gp rfl rfl rfl (by rfl) (zJ (tm rfl)) (.gp rfl rfl rfl (by rfl) (qA (tm rfl) zE) (.p rfl (zN (tm rfl) (by rfl) (tm rfl)) ?_))))))))
 refine .mv rfl rfl (.gp rfl rfl rfl (by rfl) (zJ (tm rfl)) (.gp rfl rfl rfl (by rfl) (qA (tm rfl) zE) (.p rfl (zN (tm rfl) (by rfl) (tm rfl)) (.mv rfl rfl (.gp rfl rfl rfl (by rfl) (zJ (tm rfl)) (.gp rfl rfl rfl (by rfl) (qA (tm rfl) zE) (.p rfl (zN (tm rfl) (by rfl) (tm rfl)) (.mv rfl rfl ?_))))))))
 refine .gp rfl rfl rfl (by rfl) (zJ (tm rfl)) (.gp rfl rfl rfl (by rfl) (qA (tm rfl) zE) (.p rfl (zN (tm rfl) (by rfl) (tm rfl)) (.mv rfl rfl (.gp rfl rfl rfl (by rfl) (zJ (tm rfl)) (.gp rfl rfl rfl (by rfl) (qA (tm rfl) zE) (.p rfl (zN (tm rfl) (by rfl) (tm rfl)) (.mv rfl rfl (.gp rfl rfl rfl (by rfl) (zJ (tm rfl)) ?_))))))))
 refine .gp rfl rfl rfl (by rfl) (qA (tm rfl) zE) (.p rfl (zN (tm rfl) (by rfl) (tm rfl)) (.mv rfl rfl (.gp rfl rfl rfl (by rfl) (zJ (tm rfl)) (.gp rfl rfl rfl (by rfl) (aaB (tm rfl)) (.p rfl (zN (tm rfl) (by rfl) (tm rfl)) (.mv rfl rfl (.gp rfl rfl rfl (by rfl) (zJ (tm rfl)) (.gp rfl rfl rfl (by rfl) (qA (tm rfl) zE) ?_))))))))
 refine .p rfl (zN (tm rfl) (by rfl) (tm rfl)) (.mv rfl rfl (.gp rfl rfl rfl (by rfl) (zJ (tm rfl)) (.gp rfl rfl rfl (by rfl) (aaB (tm rfl)) (.p rfl (zN (tm rfl) (by rfl) (tm rfl)) (.mv rfl rfl (.gp rfl rfl rfl (by rfl) (zJ (tm rfl)) (.gp rfl rfl rfl (by rfl) (qA (tm rfl) zE) (.p rfl (zN (tm rfl) (by rfl) (tm rfl)) ?_))))))))
 refine .mv rfl rfl (.gp rfl rfl rfl (by rfl) (zJ (tm rfl)) (.gp rfl rfl rfl (by rfl) (qA (tm rfl) zE) (.p rfl (zN (tm rfl) (by rfl) (tm rfl)) (.ng ?_))))
 refine AWP.cond_false (tm rfl) (by rfl) ?_
 refine .skip ?_
 refine Next.go ?_
 refine .sr (.mv rfl rfl (.cl rfl C27 (.cons (zS rfl) .nil) (aaO _ _) (.cl rfl C27 (.cons (zS rfl) .nil) (aaO _ _) (.cl rfl C18 (evs3 rfl rfl rfl) (acC _ (afQ [97]) (afQ [66]) (by decide) (by decide) (by decide) (by decide) _) ?_))))
 rw [hd7]
 refine .p rfl (zR (tm rfl) zE) (.mv rfl rfl (.gp rfl rfl rfl (by rfl) (zJ (tm rfl)) (.gs rfl rfl rfl (by rfl) (zF C26 (.cons zE .nil) (qG _ _)) ?_)))
 rintro _ _ ⟨rfl, hH⟩
 obtain rfl := hH.symm
 refine .gs rfl rfl rfl (by rfl) (zF C27 (.cons (zS rfl) .nil) (aaO _ _)) ?_
 rintro _ _ ⟨rfl, hH⟩
 obtain rfl := hH.symm
 refine .gs rfl rfl rfl (by rfl) (zF C18 (evs3 rfl rfl rfl) (acC _ (abL 4611686018427387904) (afQ [49]) (by decide) (by decide) (by decide) (by decide) _)) ?_
 rintro _ _ ⟨rfl, hH⟩
 obtain rfl := hH.symm
 rw [hd8]
 refine .gp rfl rfl rfl (by rfl) (zR (tm rfl) zE) (.p rfl (zO (tm rfl) (by rfl) (tm rfl)) (.mv rfl rfl (.gp rfl rfl rfl (by rfl) (zJ (tm rfl)) (.gs rfl rfl rfl (by rfl) (zF C34 (.cons zM .nil) (amJ _ _)) ?_))))
 rintro _ _ ⟨rfl, hH⟩
 obtain rfl := hH.symm
 refine .gs rfl rfl rfl (by rfl) (zF C27 (.cons (zS rfl) .nil) (aaO _ _)) ?_
 rintro _ _ ⟨rfl, hH⟩
 obtain rfl := hH.symm
 refine .gs rfl rfl rfl (by rfl) (zF C18 (evs3 rfl rfl rfl) (acC _ (afC true) (afQ [122]) (by decide) (by decide) (by decide) (by decide) _)) ?_
 rintro _ _ ⟨rfl, hH⟩
 obtain rfl := hH.symm
 rw [hd9]
 refine .gp rfl rfl rfl (by rfl) (zR (tm rfl) zE) (.p rfl (zO (tm rfl) (by rfl) (tm rfl)) (.mv rfl rfl (.gp rfl rfl rfl (by rfl) (zJ (tm rfl)) (.gp rfl rfl rfl (by rfl) (yK zr24 pl24 .nil rfl) (.gs rfl rfl rfl (by rfl) (zF C27 (.cons (zS rfl) .nil) (aaO _ _)) ?_)))))
 rintro _ _ ⟨rfl, hH⟩
 obtain rfl := hH.symm
 refine .gs rfl rfl rfl (by rfl) (zF C18 (evs3 rfl rfl rfl) (acC _ (aiP 0) (afQ []) (by decide) (by decide) (by decide) (by decide) _)) ?_
 rintro _ _ ⟨rfl, hH⟩
 obtain rfl := hH.symm
 rw [hd10]
 refine .gp rfl rfl rfl (by rfl) (zR (tm rfl) zE) (.p rfl (zO (tm rfl) (by rfl) (tm rfl)) (.mv rfl rfl (.gp rfl rfl rfl (by rfl) (zJ (tm rfl)) (.gp rfl rfl rfl (by rfl) (yK zr24 pl24 .nil rfl) (.gs rfl rfl rfl (by rfl) (zF C26 (.cons zE .nil) (qG _ _)) ?_)))))
 rintro _ _ ⟨rfl, hH⟩
 obtain rfl := hH.symm
 refine .gs rfl rfl rfl (by rfl) (zF C18 (evs3 rfl rfl rfl) (acC _ (aiP 0) (abL 13830554455654793216) (by decide) (by decide) (by decide) (by decide) _)) ?_
 rintro _ _ ⟨rfl, hH⟩
 obtain rfl := hH.symm
 rw [hd11]
 refine .gp rfl rfl rfl (by rfl) (zR (tm rfl) zE) (.p rfl (zO (tm rfl) (by rfl) (tm rfl)) (.as rfl rfl (.ng (.ret ?_))))
 refine Ret.go (.cons (.tmp _ _ rfl) .nil) _ (hRa _) ?_
 exact ⟨rfl, f4, hf4, rfl⟩

theorem bgE (H : Heap) : ACall Tryz.prog 8 [] H (fun y H' => y = .bool true ∧ H' = H) := by
 have k23 : decide (abL 4618441417868443648 = abL 4618441417868443648) = true := bH rfl
 have k30 : decide (qP 2 = qP 2) = true := bH rfl
 have k38 : decide (abL 4602678819172646912 = abL 4602678819172646912) = true := bH rfl
 have k46 : decide (qP 6 = qP 6) = true := bH rfl
 have k53 : decide (abL 4611686018427387904 = abL 4611686018427387904) = true := bH rfl
 have k60 : decide (qP 6 = qP 6) = true := bH rfl
 have k68 : decide (qP 6 = qP 6) = true := bH rfl
 have k76 : decide (qP 6 = qP 6) = true := bH rfl
 have k86 : decide (afQ [49, 84, 82, 85, 69, 97] = afQ [49, 84, 82, 85, 69, 97]) = true := bH rfl
 have k92 : decide (qP 3 = qP 3) = true := bH rfl
 have k99 : decide (abL 4602678819172646912 = abL 4602678819172646912) = true := bH rfl
 have k107 : decide (afC true = afC true) = true := bH rfl
 have k115 : decide (qP 7 = qP 7) = true := bH rfl
 have k130 : decide (qP 6 = qP 6) = true := bH rfl
 refine ACall.of_body Tryz.func8 rfl Tryz.ntmps8 Tryz.results8 rfl ?_
 refine .sr (.p rfl (zA zM) (.nr ?_))
 refine .cl rfl Tryz.call31 (.cons (zS rfl) .nil) (arR (l := enL) mEn _) ?_
 refine .mv rfl rfl (.p rfl (zB (tm rfl) rfl) (.p rfl (zB (tm rfl) rfl) ?_))
 refine .al zr29 (fun b1 hb1 => ?_)
 refine .e0 (zG Z29 (tm rfl) (tm rfl) rfl rfl (.inr ⟨_, rfl⟩) (oS _ _ _) (lB rfl)) ?_
 try first | rw [sS] | rw [sU (by assumption)]
 refine .as rfl rfl (.ng ?_)
 refine AWP.frz (t := 1) rfl (hb1) ?_
 refine .sr (.p rfl (zQ G29 Z29 (tm rfl) (lB rfl)) (.s rfl (zF Tryz.call11 (evs1 rfl) (aqE enL _)) ?_))
 rintro _ _ ⟨b, hb0, rfl, rfl⟩
 refine .as rfl rfl (.ng (.seq (.sr (.mv rfl rfl (.p rfl (bfF Tryz.underlying34 (tm rfl) ajY) (.ng ?_))))))
 refine AWP.cond_false (tm rfl) (by rfl) ?_
 refine .skip ?_
 refine Next.go ?_
 refine .sr (.mv rfl rfl (.s rfl (zF Tryz.call32 (evs1 rfl) (axX arO awO b _ (oS _ _ _))) ?_))
 rintro _ _ ⟨rfl, f0, hf0, rfl⟩
 rw [sS]
 refine .as rfl rfl (.nr (.mv rfl rfl (.cl rfl C27 (.cons (zS rfl) .nil) (aaO _ _) (.cl rfl C26 (.cons zE .nil) (qG _ _) ?_))))
 refine .s rfl (zF C22 (.cons (tm rfl) (.cons (zS rfl) (evs2 rfl rfl))) (aaA enL (abG _ mEn) (aaJ _ mEn) [43] (afQ [53]) (by decide) (by decide) (abL 4607182418800017408) (by decide) (by decide) (qR (v := afQ [53]) (by decide +kernel)) (qR (v := abL 4607182418800017408) (by decide +kernel)) f0 hf0 b _ (oS _ _ _))) ?_
 rintro _ _ ⟨rfl, f1, hf1, rfl⟩
 try rw [sS]
 rw [hd12]
 refine .cl rfl C26 (.cons zE .nil) (qG _ _) ?_
 refine .p rfl (aaC Tryz.eqGuardType24 (tm rfl) (tm rfl) (eqVal (abL 4618441417868443648) (abL 4618441417868443648))) ?_
 refine .mv rfl rfl (.gp rfl rfl rfl (by rfl) (zJ (tm rfl)) (.gs rfl rfl rfl (by rfl) (zF C26 (.cons zE .nil) (qG _ _)) ?_))
 rintro _ _ ⟨rfl, hH⟩
 obtain rfl := hH.symm
 refine .gs rfl rfl rfl (by rfl) (zF C26 (.cons zE .nil) (qG _ _)) ?_
 rintro _ _ ⟨rfl, hH⟩
 obtain rfl := hH.symm
 refine .gs rfl rfl rfl (by rfl) (zF C22 (.cons (tm rfl) (.cons (zS rfl) (evs2 rfl rfl))) (aaA enL (abG _ mEn) (aaJ _ mEn) [47] (abL 4607182418800017408) (by decide) (by decide) (abL 0) (by decide) (by decide) (qR (v := abL 4607182418800017408) (by decide +kernel)) (qR (v := abL 0) (by decide +kernel)) f1 hf1 b _ (oS _ _ _))) ?_
 rintro _ _ ⟨rfl, f2, hf2, rfl⟩
 try rw [sS]
 rw [hd13]
 refine .gs rfl rfl rfl (by rfl) (zF C33 (.cons zE .nil) (abO _ _)) ?_
 rintro _ _ ⟨rfl, hH⟩
 obtain rfl := hH.symm
 refine .gp rfl rfl rfl (by rfl) (aaC Tryz.eqGuardType24 (tm rfl) (tm rfl) (eqVal (qP 2) (qP 2))) ?_
 refine .p rfl (zO (tm rfl) (by rfl) (tm rfl)) (.mv rfl rfl (.gp rfl rfl rfl (by rfl) (zJ (tm rfl)) (.gs rfl rfl rfl (by rfl) (zF C26 (.cons zE .nil) (qG _ _)) ?_)))
 rintro _ _ ⟨rfl, hH⟩
 obtain rfl := hH.symm
 refine .gs rfl rfl rfl (by rfl) (zF C26 (.cons zE .nil) (qG _ _)) ?_
 rintro _ _ ⟨rfl, hH⟩
 obtain rfl := hH.symm
 refine .gs rfl rfl rfl (by rfl) (zF C22 (.cons (tm rfl) (.cons (zS rfl) (evs2 rfl rfl))) (aaA enL (abG _ mEn) (aaJ _ mEn) [94] (abL 4611686018427387904) (by decide) (by decide) (abL 13830554455654793216) (by decide) (by decide) (qR (v := abL 4611686018427387904) (by decide +kernel)) (qR (v := abL 13830554455654793216) (by decide +kernel)) f2 hf2 b _ (oS _ _ _))) ?_
 rintro _ _ ⟨rfl, f3, hf3, rfl⟩
 try rw [sS]
 rw [hd14]
 refine .gs rfl rfl rfl (by rfl) (zF C26 (.cons zE .nil) (qG _ _)) ?_
 rintro _ _ ⟨rfl, hH⟩
 obtain rfl := hH.symm
 refine .gp rfl rfl rfl (by rfl) (aaC Tryz.eqGuardType24 (tm rfl) (tm rfl) (eqVal (abL 4602678819172646912) (abL 4602678819172646912))) ?_
 refine .p rfl (zO (tm rfl) (by rfl) (tm rfl)) (.mv rfl rfl (.gp rfl rfl rfl (by rfl) (zJ (tm rfl)) (.gs rfl rfl rfl (by rfl) (zF C26 (.cons zE .nil) (qG _ _)) ?_)))
 rintro _ _ ⟨rfl, hH⟩
 obtain rfl := hH.symm
 refine .gs rfl rfl rfl (by rfl) (zF C26 (.cons zE .nil) (qG _ _)) ?_
 rintro _ _ ⟨rfl, hH⟩
 obtain rfl := hH.symm
 refine .gs rfl rfl rfl (by rfl) (zF C22 (.cons (tm rfl) (.cons (zS rfl) (evs2 rfl rfl))) (aaA enL (abG _ mEn) (aaJ _ mEn) [94] (abL 0) (by decide) (by decide) (abL 0) (by decide) (by decide) (qR (v := abL 0) (by decide +kernel)) (qR (v := abL 0) (by decide +kernel)) f3 hf3 b _ (oS _ _ _))) ?_
 rintro _ _ ⟨rfl, f4, hf4, rfl⟩
 try rw [sS]
 rw [hd15]
 refine .gs rfl rfl rfl (by rfl) (zF C33 (.cons zE .nil) (abO _ _)) ?_
 rintro _ _ ⟨rfl, hH⟩
 obtain rfl := hH.symm
 refine .gp rfl rfl rfl (by rfl) (aaC Tryz.eqGuardType24 (tm rfl) (tm rfl) (eqVal (qP 6) (qP 6))) ?_
 refine .p rfl (zO (tm rfl) (by rfl) (tm rfl)) (.as rfl rfl (.nr (.mv rfl rfl (.cl rfl C26 (.cons zE .nil) (qG _ _) (.cl rfl C26 (.cons zE .nil) (qG _ _) ?_)))))
 refine .s rfl (zF C22 (.cons (tm rfl) (.cons (zS rfl) (evs2 rfl rfl))) (aaA enL (abG _ mEn) (aaJ _ mEn) [94] (abL 4616189618054758400) (by decide) (by decide) (abL 4602678819172646912) (by decide) (by decide) (qR (v := abL 4616189618054758400) (by decide +kernel)) (qR (v := abL 4602678819172646912) (by decide +kernel)) f4 hf4 b _ (oS _ _ _))) ?_
 rintro _ _ ⟨rfl, f5, hf5, rfl⟩
 try rw [sS]
 rw [hd16]
 refine .cl rfl C26 (.cons zE .nil) (qG _ _) ?_
 refine .p rfl (aaC Tryz.eqGuardType24 (tm rfl) (tm rfl) (eqVal (abL 4611686018427387904) (abL 4611686018427387904))) ?_
 refine .mv rfl rfl (.gp rfl rfl rfl (by rfl) (zJ (tm rfl)) (.gs rfl rfl rfl (by rfl) (zF C26 (.cons zE .nil) (qG _ _)) ?_))
 rintro _ _ ⟨rfl, hH⟩
 obtain rfl := hH.symm
 refine .gs rfl rfl rfl (by rfl) (zF C26 (.cons zE .nil) (qG _ _)) ?_
 rintro _ _ ⟨rfl, hH⟩
 obtain rfl := hH.symm
 refine .gs rfl rfl rfl (by rfl) (zF C22 (.cons (tm rfl) (.cons (zS rfl) (evs2 rfl rfl))) (aaA enL (abG _ mEn) (aaJ _ mEn) [94] (abL 4611686018427387904) (by decide) (by decide) (abL 4599075939470750515) (by decide) (by decide) (qR (v := abL 4611686018427387904) (by decide +kernel)) (qR (v := abL 4599075939470750515) (by decide +kernel)) f5 hf5 b _ (oS _ _ _))) ?_
 rintro _ _ ⟨rfl, f6, hf6, rfl⟩
 try rw [sS]
 rw [hd17]
 refine .gs rfl rfl rfl (by rfl) (zF C33 (.cons zE .nil) (abO _ _)) ?_
 rintro _ _ ⟨rfl, hH⟩
 obtain rfl := hH.symm
 refine .gp rfl rfl rfl (by rfl) (aaC Tryz.eqGuardType24 (tm rfl) (tm rfl) (eqVal (qP 6) (qP 6))) ?_
 refine .p rfl (zO (tm rfl) (by rfl) (tm rfl)) (.mv rfl rfl (.gp rfl rfl rfl (by rfl) (zJ (tm rfl)) (.gs rfl rfl rfl (by rfl) (zF C26 (.cons zE .nil) (qG _ _)) ?_)))
 rintro _ _ ⟨rfl, hH⟩
 obtain rfl := hH.symm
 refine .gs rfl rfl rfl (by rfl) (zF C26 (.cons zE .nil) (qG _ _)) ?_
 rintro _ _ ⟨rfl, hH⟩
 obtain rfl := hH.symm
 refine .gs rfl rfl rfl (by rfl) (zF C22 (.cons (tm rfl) (.cons (zS rfl) (evs2 rfl rfl))) (aaA enL (abG _ mEn) (aaJ _ mEn) [94] (abL 13844065254536904704) (by decide) (by decide) (abL 4602678819172646912) (by decide) (by decide) (qR (v := abL 13844065254536904704) (by decide +kernel)) (qR (v := abL 4602678819172646912) (by decide +kernel)) f6 hf6 b _ (oS _ _ _))) ?_
 rintro _ _ ⟨rfl, f7, hf7, rfl⟩
 try rw [sS]
 rw [hd18]
 refine .gs rfl rfl rfl (by rfl) (zF C33 (.cons zE .nil) (abO _ _)) ?_
 rintro _ _ ⟨rfl, hH⟩
 obtain rfl := hH.symm
 refine .gp rfl rfl rfl (by rfl) (aaC Tryz.eqGuardType24 (tm rfl) (tm rfl) (eqVal (qP 6) (qP 6))) ?_
 refine .p rfl (zO (tm rfl) (by rfl) (tm rfl)) (.mv rfl rfl (.gp rfl rfl rfl (by rfl) (zJ (tm rfl)) (.gs rfl rfl rfl (by rfl) (zF C26 (.cons zE .nil) (qG _ _)) ?_)))
 rintro _ _ ⟨rfl, hH⟩
 obtain rfl := hH.symm
 refine .gs rfl rfl rfl (by rfl) (zF C26 (.cons zE .nil) (qG _ _)) ?_
 rintro _ _ ⟨rfl, hH⟩
 obtain rfl := hH.symm
 refine .gs rfl rfl rfl (by rfl) (zF C22 (.cons (tm rfl) (.cons (zS rfl) (evs2 rfl rfl))) (aaA enL (abG _ mEn) (aaJ _ mEn) [42] (abL 7598952565167317594) (by decide) (by decide) (abL 7598952565167317594) (by decide) (by decide) (qR (v := abL 7598952565167317594) (by decide +kernel)) (qR (v := abL 7598952565167317594) (by decide +kernel)) f7 hf7 b _ (oS _ _ _))) ?_
 rintro _ _ ⟨rfl, f8, hf8, rfl⟩
 try rw [sS]
 rw [hd19]
 refine .gs rfl rfl rfl (by rfl) (zF C33 (.cons zE .nil) (abO _ _)) ?_
 rintro _ _ ⟨rfl, hH⟩
 obtain rfl := hH.symm
 refine .gp rfl rfl rfl (by rfl) (aaC Tryz.eqGuardType24 (tm rfl) (tm rfl) (eqVal (qP 6) (qP 6))) ?_
 refine .p rfl (zO (tm rfl) (by rfl) (tm rfl)) (.as rfl rfl (.nr (.mv rfl rfl (.mv rfl rfl (.cl rfl C26 (.cons zE .nil) (qG _ _) (.cl rfl C34 (.cons zM .nil) (amJ _ _) ?_))))))
 refine .s rfl (zF C22 (.cons (tm rfl) (.cons (zS rfl) (evs2 rfl rfl))) (aaA enL (abG _ mEn) (aaJ _ mEn) [38] (abL 4607182418800017408) (by decide) (by decide) (afC true) (by decide) (by decide) (qR (v := abL 4607182418800017408) (by decide +kernel)) (qR (v := afC true) (by decide +kernel)) f8 hf8 b _ (oS _ _ _))) ?_
 rintro _ _ ⟨rfl, f9, hf9, rfl⟩
 try rw [sS]
 rw [hd20]
 refine .cl rfl C27 (.cons (zS rfl) .nil) (aaO _ _) ?_
 refine .s rfl (zF C22 (.cons (tm rfl) (.cons (zS rfl) (evs2 rfl rfl))) (aaA enL (abG _ mEn) (aaJ _ mEn) [38] (afQ [49, 84, 82, 85, 69]) (by decide) (by decide) (afQ [97]) (by decide) (by decide) (qR (v := afQ [49, 84, 82, 85, 69]) (by decide +kernel)) (qR (v := afQ [97]) (by decide +kernel)) f9 hf9 b _ (oS _ _ _))) ?_
 rintro _ _ ⟨rfl, f10, hf10, rfl⟩
 try rw [sS]
 rw [hd21]
 refine .cl rfl C27 (.cons (zS rfl) .nil) (aaO _ _) ?_
 refine .p rfl (aaC Tryz.eqGuardType24 (tm rfl) (tm rfl) (eqVal (afQ [49, 84, 82, 85, 69, 97]) (afQ [49, 84, 82, 85, 69, 97]))) ?_
 refine .mv rfl rfl (.gp rfl rfl rfl (by rfl) (zJ (tm rfl)) (.gs rfl rfl rfl (by rfl) (zF C27 (.cons (zS rfl) .nil) (aaO _ _)) ?_))
 rintro _ _ ⟨rfl, hH⟩
 obtain rfl := hH.symm
 refine .gs rfl rfl rfl (by rfl) (zF Tryz.call20 (.cons (tm rfl) (.cons (zS rfl) (evs1 rfl))) (apI enL (abG _ mEn) (aaJ _ mEn) [45] (afQ [120]) (by decide) (by decide) f10 hf10 b _ (oS _ _ _))) ?_
 rintro _ _ ⟨rfl, f11, hf11, rfl⟩
 try rw [sS]
 rw [hd24]
 refine .gs rfl rfl rfl (by rfl) (zF C33 (.cons zE .nil) (abO _ _)) ?_
 rintro _ _ ⟨rfl, hH⟩
 obtain rfl := hH.symm
 refine .gp rfl rfl rfl (by rfl) (aaC Tryz.eqGuardType24 (tm rfl) (tm rfl) (eqVal (qP 3) (qP 3))) ?_
 refine .p rfl (zO (tm rfl) (by rfl) (tm rfl)) (.mv rfl rfl (.gp rfl rfl rfl (by rfl) (zJ (tm rfl)) (.gs rfl rfl rfl (by rfl) (zF C26 (.cons zE .nil) (qG _ _)) ?_)))
 rintro _ _ ⟨rfl, hH⟩
 obtain rfl := hH.symm
 refine .gs rfl rfl rfl (by rfl) (zF Tryz.call20 (.cons (tm rfl) (.cons (zS rfl) (evs1 rfl))) (apI enL (abG _ mEn) (aaJ _ mEn) [37] (abL 4632233691727265792) (by decide) (by decide) f11 hf11 b _ (oS _ _ _))) ?_
 rintro _ _ ⟨rfl, f12, hf12, rfl⟩
 try rw [sS]
 rw [hd25]
 refine .gs rfl rfl rfl (by rfl) (zF C26 (.cons zE .nil) (qG _ _)) ?_
 rintro _ _ ⟨rfl, hH⟩
 obtain rfl := hH.symm
 refine .gp rfl rfl rfl (by rfl) (aaC Tryz.eqGuardType24 (tm rfl) (tm rfl) (eqVal (abL 4602678819172646912) (abL 4602678819172646912))) ?_
 refine .p rfl (zO (tm rfl) (by rfl) (tm rfl)) (.mv rfl rfl (.gp rfl rfl rfl (by rfl) (zJ (tm rfl)) (.gs rfl rfl rfl (by rfl) (zF C27 (.cons (zS rfl) .nil) (aaO _ _)) ?_)))
 rintro _ _ ⟨rfl, hH⟩
 obtain rfl := hH.symm
 refine .gs rfl rfl rfl (by rfl) (zF C27 (.cons (zS rfl) .nil) (aaO _ _)) ?_
 rintro _ _ ⟨rfl, hH⟩
 obtain rfl := hH.symm
 refine .gs rfl rfl rfl (by rfl) (zF C22 (.cons (tm rfl) (.cons (zS rfl) (evs2 rfl rfl))) (aaA enL (abG _ mEn) (aaJ _ mEn) [61] (afQ [97]) (by decide) (by decide) (afQ [65]) (by decide) (by decide) (qR (v := afQ [97]) (by decide +kernel)) (qR (v := afQ [65]) (by decide +kernel)) f12 hf12 b _ (oS _ _ _))) ?_
 rintro _ _ ⟨rfl, f13, hf13, rfl⟩
 try rw [sS]
 rw [hd22]
 refine .gs rfl rfl rfl (by rfl) (zF C34 (.cons zM .nil) (amJ _ _)) ?_
 rintro _ _ ⟨rfl, hH⟩
 obtain rfl := hH.symm
 refine .gp rfl rfl rfl (by rfl) (aaC Tryz.eqGuardType24 (tm rfl) (tm rfl) (eqVal (afC true) (afC true))) ?_
 refine .p rfl (zO (tm rfl) (by rfl) (tm rfl)) (.mv rfl rfl (.gp rfl rfl rfl (by rfl) (zJ (tm rfl)) (.gs rfl rfl rfl (by rfl) (zF C33 (.cons zE .nil) (abO _ _)) ?_)))
 rintro _ _ ⟨rfl, hH⟩
 obtain rfl := hH.symm
 refine .gs rfl rfl rfl (by rfl) (zF C33 (.cons zE .nil) (abO _ _)) ?_
 rintro _ _ ⟨rfl, hH⟩
 obtain rfl := hH.symm
 refine .gs rfl rfl rfl (by rfl) (zF C22 (.cons (tm rfl) (.cons (zS rfl) (evs2 rfl rfl))) (aaA enL (abG _ mEn) (aaJ _ mEn) [43] (qP 7) (by decide) (by decide) (qP 4) (by decide) (by decide) (qR (v := qP 7) (by decide +kernel)) (qR (v := qP 4) (by decide +kernel)) f13 hf13 b _ (oS _ _ _))) ?_
 rintro _ _ ⟨rfl, f14, hf14, rfl⟩
 try rw [sS]
 rw [hd23]
 refine .gs rfl rfl rfl (by rfl) (zF C33 (.cons zE .nil) (abO _ _)) ?_
 rintro _ _ ⟨rfl, hH⟩
 obtain rfl := hH.symm
 refine .gp rfl rfl rfl (by rfl) (aaC Tryz.eqGuardType24 (tm rfl) (tm rfl) (eqVal (qP 7) (qP 7))) ?_
 refine .p rfl (zO (tm rfl) (by rfl) (tm rfl)) (.as rfl rfl (.nr (.mv rfl rfl (.mv rfl rfl (.gp rfl rfl rfl (by rfl) (zJ (tm rfl)) (.p rfl (zO (tm rfl) (by rfl) (tm rfl)) (.mv rfl rfl (.gp rfl rfl rfl (by rfl) (zJ (tm rfl)) ?_))))))))
 refine .p rfl (zO (tm rfl) (by rfl) (tm rfl)) (.mv rfl rfl (.gp rfl rfl rfl (by rfl) (zJ (tm rfl)) (.p rfl (zO (tm rfl) (by rfl) (tm rfl)) (.mv rfl rfl (.gs rfl rfl rfl (by rfl) (zF C35 (.cons zE .nil) (qS 9218868437227405312 (by decide) _)) ?_)))))
 rintro _ _ ⟨rfl, hH⟩
 obtain rfl := hH.symm
 rw [hdI]
 refine .gs rfl rfl rfl (by rfl) (zF C33 (.cons zE .nil) (abO _ _)) ?_
 rintro _ _ ⟨rfl, hH⟩
 obtain rfl := hH.symm
 refine .gp rfl rfl rfl (by rfl) (aaC Tryz.eqGuardType24 (tm rfl) (tm rfl) (eqVal (qP 6) (qP 6))) ?_
 refine .p rfl (zO (tm rfl) (by rfl) (tm rfl)) (.as rfl rfl (.ng (.ret ?_)))
 refine Ret.go (.cons (.tmp _ _ rfl) .nil) H (Heap.le_set hb0 _) ?_
 exact ⟨rfl, rfl⟩

end Go.Proofs.YtmmgbnolccpjoaaGreatDoor
