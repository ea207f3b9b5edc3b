import Derived.Test.YtmmgbnolccpjoaaGreatDoorV4
set_option maxHeartbeats 1000000
namespace Go.Proofs.YtmmgbnolccpjoaaGreatDoor
open Go.Proofs.Tryz
open Go Go.RowKit
set_option maxRecDepth 100000

theorem zr74 : ZR 74 [.str [], .str [], .str [], .str [], .str [], .str [], .str [], .bool false, .bool false, .slice 1 [] .full, .ptr none] := ZRi zeroValue74
theorem pl74 : PL 74 [(0, 10), (10, 1)] := PLi U74

def opA (l : Loc) (b : Nat) : AV := .iptr ((pL l (szA l)).cells ++ [erA l b])

theorem atL (l : Loc) (H : Heap) : ACall prog 11 [pL l (szA l)] H (fun y H' => ∃ b, H.objs b = none ∧ y = opA l b ∧ H' = H.set b (.box 189 (aaJ avA))) := by
 refine .of_body func11 rfl ntmps11 results11 rfl ?_
 iterate 3 refine AX ?_
 refine .p rfl (zG amB) ?_
 iterate 3 refine AX ?_
 refine .draw [(0, true), (1, true), (2, false), (3, true), (4, true), (5, true)] rfl aE ?_
 iterate 2 refine AX ?_
 refine .s rfl rfl (zB call37 (evs1 rfl) (bmQ l _)) ?_
 rintro _ _ ⟨b, hb0, rfl, rfl⟩
 refine .p rfl rfl (yB zr74 pl74 (.cons (tm rfl) (.inr ⟨_, rfl⟩) (.cons (tm rfl) (.inl rfl) .nil)) rfl) ?_
 refine .f rfl rfl (fun _ => qG (tm rfl) (.inr ⟨_, rfl⟩)) ?_
 iterate 5 refine AX ?_
 exact ⟨b, hb0, rfl, rfl⟩

theorem aaE (l : Loc) (hk : l.ok) (hg : l.grp ≠ []) (v : Val) (hv : v.bits < 18446744073709551616) (ht : v.text.length ≤ 1000) (f : Nat → List AV) (hf : ROK f) (b : Nat) (H : Heap) (hb : H.objs b = some (.box 189 (aaJ f))) : ACall prog 12 [opA l b, v.av] H (fun y H' => y = .tuple [.int .u64 (((qV l v).1 : Nat) : Int), .int .i64 (qV l v).2] ∧ ∃ f', ROK f' ∧ H' = H.set b (.box 189 (aaJ f'))) := by
 refine ACall.of_body func12 rfl ntmps12 results12 rfl ?_
 iterate 2 refine AX ?_
 refine .e rfl (qG (tm rfl) (.inr ⟨_, rfl⟩)) ?_
 iterate 7 refine AX ?_
 refine .p rfl (zA U24 rfl Z3 (tm rfl)) ?_
 iterate 10 refine AX ?_
 refine AWP.cond (tm rfl) (fun hc10 => ?_) (fun hc10 => ?_)
 ·try simp only [aO] at hc10
  iterate 2 refine AX ?_
  refine .p rfl (zA U24 rfl Z22 (tm rfl)) ?_
  iterate 8 refine AX ?_
  refine Ret.go (.cons (.tmp _ _ rfl) (.cons (.tmp _ _ rfl) .nil)) _ (hRa _) ?_
  refine ⟨?_, f, hf, (Heap.set_self hb).symm⟩
  unfold qV
  rw [aJ]; rfl
 try simp only [aM] at hc10
 iterate 6 refine AX ?_
 refine AWP.cond (tm rfl) (fun hc14 => ?_) (fun hc14 => ?_)
 ·try simp only [aO] at hc14
  iterate 2 refine AX ?_
  refine .p rfl (zA U24 rfl Z4 (tm rfl)) ?_
  iterate 3 refine AX ?_
  refine AWP.cond (tm rfl) (fun hc17 => ?_) (fun hc17 => ?_)
  ·try simp only [aK] at hc17
   iterate 9 refine AX ?_
   refine Ret.go (.cons (.tmp _ _ rfl) (.cons (.tmp _ _ rfl) .nil)) _ (hRa _) ?_
   refine ⟨?_, f, hf, (Heap.set_self hb).symm⟩
   unfold qV
   rw [aI, aN ⟨by omega, hc17⟩]; rfl
  try simp only [aK] at hc17
  iterate 4 refine AX ?_
  refine AWP.draw [(0, true), (1, true), (2, true), (3, true)] rfl aE ?_
  refine .p rfl rfl (zA U24 rfl Z3 (tm rfl)) ?_
  iterate 2 refine AX ?_
  refine .p rfl rfl (zG (tm rfl)) (.nil ?_)
  refine Next.go ?_
  refine .ret ?_
  refine Ret.go (.cons (.tmp _ _ rfl) (.cons (.tmp _ _ rfl) .nil)) _ (hRa _) ?_
  refine ⟨?_, f, hf, (Heap.set_self hb).symm⟩
  unfold qV
  rw [aI, aL (fun q => by rw [hc17] at q; exact absurd q.2 aC), aI]
  rfl
 try simp only [aM] at hc14
 iterate 6 refine AX ?_
 refine AWP.cond (tm rfl) (fun hc18 => ?_) (fun hc18 => ?_)
 ·try simp only [aO] at hc18
  refine AX ?_
  refine AWP.drawT (.op 0 true (.op 1 true (.op 2 true (.op 3 true (.op 4 true (.op 5 true (.two 6 (.op 7 true (.op 8 true (.op 9 true (.op 10 false (.op 11 false (.op 12 true .done)))))) 10 (.op 6 false (.op 7 true (.op 8 true (.op 9 true (.op 11 false (.op 12 true .done))))))))))))) rfl aE ?_
  refine ATree.p rfl rfl (zM (tm rfl)) ?_
  refine ATree.p rfl rfl (abQ (tm rfl)) ?_
  refine ATree.p rfl rfl (zA U74 rfl sizeOf71 (tm rfl)) ?_
  refine ATree.p rfl rfl (zY isAgg71 (tm rfl)) ?_
  refine ATree.p rfl rfl (zA U24 rfl Z9 (tm rfl)) ?_
  refine ATree.p rfl rfl (zY G9 (tm rfl)) ?_
  refine ⟨?_, ?_⟩
  ·refine XTree.s rfl rfl (zB call38 (evs2 rfl rfl) (asS l hk hg f hf v.text ht b _ (hb))) ?_
   rintro _ _ ⟨rfl, f1, hf1, rfl⟩
   skip
   refine ATree.p rfl rfl (zM (tm rfl)) ?_
   refine ATree.p rfl rfl (zW (tm rfl) rfl) ?_
   refine ATree.p rfl rfl (zW (tm rfl) rfl) ?_
   refine ATree.s rfl rfl (agJ zr76) ?_
   rintro _ _ ⟨b6, hb6, rfl, hH⟩
   obtain rfl := hH.symm
   refine ATree.s0 rfl (zP Z76 (tm rfl) (tm rfl) rfl rfl (.inr ⟨_, rfl⟩) (oS _ _ _) (lB rfl)) ?_
   rintro _ _ ⟨rfl, hH⟩
   obtain rfl := hH.symm
   try first | rw [sS] | rw [sU aB]
   refine ATree.p rfl rfl (zG (tm rfl)) ?_
   refine ATree.nil ?_
   refine AX ?_
   refine AWP.frz (t := 6) rfl (hb6) ?_
   iterate 7 refine AX ?_
   refine AWP.cond (tm rfl) (fun hc31 => ?_) (fun hc31 => ?_)
   ·try simp only [aO, ne_eq] at hc31
    iterate 10 refine AX ?_
    refine Ret.go (.cons (.tmp _ _ rfl) (.cons (.tmp _ _ rfl) .nil)) _ (hRa _) ?_
    refine ⟨?_, f1, hf1, rfl⟩
    unfold qV
    rw [aI, aI, aJ, aJ]
    rfl
   try simp only [aM, ne_eq, dP] at hc31
   iterate 4 refine AX ?_
   refine .p rfl (zA U76 rfl Z22 (tm rfl)) ?_
   iterate 8 refine AX ?_
   refine Ret.go (.cons (.tmp _ _ rfl) (.cons (.tmp _ _ rfl) .nil)) _ (hRa _) ?_
   refine ⟨?_, f1, hf1, rfl⟩
   unfold qV
   rw [aI, aI, aJ, aI]
   rfl
  refine XTree.s rfl rfl (agJ zr76) ?_
  rintro _ _ ⟨b6, hb6, rfl, hH⟩
  obtain rfl := hH.symm
  refine ATree.s rfl rfl (zB call38 (evs2 rfl rfl) (asS l hk hg f hf v.text ht b _ (by exact (oN _ _ (show b ≠ b6 by rintro rfl; rw [hb6] at hb; cases hb)).trans hb))) ?_
  rintro _ _ ⟨rfl, f1, hf1, rfl⟩
  have hn6 : b6 ≠ b := (by rintro rfl; rw [hb6] at hb; cases hb)
  rw [Heap.set_comm hn6]
  replace hb6 : (H.set b (.box 189 (aaJ f1))).objs b6 = none := (oN _ _ hn6).trans hb6
  refine ATree.p rfl rfl (zM (tm rfl)) ?_
  refine ATree.p rfl rfl (zW (tm rfl) rfl) ?_
  refine ATree.p rfl rfl (zW (tm rfl) rfl) ?_
  refine ATree.s0 rfl (zP Z76 (tm rfl) (tm rfl) rfl rfl (.inr ⟨_, rfl⟩) (oS _ _ _) (lB rfl)) ?_
  rintro _ _ ⟨rfl, hH⟩
  obtain rfl := hH.symm
  try first | rw [sS] | rw [sU aB]
  refine ATree.p rfl rfl (zG (tm rfl)) ?_
  refine ATree.nil ?_
  refine AX ?_
  refine AWP.frz (t := 6) rfl (hb6) ?_
  iterate 7 refine AX ?_
  refine AWP.cond (tm rfl) (fun hc31 => ?_) (fun hc31 => ?_)
  ·try simp only [aO, ne_eq] at hc31
   iterate 3 refine AX ?_
   refine .p rfl (zG zH) (.nil ?_)
   refine Next.go ?_
   refine .ret ?_
   refine Next.rt ?_
   refine Block.rt ?_
   refine Next.rt ?_
   refine Ret.go (.cons (.tmp _ _ rfl) (.cons (.tmp _ _ rfl) .nil)) _ (hRa _) ?_
   refine ⟨?_, f1, hf1, rfl⟩
   unfold qV
   rw [aI, aI, aJ, aJ]
   rfl
  try simp only [aM, ne_eq, dP] at hc31
  refine .skip ?_
  refine Next.go ?_
  refine .seq (.region (.p rfl (zA U76 rfl Z22 (tm rfl)) ?_))
  iterate 8 refine AX ?_
  refine Ret.go (.cons (.tmp _ _ rfl) (.cons (.tmp _ _ rfl) .nil)) _ (hRa _) ?_
  refine ⟨?_, f1, hf1, rfl⟩
  unfold qV
  rw [aI, aI, aJ, aI]
  rfl
 try simp only [aM] at hc18
 iterate 4 refine AX ?_
 refine AWP.draw [(0, true), (1, true), (2, true), (3, true)] rfl aE ?_
 refine .p rfl rfl (zA U24 rfl Z3 (tm rfl)) ?_
 iterate 6 refine AX ?_
 refine Ret.go (.cons (.tmp _ _ rfl) (.cons (.tmp _ _ rfl) .nil)) _ (hRa _) ?_
 refine ⟨?_, f, hf, (Heap.set_self hb).symm⟩
 unfold qV
 rw [aI, aL (fun q => by omega), aI]
 rfl

theorem agF (p : AV) (v : Val) (hv : v.bits < 18446744073709551616) (ht : v.text.length ≤ 1000) : Fn 14 [p, v.av] (.tuple [.bool (aaV v).1, .int .i64 (aaV v).2]) := by
 intro H
 refine .of_body func14 rfl ntmps14 results14 rfl ?_
 iterate 10 refine AX ?_
 refine .p rfl (zA U24 rfl Z3 (tm rfl)) ?_
 iterate 10 refine AX ?_
 refine .cx rfl (fun hc8 => ?_) (fun hc8 => ?_)
 ·iterate 2 refine AX ?_
  refine .p rfl (zA U24 rfl Z22 (tm rfl)) ?_
  refine AX ?_
  refine .cl rfl C40 (evs1 rfl) (ahU _ aB _) ?_
  iterate 9 refine AX ?_
  refine ⟨?_, rfl⟩
  unfold aaV
  rw [aJ]
  rfl
 iterate 6 refine AX ?_
 refine .cx rfl (fun hc14 => ?_) (fun hc14 => ?_)
 ·iterate 3 refine AX ?_
  refine .p rfl (zA U24 rfl Z9 (tm rfl)) ?_
  refine AX ?_
  refine .cl rfl call41 (evs1 rfl) (akG _ aA _) ?_
  iterate 9 refine AX ?_
  refine .cx rfl (fun hc19 => ?_) (fun hc19 => ?_)
  ·iterate 12 refine AX ?_
   refine ⟨?_, rfl⟩
   unfold aaV
   rw [aI, aJ, aN aB]
   rfl
  iterate 6 refine AX ?_
  refine .cx rfl (fun hc21 => ?_) (fun hc21 => ?_)
  ·iterate 12 refine AX ?_
   refine ⟨?_, rfl⟩
   unfold aaV
   rw [aI, aJ, aL aB, aN aB]
   rfl
  iterate 13 refine AX ?_
  refine ⟨?_, rfl⟩
  unfold aaV
  rw [aI, aJ, aL aB, aL aB]
  rfl
 iterate 4 refine AX ?_
 refine .draw [(0, true), (1, true), (2, true), (3, true), (4, true), (5, true)] rfl aE ?_
 refine .p rfl rfl (zA U24 rfl Z4 (tm rfl)) ?_
 refine AX ?_
 refine .p rfl rfl (zA U24 rfl Z3 (tm rfl)) ?_
 iterate 7 refine AX ?_
 refine ⟨?_, rfl⟩
 unfold aaV
 rw [aI, aI]
 rfl

theorem aiZ (l : Loc) (hk : l.ok) (b : Nat) (v : Val) (hv : v.bits < 18446744073709551616) (ht : v.text.length ≤ 1000) : Fn 16 [opA l b, v.av] (.tuple [.str (abB l v).1, .int .i64 (abB l v).2]) := by
 intro H
 refine .of_body func16 rfl ntmps16 results16 rfl ?_
 iterate 10 refine AX ?_
 refine .p rfl (zA U24 rfl Z3 (tm rfl)) ?_
 iterate 10 refine AX ?_
 refine .cx rfl (fun hc8 => ?_) (fun hc8 => ?_)
 ·refine AX ?_
  refine .draw [(0, true), (1, true), (2, true), (3, true), (4, true), (5, true), (6, false), (7, true), (8, true)] rfl aE ?_
  refine .p rfl rfl (zA U24 rfl Z22 (tm rfl)) ?_
  iterate 3 refine AX ?_
  refine .p rfl rfl (zA U74 rfl Z29 (tm rfl)) ?_
  refine AX ?_
  refine .s rfl rfl (zB call43 (evs2 rfl rfl) (ayM l hk _ v.bits hv _)) ?_
  rintro _ _ ⟨rfl, hH⟩
  obtain rfl := hH.symm
  iterate 8 refine AX ?_
  refine ⟨?_, rfl⟩
  unfold abB
  rw [aJ]
  rfl
 iterate 6 refine AX ?_
 refine .cx rfl (fun hc17 => ?_) (fun hc17 => ?_)
 ·iterate 2 refine AX ?_
  refine .p rfl (zA U24 rfl Z4 (tm rfl)) ?_
  refine AX ?_
  refine .cl rfl call44 (evs1 rfl) (amO _ _) ?_
  iterate 8 refine AX ?_
  refine ⟨?_, rfl⟩
  unfold abB
  rw [aI, aJ]
  rfl
 iterate 4 refine AX ?_
 refine .draw [(0, true), (1, true), (2, true), (3, true), (4, true), (5, true)] rfl aE ?_
 refine .p rfl rfl (zA U24 rfl Z9 (tm rfl)) ?_
 refine AX ?_
 refine .p rfl rfl (zA U24 rfl Z3 (tm rfl)) ?_
 iterate 7 refine AX ?_
 refine ⟨?_, rfl⟩
 unfold abB
 rw [aI, aI]
 rfl

theorem blK (x y : Nat) (hx : x < 18446744073709551616) (hy : y < 18446744073709551616) (H : Heap) : ACall prog 64 [.int .u64 (x : Int), .int .u64 (y : Int)] H (fun z H' => z = (asP (aiV x y)).av ∧ H' = H) := by
 have ha := bsR hx hy
 refine .of_body func64 rfl ntmps64 results64 rfl ?_
 iterate 2 refine AX ?_
 refine .al zr24 (fun b4 hb4 => ?_)
 iterate 6 refine AX ?_
 refine .cl rfl call131 (evs2 rfl rfl) (avH _ _ aB aB _) (.cl rfl C35 (evs1 rfl) (qF _ aB _) ?_)
 iterate 3 refine AX ?_
 refine .frz (t := 4) rfl (hb4) ?_
 iterate 2 refine AX ?_
 exact ⟨rfl, rfl⟩

theorem bmL (a b : Nat) (ha : a < 18446744073709551616) (hb : b < 18446744073709551616) : Fn 132 [.int .u64 (a : Int), .int .u64 (b : Int)] (.int .u64 ((aiV a (atD b) : Nat) : Int)) := by
 intro H
 have hn := bfJ hb
 refine .of_body func132 rfl ntmps132 results132 rfl ?_
 iterate 9 refine AM ?_
 refine .cl rfl call56 (evs1 rfl) (avF _ aB _) (.cl rfl call131 (evs2 rfl rfl) (avH _ _ aB aB _) ?_)
 iterate 5 refine AX ?_
 exact ⟨rfl, rfl⟩

theorem blH (x y : Nat) (hx : x < 18446744073709551616) (hy : y < 18446744073709551616) (H : Heap) : ACall prog 65 [.int .u64 (x : Int), .int .u64 (y : Int)] H (fun z H' => z = (asP (aiV x (atD y))).av ∧ H' = H) := by
 have hn := bfJ hy
 have ha := bsR hx hn
 refine .of_body func65 rfl ntmps65 results65 rfl ?_
 iterate 2 refine AX ?_
 refine .al zr24 (fun b4 hb4 => ?_)
 iterate 6 refine AX ?_
 refine .cl rfl call132 (evs2 rfl rfl) (bmL x y hx hy _) (.cl rfl C35 (evs1 rfl) (qF _ aB _) ?_)
 iterate 3 refine AX ?_
 refine .frz (t := 4) rfl (hb4) ?_
 iterate 2 refine AX ?_
 exact ⟨rfl, rfl⟩

theorem blI (x y : Nat) (hx : x < 18446744073709551616) (hy : y < 18446744073709551616) (H : Heap) : ACall prog 66 [.int .u64 (x : Int), .int .u64 (y : Int)] H (fun z H' => z = (asP (aeQ x y)).av ∧ H' = H) := by
 have ha := apC x y
 refine .of_body func66 rfl ntmps66 results66 rfl ?_
 iterate 2 refine AX ?_
 refine .al zr24 (fun b4 hb4 => ?_)
 iterate 6 refine AX ?_
 refine .cl rfl C133 (evs2 rfl rfl) (ahA _ _ aB aB _) (.cl rfl C35 (evs1 rfl) (qF _ aB _) ?_)
 iterate 3 refine AX ?_
 refine .frz (t := 4) rfl (hb4) ?_
 iterate 2 refine AX ?_
 exact ⟨rfl, rfl⟩

theorem blJ (x y : Nat) (hx : x < 18446744073709551616) (hy : y < 18446744073709551616) (H : Heap) : ACall prog 67 [.int .u64 (x : Int), .int .u64 (y : Int)] H (fun z H' => z = (cgM x y).av ∧ H' = H) := by
 have ha := bfK x y
 refine .of_body func67 rfl ntmps67 results67 rfl ?_
 iterate 2 refine AX ?_
 refine .al zr24 (fun b4 hb4 => ?_)
 iterate 6 refine AX ?_
 refine .cl rfl C40 (evs1 rfl) (ahU _ aB _) ?_
 iterate 3 refine AX ?_
 refine .cx rfl (fun hc7 => ?_) (fun hc7 => ?_)
 ·iterate 2 refine AX ?_
  refine .cl rfl C53 (.cons zH .nil) (qY _ _) ?_
  iterate 3 refine AX ?_
  refine .frz (t := 4) rfl (hb4) ?_
  iterate 3 refine AX ?_
  refine ⟨?_, rfl⟩
  unfold cgM
  rw [aJ]
  rfl
 iterate 6 refine AX ?_
 refine .cl rfl C54 (evs2 rfl rfl) (ahB x y hx hy _) (.cl rfl C35 (evs1 rfl) (qF _ aB _) ?_)
 iterate 3 refine AX ?_
 refine .frz (t := 4) rfl (hb4) ?_
 iterate 2 refine AX ?_
 refine ⟨?_, rfl⟩
 unfold cgM
 rw [aI]
 rfl

theorem baO (x y : Nat) (hx : x < 18446744073709551616) (hy : y < 18446744073709551616) (H : Heap) : ACall prog 68 [.int .u64 (x : Int), .int .u64 (y : Int)] H (fun z H' => z = (bqI x y).av ∧ H' = H) := by
 have hpl := cdT x (toN y).1
 have hsl := bxQ hx
 have hhl : zX false 2 0 false < 18446744073709551616 := aeB _ _ _ _
 refine .of_body func68 rfl ntmps68 results68 rfl ?_
 iterate 2 refine AX ?_
 refine .al zr24 (fun b4 hb4 => ?_)
 iterate 5 refine AX ?_
 refine .cl rfl C40 (evs1 rfl) (ahU _ aB _) ?_
 iterate 7 refine AX ?_
 refine .cl rfl C40 (evs1 rfl) (ahU _ aB _) ?_
 iterate 3 refine AX ?_
 refine .cx rfl (fun hc12 => ?_) (fun hc12 => ?_)
 ·iterate 8 refine AX ?_
  refine .cx rfl (fun hc13 => ?_) (fun hc13 => ?_)
  ·iterate 2 refine AX ?_
   refine .cl rfl C53 (.cons zH .nil) (qY _ _) ?_
   iterate 3 refine AX ?_
   refine .frz (t := 4) rfl (hb4) ?_
   iterate 4 refine AX ?_
   refine ⟨?_, rfl⟩
   unfold bqI
   rw [aN ⟨by omega, by omega⟩]
   rfl
  iterate 7 refine AX ?_
  refine .cx rfl (fun hc17 => ?_) (fun hc17 => ?_)
  ·iterate 2 refine AX ?_
   refine .cl rfl C53 (.cons zH .nil) (qY _ _) ?_
   iterate 3 refine AX ?_
   refine .frz (t := 4) rfl (hb4) ?_
   iterate 4 refine AX ?_
   refine ⟨?_, rfl⟩
   unfold bqI
   rw [aI, aN ⟨by omega, by omega⟩]
   rfl
  iterate 7 refine AX ?_
  refine .cl rfl call134 (.cons (tm rfl) (.cons zH .nil)) (bbI _ aB _) ?_
  iterate 7 refine AX ?_
  refine .seqTo 39 (.bool (decide ((toN y).2 = 0 ∧ isN y = true ∧ -1000000 ≤ (toN y).1 ∧ (toN y).1 ≤ 1000000))) [0, 1, 4, 6] ?_ ?_
  ·-- region 8
   iterate 4 refine AX ?_
   refine zD (t := 28) rfl (fun hg28 => ?_) (fun hg28 => ?_)
   ·have hh28 := hg28; try simp only [aO] at hh28
    refine AX ?_
    refine .gs rfl rfl rfl aB (zB call135 (evs1 rfl) (bbJ _ aB _)) ?_
    rintro _ _ ⟨rfl, hH⟩
    obtain rfl := hH.symm
    iterate 2 refine AX ?_
    refine zD (t := 32) rfl (fun hg32 => ?_) (fun hg32 => ?_)
    ·have hh32 := hg32; try simp only [aK] at hh32
     iterate 4 refine AX ?_
     refine zD (t := 36) rfl (fun hg36 => ?_) (fun hg36 => ?_)
     ·have hh36 := hg36; try simp only [aO] at hh36
      iterate 4 refine AX ?_
      exact ⟨rfl, zO rfl (by (refine Eq.symm ?_; exact aY.2 ⟨fun q => q.2.2.2, fun q => ⟨by omega, by assumption, by omega, q⟩⟩)) sX, rfl⟩
     have hh36 := hg36; try simp only [aM, dK] at hh36
     iterate 4 refine AX ?_
     exact ⟨rfl, zO rfl (by (refine Eq.symm ?_; exact bD (fun q => by omega))) sX, rfl⟩
    have hh32 := hg32; try simp only [aK] at hh32
    iterate 8 refine AX ?_
    exact ⟨rfl, zO rfl (by (refine Eq.symm ?_; exact bD (fun q => by rw [q.2.1] at hg32; cases hg32))) sX, rfl⟩
   have hh28 := hg28; try simp only [aM] at hh28
   iterate 12 refine AX ?_
   exact ⟨rfl, zO rfl (by (refine Eq.symm ?_; exact bD (fun q => by omega))) sX, rfl⟩
  refine .sub [(39, _), (0, _), (1, _), (4, _), (6, _)] sX ?_
  refine .cx rfl (fun hc39 => ?_) (fun hc39 => ?_)
  ·iterate 4 refine AX ?_
   refine .cl rfl call136 (evs2 rfl rfl) (avE x hx _ aA _) (.cl rfl C35 (evs1 rfl) (qF _ aB _) ?_)
   iterate 3 refine AX ?_
   refine .frz (t := 4) rfl (hb4) ?_
   iterate 3 refine AX ?_
   refine ⟨?_, rfl⟩
   unfold bqI
   rw [aI, aI, aN aB]
   rfl
  iterate 6 refine AX ?_
  refine .cl rfl C55 (.cons zH .nil) (afA 2 aC _) (.cl rfl C54 (.cons (zI 4607182418800017408) (evs1 rfl)) (ahB _ _ aC hhl _) ?_)
  iterate 3 refine AX ?_
  refine .cx rfl (fun hc47 => ?_) (fun hc47 => ?_)
  ·iterate 3 refine AX ?_
   refine .cl rfl call137 (evs1 rfl) (arX _ aB _) (.cl rfl C35 (evs1 rfl) (qF _ aB _) ?_)
   iterate 3 refine AX ?_
   refine .frz (t := 4) rfl (hb4) ?_
   iterate 3 refine AX ?_
   refine ⟨?_, rfl⟩
   unfold bqI
   rw [aI, aI, aL aB, aN (show y = bsD from Int.ofNat_inj.1 hc47)]
   rfl
  iterate 4 refine AX ?_
  refine .cl rfl C53 (.cons zH .nil) (qY _ _) ?_
  iterate 3 refine AX ?_
  refine .frz (t := 4) rfl (hb4) ?_
  iterate 2 refine AX ?_
  refine ⟨?_, rfl⟩
  unfold bqI
  rw [aI, aI, aL aB, aL (show ¬ y = bsD from fun q => hc47 (congrArg Int.ofNat q))]
  rfl
 iterate 6 refine AX ?_
 refine .cl rfl call134 (.cons (tm rfl) (.cons zH .nil)) (bbI _ aB _) ?_
 iterate 7 refine AX ?_
 refine .seqTo 39 (.bool (decide ((toN y).2 = 0 ∧ isN y = true ∧ -1000000 ≤ (toN y).1 ∧ (toN y).1 ≤ 1000000))) [0, 1, 4, 6] ?_ ?_
 ·-- region 8
  iterate 4 refine AX ?_
  refine zD (t := 28) rfl (fun hg28 => ?_) (fun hg28 => ?_)
  ·have hh28 := hg28; try simp only [aO] at hh28
   refine AX ?_
   refine .gs rfl rfl rfl aB (zB call135 (evs1 rfl) (bbJ _ aB _)) ?_
   rintro _ _ ⟨rfl, hH⟩
   obtain rfl := hH.symm
   iterate 2 refine AX ?_
   refine zD (t := 32) rfl (fun hg32 => ?_) (fun hg32 => ?_)
   ·have hh32 := hg32; try simp only [aK] at hh32
    iterate 4 refine AX ?_
    refine zD (t := 36) rfl (fun hg36 => ?_) (fun hg36 => ?_)
    ·have hh36 := hg36; try simp only [aO] at hh36
     iterate 4 refine AX ?_
     exact ⟨rfl, zO rfl (by (refine Eq.symm ?_; exact aY.2 ⟨fun q => q.2.2.2, fun q => ⟨by omega, by assumption, by omega, q⟩⟩)) sX, rfl⟩
    have hh36 := hg36; try simp only [aM, dK] at hh36
    iterate 4 refine AX ?_
    exact ⟨rfl, zO rfl (by (refine Eq.symm ?_; exact bD (fun q => by omega))) sX, rfl⟩
   have hh32 := hg32; try simp only [aK] at hh32
   iterate 8 refine AX ?_
   exact ⟨rfl, zO rfl (by (refine Eq.symm ?_; exact bD (fun q => by rw [q.2.1] at hg32; cases hg32))) sX, rfl⟩
  have hh28 := hg28; try simp only [aM] at hh28
  iterate 12 refine AX ?_
  exact ⟨rfl, zO rfl (by (refine Eq.symm ?_; exact bD (fun q => by omega))) sX, rfl⟩
 refine .sub [(39, _), (0, _), (1, _), (4, _), (6, _)] sX ?_
 refine .cx rfl (fun hc39 => ?_) (fun hc39 => ?_)
 ·iterate 4 refine AX ?_
  refine .cl rfl call136 (evs2 rfl rfl) (avE x hx _ aA _) (.cl rfl C35 (evs1 rfl) (qF _ aB _) ?_)
  iterate 3 refine AX ?_
  refine .frz (t := 4) rfl (hb4) ?_
  iterate 3 refine AX ?_
  refine ⟨?_, rfl⟩
  unfold bqI
  rw [aI, aI, aN aB]
  rfl
 iterate 6 refine AX ?_
 refine .cl rfl C55 (.cons zH .nil) (afA 2 aC _) (.cl rfl C54 (.cons (zI 4607182418800017408) (evs1 rfl)) (ahB _ _ aC hhl _) ?_)
 iterate 3 refine AX ?_
 refine .cx rfl (fun hc47 => ?_) (fun hc47 => ?_)
 ·iterate 3 refine AX ?_
  refine .cl rfl call137 (evs1 rfl) (arX _ aB _) (.cl rfl C35 (evs1 rfl) (qF _ aB _) ?_)
  iterate 3 refine AX ?_
  refine .frz (t := 4) rfl (hb4) ?_
  iterate 3 refine AX ?_
  refine ⟨?_, rfl⟩
  unfold bqI
  rw [aI, aI, aL aB, aN (show y = bsD from Int.ofNat_inj.1 hc47)]
  rfl
 iterate 4 refine AX ?_
 refine .cl rfl C53 (.cons zH .nil) (qY _ _) ?_
 iterate 3 refine AX ?_
 refine .frz (t := 4) rfl (hb4) ?_
 iterate 2 refine AX ?_
 refine ⟨?_, rfl⟩
 unfold bqI
 rw [aI, aI, aL aB, aL (show ¬ y = bsD from fun q => hc47 (congrArg Int.ofNat q))]
 rfl

theorem ahD (l : Loc) (hk : l.ok) (hg : l.grp ≠ []) (x : Val) (x_b : x.bits < 18446744073709551616) (x_t : x.text.length ≤ 1000) (u : Val) (u_b : u.bits < 18446744073709551616) (u_t : u.text.length ≤ 1000) (F : Nat → Nat → Val) (fn : FuncId) (hent : ∀ args w, (callFunc fn args).run prog w = .ok (.enter fn args) w) (hF : ∀ x y, x < 18446744073709551616 → y < 18446744073709551616 → ∀ H, ACall prog fn [.int .u64 ((x : Nat) : Int), .int .u64 ((y : Nat) : Int)] H (fun z H' => z = (F x y).av ∧ H' = H)) (f : Nat → List AV) (hf : ROK f) (b : Nat) (H : Heap) (hb : H.objs b = some (.box 189 (aaJ f))) : ACall prog 63 [opA l b, x.av, u.av, .func fn []] H (fun y H' => y = (axY l x u F).av ∧ ∃ f', ROK f' ∧ H' = H.set b (.box 189 (aaJ f'))) := by
 refine .of_body func63 rfl ntmps63 results63 rfl ?_
 iterate 4 refine AX ?_
 refine .al zr24 (fun b8 hb8 => ?_)
 iterate 3 refine AX ?_
 have h8b : b8 ≠ b := by rintro rfl; rw [hb8] at hb; cases hb
 iterate 3 refine AX ?_
 refine .s rfl (zB C12 (evs2 rfl rfl) (aaE l hk hg x x_b x_t f hf b _ ((oN _ _ h8b.symm).trans hb))) ?_
 rintro _ _ ⟨rfl, f1, hf1, rfl⟩
 rw [Heap.set_comm h8b]
 replace hb8 : (H.set b (.box 189 (aaJ f1))).objs b8 = none := (oN _ _ h8b).trans hb8
 iterate 14 refine AX ?_
 refine .cx rfl (fun hc19 => ?_) (fun hc19 => ?_)
 ·iterate 3 refine AX ?_
  refine .cl rfl C53 (evs1 rfl) (qY _ _) ?_
  iterate 3 refine AX ?_
  refine .frz (t := 8) rfl (hb8) ?_
  iterate 3 refine AX ?_
  refine ⟨?_, f1, hf1, rfl⟩
  unfold axY
  rw [aN (by simpa using hc19)]; rfl
 iterate 6 refine AX ?_
 refine .s rfl (zB C12 (evs2 rfl rfl) (aaE l hk hg u u_b u_t f1 hf1 b _ ((oN _ _ h8b.symm).trans (oS _ _ _)))) ?_
 rintro _ _ ⟨rfl, f2, hf2, rfl⟩
 rw [sU h8b.symm]
 replace hb8 : (H.set b (.box 189 (aaJ f2))).objs b8 = none := fS hb8 _
 iterate 14 refine AX ?_
 refine .cx rfl (fun hc29 => ?_) (fun hc29 => ?_)
 ·iterate 3 refine AX ?_
  refine .cl rfl C53 (evs1 rfl) (qY _ _) ?_
  iterate 3 refine AX ?_
  refine .frz (t := 8) rfl (hb8) ?_
  iterate 3 refine AX ?_
  refine ⟨?_, f2, hf2, rfl⟩
  unfold axY
  rw [aL (by simpa using hc19), aN (by simpa using hc29)]; rfl
 iterate 7 refine AX ?_
 refine .e rfl (apP hent (tm rfl) (evs2 rfl rfl) (hF _ _ (avV x_b) (avV u_b) _)) ?_
 iterate 3 refine AX ?_
 refine .frz (t := 8) rfl (hb8) ?_
 iterate 2 refine AX ?_
 refine ⟨?_, f2, hf2, rfl⟩
 unfold axY
 rw [aL (by simpa using hc19), aL (by simpa using hc29)]; rfl

theorem asL (l : Loc) (hk : l.ok) (hg : l.grp ≠ []) (op : List UInt8) (v : Val) (v_b : v.bits < 18446744073709551616) (v_t : v.text.length ≤ 1000) (f : Nat → List AV) (hf : ROK f) (b : Nat) (H : Heap) (hb : H.objs b = some (.box 189 (aaJ f))) : ACall prog 20 [opA l b, .str op, v.av] H (fun y H' => y = (amI l op v).av ∧ ∃ f', ROK f' ∧ H' = H.set b (.box 189 (aaJ f'))) := by
 have htl := avV (l := l) v_b
 have hhl : chT < 18446744073709551616 := aeB _ _ _ _
 have hdl := bfK (qV l v).1 chT
 have hnl := bfJ htl
 refine .of_body func20 rfl ntmps20 results20 rfl ?_
 iterate 3 refine AX ?_
 refine .al zr24 (fun b6 hb6 => ?_)
 iterate 4 refine AX ?_
 refine .seqTo 9 (.bool (decide (v.kind = 4 ∨ op = [43]))) [0, 1, 5, 6] ?_ ?_
 ·-- region 1
  refine AX ?_
  refine .p rfl (zA U24 rfl Z3 (tm rfl)) ?_
  iterate 3 refine AX ?_
  refine zD (t := 13) rfl (fun hg13 => ?_) (fun hg13 => ?_)
  ·have hh13 := hg13; try simp only [aO] at hh13
   iterate 5 refine AX ?_
   exact ⟨rfl, zO rfl (by (refine Eq.symm ?_; exact bG (.inl aB))) sX, rfl⟩
  have hh13 := hg13; try simp only [aM] at hh13
  iterate 5 refine AX ?_
  exact ⟨rfl, zO rfl (by (refine Eq.symm ?_; (refine aY.2 ⟨fun q => ?_, fun q => .inr q⟩; rcases q with q | q; exact absurd q aB; exact q))) sX, rfl⟩
 refine .sub [(9, _), (0, _), (1, _), (5, _), (6, _)] sX ?_
 refine .cx rfl (fun hc9 => ?_) (fun hc9 => ?_)
 ·iterate 6 refine AX ?_
  refine .frz (t := 6) rfl (hb6) ?_
  iterate 4 refine AX ?_
  refine ⟨?_, f, hf, (Heap.set_self hb).symm⟩
  unfold amI
  rw [aN hc9]; rfl
 refine .seqTo 18 (.bool (decide (op ≠ [45] ∧ op ≠ [37]))) [0, 1, 5, 6] ?_ ?_
 ·-- region 3
  iterate 4 refine AX ?_
  refine zD (t := 21) rfl (fun hg21 => ?_) (fun hg21 => ?_)
  ·have hh21 := hg21; try simp only [aM, eV] at hh21
   iterate 5 refine AX ?_
   exact ⟨rfl, zO rfl (by (refine Eq.symm ?_; (rw [← decide_not]; exact aY.2 ⟨fun q => q.2, fun q => ⟨by assumption, q⟩⟩))) sX, rfl⟩
  have hh21 := hg21; try simp only [aO, eH] at hh21
  iterate 5 refine AX ?_
  exact ⟨rfl, zO rfl (by (refine Eq.symm ?_; exact bD (fun q => q.1 aB))) sX, rfl⟩
 refine .sub [(18, _), (0, _), (1, _), (5, _), (6, _)] sX ?_
 refine .cx rfl (fun hc18 => ?_) (fun hc18 => ?_)
 ·iterate 2 refine AX ?_
  refine .cl rfl C53 (.cons zH .nil) (qY _ _) ?_
  iterate 3 refine AX ?_
  refine .frz (t := 6) rfl (hb6) ?_
  iterate 4 refine AX ?_
  refine ⟨?_, f, hf, (Heap.set_self hb).symm⟩
  unfold amI
  rw [aL hc9, aN hc18]; rfl
 have h8b : b6 ≠ b := by rintro rfl; rw [hb6] at hb; cases hb
 iterate 7 refine AX ?_
 refine .s rfl (zB C12 (evs2 rfl rfl) (aaE l hk hg v v_b v_t f hf b _ ((oN _ _ h8b.symm).trans hb))) ?_
 rintro _ _ ⟨rfl, f1, hf1, rfl⟩
 rw [Heap.set_comm h8b]
 replace hb6 : (H.set b (.box 189 (aaJ f1))).objs b6 = none := (oN _ _ h8b).trans hb6
 iterate 14 refine AX ?_
 refine .cx rfl (fun hc33 => ?_) (fun hc33 => ?_)
 ·iterate 3 refine AX ?_
  refine .cl rfl C53 (evs1 rfl) (qY _ _) ?_
  iterate 3 refine AX ?_
  refine .frz (t := 6) rfl (hb6) ?_
  iterate 3 refine AX ?_
  refine ⟨?_, f1, hf1, rfl⟩
  unfold amI
  rw [aL hc9, aL hc18, aN (by simpa using hc33)]; rfl
 iterate 9 refine AX ?_
 refine .cx rfl (fun hc37 => ?_) (fun hc37 => ?_)
 ·iterate 3 refine AX ?_
  refine .cl rfl C55 (.cons zH .nil) (afA 100 aC _) (.cl rfl C54 (evs2 rfl rfl) (ahB _ _ htl hhl _) (.cl rfl C35 (evs1 rfl) (qF _ hdl _) ?_))
  iterate 3 refine AX ?_
  refine .frz (t := 6) rfl (hb6) ?_
  iterate 3 refine AX ?_
  refine ⟨?_, f1, hf1, rfl⟩
  unfold amI
  rw [aL hc9, aL hc18, aL (by simpa using hc33), aN (by simpa using hc37)]; rfl
 iterate 5 refine AX ?_
 refine .cl rfl call56 (evs1 rfl) (avF _ htl _) (.cl rfl C35 (evs1 rfl) (qF _ hnl _) ?_)
 iterate 3 refine AX ?_
 refine .frz (t := 6) rfl (hb6) ?_
 iterate 2 refine AX ?_
 refine ⟨?_, f1, hf1, rfl⟩
 unfold amI
 rw [aL hc9, aL hc18, aL (by simpa using hc33), aL (by simpa using hc37)]; rfl

theorem qP (l : Loc) (hk : l.ok) (hg : l.grp ≠ []) (op : List UInt8) (x : Val) (x_b : x.bits < 18446744073709551616) (x_t : x.text.length ≤ 1000) (u : Val) (u_b : u.bits < 18446744073709551616) (u_t : u.text.length ≤ 1000) (lx : (abB l x).1.length ≤ 1000000) (lu : (abB l u).1.length ≤ 1000000) (f : Nat → List AV) (hf : ROK f) (b : Nat) (H : Heap) (hb : H.objs b = some (.box 189 (aaJ f))) : ACall prog 22 [opA l b, .str op, x.av, u.av] H (fun y H' => y = (qK l op x u).av ∧ ∃ f', ROK f' ∧ H' = H.set b (.box 189 (aaJ f'))) := by
 have hcat : ((abB l x).1 ++ (abB l u).1).length ≤ maxLen := by rw [aP, zK]; omega
 refine .of_body func22 rfl ntmps22 results22 rfl ?_
 iterate 4 refine AX ?_
 refine .al zr24 (fun b8 hb8 => ?_)
 iterate 5 refine AX ?_
 have h8b : b8 ≠ b := by rintro rfl; rw [hb8] at hb; cases hb
 refine AX ?_
 refine .p rfl (zA U24 rfl Z3 (tm rfl)) ?_
 iterate 5 refine AX ?_
 refine .cx rfl (fun hc14 => ?_) (fun hc14 => ?_)
 ·iterate 6 refine AX ?_
  refine .frz (t := 8) rfl (hb8) ?_
  iterate 4 refine AX ?_
  refine ⟨?_, f, hf, (Heap.set_self hb).symm⟩
  unfold qK
  rw [aN hc14]; rfl
 iterate 2 refine AX ?_
 refine .p rfl (zA U24 rfl Z3 (tm rfl)) ?_
 iterate 5 refine AX ?_
 refine .cx rfl (fun hc19 => ?_) (fun hc19 => ?_)
 ·iterate 6 refine AX ?_
  refine .frz (t := 8) rfl (hb8) ?_
  iterate 4 refine AX ?_
  refine ⟨?_, f, hf, (Heap.set_self hb).symm⟩
  unfold qK
  rw [aL hc14, aN hc19]; rfl
 iterate 8 refine AX ?_
 refine .cl rfl C18 (evs3 rfl rfl rfl) (acH _ x u x_b u_b aA aA _) ?_
 iterate 16 refine AX ?_
 refine .cx rfl (fun hc29 => ?_) (fun hc29 => ?_)
 ·iterate 4 refine AX ?_
  refine .cl rfl C61 (evs1 rfl) (adP _ _) ?_
  iterate 3 refine AX ?_
  refine .frz (t := 8) rfl (hb8) ?_
  iterate 4 refine AX ?_
  refine ⟨?_, f, hf, (Heap.set_self hb).symm⟩
  unfold qK
  rw [aL hc14, aL hc19, aN hc29]; rfl
 iterate 6 refine AX ?_
 refine .cx rfl (fun hc34 => ?_) (fun hc34 => ?_)
 ·iterate 4 refine AX ?_
  refine .cl rfl C61 (evs1 rfl) (adP _ _) ?_
  iterate 3 refine AX ?_
  refine .frz (t := 8) rfl (hb8) ?_
  iterate 4 refine AX ?_
  refine ⟨?_, f, hf, (Heap.set_self hb).symm⟩
  unfold qK
  rw [aL hc14, aL hc19, aL hc29, aN hc34]; rfl
 iterate 6 refine AX ?_
 refine .cx rfl (fun hc39 => ?_) (fun hc39 => ?_)
 ·iterate 4 refine AX ?_
  refine .cl rfl C61 (evs1 rfl) (adP _ _) ?_
  iterate 3 refine AX ?_
  refine .frz (t := 8) rfl (hb8) ?_
  iterate 4 refine AX ?_
  refine ⟨?_, f, hf, (Heap.set_self hb).symm⟩
  unfold qK
  rw [aL hc14, aL hc19, aL hc29, aL hc34, aN hc39]; rfl
 iterate 6 refine AX ?_
 refine .cx rfl (fun hc44 => ?_) (fun hc44 => ?_)
 ·iterate 4 refine AX ?_
  refine .cl rfl C61 (evs1 rfl) (adP _ _) ?_
  iterate 3 refine AX ?_
  refine .frz (t := 8) rfl (hb8) ?_
  iterate 4 refine AX ?_
  refine ⟨?_, f, hf, (Heap.set_self hb).symm⟩
  unfold qK
  rw [aL hc14, aL hc19, aL hc29, aL hc34, aL hc39, aN hc44]; rfl
 iterate 6 refine AX ?_
 refine .cx rfl (fun hc49 => ?_) (fun hc49 => ?_)
 ·iterate 4 refine AX ?_
  refine .cl rfl C61 (evs1 rfl) (adP _ _) ?_
  iterate 3 refine AX ?_
  refine .frz (t := 8) rfl (hb8) ?_
  iterate 4 refine AX ?_
  refine ⟨?_, f, hf, (Heap.set_self hb).symm⟩
  unfold qK
  rw [aL hc14, aL hc19, aL hc29, aL hc34, aL hc39, aL hc44, aN hc49]; rfl
 iterate 6 refine AX ?_
 refine .cx rfl (fun hc54 => ?_) (fun hc54 => ?_)
 ·iterate 4 refine AX ?_
  refine .cl rfl C61 (evs1 rfl) (adP _ _) ?_
  iterate 3 refine AX ?_
  refine .frz (t := 8) rfl (hb8) ?_
  iterate 4 refine AX ?_
  refine ⟨?_, f, hf, (Heap.set_self hb).symm⟩
  unfold qK
  rw [aL hc14, aL hc19, aL hc29, aL hc34, aL hc39, aL hc44, aL hc49, aN hc54]; rfl
 iterate 6 refine AX ?_
 refine .cx rfl (fun hc59 => ?_) (fun hc59 => ?_)
 ·iterate 4 refine AX ?_
  refine .cl rfl call16 (evs2 rfl rfl) (aiZ l hk b x x_b x_t _) ?_
  iterate 11 refine AX ?_
  refine .cl rfl call16 (evs2 rfl rfl) (aiZ l hk b u u_b u_t _) ?_
  iterate 11 refine AX ?_
  refine .p rfl (zS (tm rfl) (tm rfl) (by rw [← aP]; exact hcat)) (.cl rfl call62 (evs1 rfl) (bcW _ hcat _) ?_)
  iterate 3 refine AX ?_
  refine .frz (t := 8) rfl (hb8) ?_
  iterate 4 refine AX ?_
  refine ⟨?_, f, hf, (Heap.set_self hb).symm⟩
  unfold qK
  rw [aL hc14, aL hc19, aL hc29, aL hc34, aL hc39, aL hc44, aL hc49, aL hc54, aN hc59]; rfl
 iterate 6 refine AX ?_
 refine .cx rfl (fun hc77 => ?_) (fun hc77 => ?_)
 ·iterate 5 refine AX ?_
  refine .s rfl (zB C63 (.cons (tm rfl) (.cons (tm rfl) (.cons (tm rfl) (.cons (.func _) .nil)))) (ahD l hk hg x x_b x_t u u_b u_t (fun x y => asP (aiV x y)) 64 call64 (fun x y hx hy H => blK x y hx hy H) f hf b _ ((oN _ _ h8b.symm).trans hb))) ?_
  rintro _ _ ⟨rfl, f1, hf1, rfl⟩
  rw [Heap.set_comm h8b]
  replace hb8 : (H.set b (.box 189 (aaJ f1))).objs b8 = none := (oN _ _ h8b).trans hb8
  iterate 3 refine AX ?_
  refine .frz (t := 8) rfl (hb8) ?_
  iterate 4 refine AX ?_
  refine ⟨?_, f1, hf1, rfl⟩
  unfold qK
  rw [aL hc14, aL hc19, aL hc29, aL hc34, aL hc39, aL hc44, aL hc49, aL hc54, aL hc59, aN hc77]; rfl
 iterate 6 refine AX ?_
 refine .cx rfl (fun hc83 => ?_) (fun hc83 => ?_)
 ·iterate 5 refine AX ?_
  refine .s rfl (zB C63 (.cons (tm rfl) (.cons (tm rfl) (.cons (tm rfl) (.cons (.func _) .nil)))) (ahD l hk hg x x_b x_t u u_b u_t (fun x y => asP (aiV x (atD y))) 65 call65 (fun x y hx hy H => blH x y hx hy H) f hf b _ ((oN _ _ h8b.symm).trans hb))) ?_
  rintro _ _ ⟨rfl, f1, hf1, rfl⟩
  rw [Heap.set_comm h8b]
  replace hb8 : (H.set b (.box 189 (aaJ f1))).objs b8 = none := (oN _ _ h8b).trans hb8
  iterate 3 refine AX ?_
  refine .frz (t := 8) rfl (hb8) ?_
  iterate 4 refine AX ?_
  refine ⟨?_, f1, hf1, rfl⟩
  unfold qK
  rw [aL hc14, aL hc19, aL hc29, aL hc34, aL hc39, aL hc44, aL hc49, aL hc54, aL hc59, aL hc77, aN hc83]; rfl
 iterate 6 refine AX ?_
 refine .cx rfl (fun hc89 => ?_) (fun hc89 => ?_)
 ·iterate 5 refine AX ?_
  refine .s rfl (zB C63 (.cons (tm rfl) (.cons (tm rfl) (.cons (tm rfl) (.cons (.func _) .nil)))) (ahD l hk hg x x_b x_t u u_b u_t (fun x y => asP (aeQ x y)) 66 call66 (fun x y hx hy H => blI x y hx hy H) f hf b _ ((oN _ _ h8b.symm).trans hb))) ?_
  rintro _ _ ⟨rfl, f1, hf1, rfl⟩
  rw [Heap.set_comm h8b]
  replace hb8 : (H.set b (.box 189 (aaJ f1))).objs b8 = none := (oN _ _ h8b).trans hb8
  iterate 3 refine AX ?_
  refine .frz (t := 8) rfl (hb8) ?_
  iterate 4 refine AX ?_
  refine ⟨?_, f1, hf1, rfl⟩
  unfold qK
  rw [aL hc14, aL hc19, aL hc29, aL hc34, aL hc39, aL hc44, aL hc49, aL hc54, aL hc59, aL hc77, aL hc83, aN hc89]; rfl
 iterate 6 refine AX ?_
 refine .cx rfl (fun hc95 => ?_) (fun hc95 => ?_)
 ·iterate 5 refine AX ?_
  refine .s rfl (zB C63 (.cons (tm rfl) (.cons (tm rfl) (.cons (tm rfl) (.cons (.func _) .nil)))) (ahD l hk hg x x_b x_t u u_b u_t cgM 67 call67 (fun x y hx hy H => blJ x y hx hy H) f hf b _ ((oN _ _ h8b.symm).trans hb))) ?_
  rintro _ _ ⟨rfl, f1, hf1, rfl⟩
  rw [Heap.set_comm h8b]
  replace hb8 : (H.set b (.box 189 (aaJ f1))).objs b8 = none := (oN _ _ h8b).trans hb8
  iterate 3 refine AX ?_
  refine .frz (t := 8) rfl (hb8) ?_
  iterate 4 refine AX ?_
  refine ⟨?_, f1, hf1, rfl⟩
  unfold qK
  rw [aL hc14, aL hc19, aL hc29, aL hc34, aL hc39, aL hc44, aL hc49, aL hc54, aL hc59, aL hc77, aL hc83, aL hc89, aN hc95]; rfl
 iterate 6 refine AX ?_
 refine .cx rfl (fun hc101 => ?_) (fun hc101 => ?_)
 ·iterate 5 refine AX ?_
  refine .s rfl (zB C63 (.cons (tm rfl) (.cons (tm rfl) (.cons (tm rfl) (.cons (.func _) .nil)))) (ahD l hk hg x x_b x_t u u_b u_t bqI 68 call68 (fun x y hx hy H => baO x y hx hy H) f hf b _ ((oN _ _ h8b.symm).trans hb))) ?_
  rintro _ _ ⟨rfl, f1, hf1, rfl⟩
  rw [Heap.set_comm h8b]
  replace hb8 : (H.set b (.box 189 (aaJ f1))).objs b8 = none := (oN _ _ h8b).trans hb8
  iterate 3 refine AX ?_
  refine .frz (t := 8) rfl (hb8) ?_
  iterate 4 refine AX ?_
  refine ⟨?_, f1, hf1, rfl⟩
  unfold qK
  rw [aL hc14, aL hc19, aL hc29, aL hc34, aL hc39, aL hc44, aL hc49, aL hc54, aL hc59, aL hc77, aL hc83, aL hc89, aL hc95, aN hc101]; rfl
 iterate 5 refine AX ?_
 refine .cl rfl C53 (.cons zH .nil) (qY _ _) ?_
 iterate 3 refine AX ?_
 refine .frz (t := 8) rfl (hb8) ?_
 iterate 2 refine AX ?_
 refine ⟨?_, f, hf, (Heap.set_self hb).symm⟩
 unfold qK
 rw [aL hc14, aL hc19, aL hc29, aL hc34, aL hc39, aL hc44, aL hc49, aL hc54, aL hc59, aL hc77, aL hc83, aL hc89, aL hc95, aL hc101]; rfl

end Go.Proofs.YtmmgbnolccpjoaaGreatDoor
