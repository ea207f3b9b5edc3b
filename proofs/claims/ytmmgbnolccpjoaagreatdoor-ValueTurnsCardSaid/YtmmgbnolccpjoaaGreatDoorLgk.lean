import Derived.Test.YtmmgbnolccpjoaaGreatDoorX2
set_option maxHeartbeats 1000000
namespace Go.Proofs.YtmmgbnolccpjoaaGreatDoor
open Go.Proofs.Tryz
open Go Go.RowKit
set_option maxRecDepth 100000

variable {i : Nat}
theorem zr29 : ZR 29 [.str [], .str [], .str [], .str [], .str [], .str [], .str [], .bool false, .bool false, .slice 1 [] .full] := ZRi zeroValue29
theorem pl29 : PL 29 [(0, 1), (1, 1), (2, 1), (3, 1), (4, 1), (5, 1), (6, 1), (7, 1), (8, 1), (9, 1)] := PLi U29
theorem zr31 : ZR 31 [.str [], .str [], .str [], .str [], .str [], .str [], .str [], .bool false, .bool false, .int .i64 0] := ZRi zeroValue31
theorem pl31 : PL 31 [(0, 1), (1, 1), (2, 1), (3, 1), (4, 1), (5, 1), (6, 1), (7, 1), (8, 1), (9, 1)] := PLi U31

theorem biJ {W : World} (h : Inv W) {n : Nat} {d : DataW Unit} {xs : List Value} (hn : (n, d) ∈ arO) (hx : afT 4 d = some xs) {v : Value} (hi : xs[i]? = some v) : W.cell? ⟨n, i, none⟩ = some v := by
 obtain ⟨T, fz, hh⟩ := h.rows n d hn xs hx
 unfold World.cell?
 rw [hh]
 simpa using hi
def chH (l : List UInt8) : Value := .string ⟨l.toArray⟩
def namesL : List (List UInt8) := [[99, 104], [100, 101], [101, 110], [102, 114], [104, 105], [115, 118]]
def signsL : List (List UInt8) := [[46], [226, 128, 153], [59], [45], [67, 72, 70], [44], [46], [59], [45], [226, 130, 172], [46], [44], [44], [45], [36], [44], [226, 128, 175], [59], [45], [226, 130, 172], [46], [44], [44], [45], [226, 130, 185], [44], [194, 160], [59], [226, 136, 146], [107, 114]]
theorem bmH : afT 4 Rows.laid_tabard_locale_names = some (namesL.map chH) := by kernel_rfl
theorem bmG : afT 4 Rows.laid_tabard_locale_signs = some (signsL.map chH) := by kernel_rfl
def aoF (i : Nat) : List UInt8 := namesL.getD i []
def anS (i : Nat) : List UInt8 := signsL.getD i []
theorem brI {l : List (List UInt8)} (h : i < l.length) : (l.map chH)[i]? = some (chH (l.getD i [])) := by
 rw [eB, aR, bA h]; rfl
theorem bdI : ∀ i, (aoF i).length ≤ maxLen := fun i => by
 have : ∀ l ∈ namesL, l.length ≤ 10 := by decide
 unfold aoF
 rw [aR, zK]
 cases h : namesL[i]? with
 | none => simp
 | some l => have := this l (fD h); simp only [dZ]; omega
theorem bdG : ∀ i, (anS i).length ≤ maxLen := fun i => by
 have : ∀ l ∈ signsL, l.length ≤ 10 := by decide
 unfold anS
 rw [aR, zK]
 cases h : signsL[i]? with
 | none => simp
 | some l => have := this l (fD h); simp only [dZ]; omega
theorem bxK (hi : i < 6) : ∀ W, Inv W → ∃ v, W.cell? ⟨0, 0 + ((i : Nat) : Int).toNat * 1, none⟩ = some v ∧ ∀ g, RelV g (.str (aoF i)) v := by
 intro W h
 rw [show 0 + ((i : Nat) : Int).toNat * 1 = i by omega]
 exact ⟨_, biJ h (by simp [arO]) bmH (brI (by simpa [namesL] using hi)), fun g => .str _ (bdI i)⟩
theorem amA (hi : i < 6) (j : Nat) (hj : j < 5) (o : Nat) (ho : o = i * 5 + j) : ∀ W, Inv W → ∃ v, W.cell? ⟨1, o, none⟩ = some v ∧ ∀ g, RelV g (.str (anS (i * 5 + j))) v := by
 intro W h
 subst ho
 exact ⟨_, biJ h (by simp [arO]) bmG (brI (by simp [signsL]; omega)), fun g => .str _ (bdG _)⟩
structure FLoc where
 name : List UInt8
 dec : List UInt8
 grp : List UInt8
 lst : List UInt8
 minus : List UInt8
 pct : List UInt8
 cur : List UInt8
 first : Bool
 space : Bool
 sizes : List Int
def FLoc.cs (l : FLoc) : List AV := [.str l.name, .str l.dec, .str l.grp, .str l.lst, .str l.minus, .str l.pct, .str l.cur, .bool l.first, .bool l.space, .slice 1 (l.sizes.map (.int .i64)) .full]
def FLoc.none : FLoc := ⟨[], [], [], [], [], [], [], false, false, []⟩
def brS (i : Nat) (s : List UInt8) : FLoc :=
 ⟨s, anS (i * 5), anS (i * 5 + 1), anS (i * 5 + 2), anS (i * 5 + 3), [37], anS (i * 5 + 4), decide (s = [99, 104]) || (decide (s = [104, 105]) || decide (s = [101, 110])), !(decide (s = [104, 105]) || decide (s = [101, 110])), if s = [104, 105] then [3, 2] else [3]⟩
def atE (s : List UInt8) : Option Nat := (List.range 6).find? fun i => decide (aoF i = s)
theorem ajP {s : List UInt8} (hi : i < 6) (h : aoF i = s) (hl : ∀ j, j < i → aoF j ≠ s) : atE s = some i := by
 unfold atE
 rw [List.find?_eq_some_iff_append]
 refine ⟨by simp [h], List.range i, (List.range' (i + 1) (5 - i)), ?_, fun j hj => by simpa using hl j (by simpa using hj)⟩
 have : i = 0 ∨ i = 1 ∨ i = 2 ∨ i = 3 ∨ i = 4 ∨ i = 5 := by omega
 rcases this with rfl | rfl | rfl | rfl | rfl | rfl <;> rfl
theorem bmJ {s : List UInt8} (hl : ∀ j, j < 6 → aoF j ≠ s) : atE s = none := by
 unfold atE
 rw [List.find?_eq_none]
 intro j hj
 simpa using hl j (by simpa using hj)
def ahT (s : List UInt8) : FLoc × Int := match atE s with | some i => (brS i s, 0) | none => (FLoc.none, 8)
def locs : List Loc := [⟨[99, 104], [46], [226, 128, 153], [59], [45], [37], [67, 72, 70], true, true, 3⟩, ⟨[100, 101], [44], [46], [59], [45], [37], [226, 130, 172], false, true, 3⟩, ⟨[101, 110], [46], [44], [44], [45], [37], [36], true, false, 3⟩,
  ⟨[102, 114], [44], [226, 128, 175], [59], [45], [37], [226, 130, 172], false, true, 3⟩, ⟨[104, 105], [46], [44], [44], [45], [37], [226, 130, 185], true, false, 2⟩, ⟨[115, 118], [44], [194, 160], [59], [226, 136, 146], [37], [107, 114], false, true, 3⟩]
def szA (l : Loc) : AV := .slice 1 ((if l.second = 2 then [3, 2] else [3] : List Int).map (.int .i64)) .full
theorem abF : ∀ l ∈ locs, l.ok := by
 intro l hl
 simp only [locs, cO, eI, or_false] at hl
 rcases hl with rfl | rfl | rfl | rfl | rfl | rfl <;> (unfold Loc.ok; simp)
theorem bsO : ∀ l ∈ locs, (.agg (ahT l.name).1.cs : AV) = pL l (szA l) ∧ (ahT l.name).2 = 0 := by
 intro l hl
 simp only [locs, cO, eI, or_false] at hl
 rcases hl with rfl | rfl | rfl | rfl | rfl | rfl <;> exact ⟨rfl, rfl⟩

def caP (s : List UInt8) (b2 : Nat) (H : Heap) : Nat → Env → Heap → Prop := fun k env H1 => ∃ i : Nat, i ≤ 6 ∧ (∀ j, j < i → aoF j ≠ s) ∧ env = [(0, .str s), (2, .ptr (some ⟨b2, 0, none⟩)), (6, .int .i64 i)] ∧ H1 = H.set b2 (.box 29 [.str [], .str [], .str [], .str [], .str [], .str [], .str [], .bool false, .bool false, .slice 1 [] .full]) ∧ k = 6 - i

theorem bnS (s : List UInt8) (H : Heap) : ACall prog 31 [.str s] H (fun y H' => y = .tuple [.agg (ahT s).1.cs, .int .i64 (ahT s).2] ∧ H' = H) := by
 refine ACall.of_body func31 rfl ntmps31 results31 rfl ?_
 iterate 2 refine AX ?_
 refine .al zr29 (fun b2 hb2 => ?_)
 iterate 10 refine AX ?_
 refine AWP.loopW (caP s b2 H) (6) ⟨0, Nat.zero_le _, fun j h => absurd h (Nat.not_lt_zero _), rfl, rfl, rfl⟩ sX (hRa _) ?_
 rintro _ _ _ ⟨i, hi, hl, rfl, rfl, rfl⟩
 iterate 6 refine AX ?_
 refine AWP.cond (tm rfl) (fun hc7 => ?_) (fun hc7 => ?_)
 ·try simp only [aO] at hc7
  have hi6 : i < 6 := by omega
  iterate 14 refine AX ?_
  refine .p rfl (qT underlying117 Z9 (.global _) (tm rfl) aA aA) (.e rfl (aeT G9 (tm rfl) (bxK hi6)) ?_)
  iterate 4 refine AX ?_
  refine AWP.cond (tm rfl) (fun hc13 => ?_) (fun hc13 => ?_)
  ·try simp only [aM, eV] at hc13
   iterate 3 refine AX ?_
   refine Next.go ?_
   refine .region (.p rfl (acF (tm rfl) zH aA) (.mv rfl rfl (.nil ?_)))
   refine Next.go ?_
   refine Round.mk (J := caP s b2 H) ⟨i + 1, by omega, fun j hj => by rcases cD j i with h | h; exact hl j h; rw [show j = i by omega]; exact hc13, rfl, rfl, rfl⟩ sX (hRa _) aA
  try simp only [aO, eH] at hc13
  refine .skip ?_
  refine Next.go ?_
  refine .seq ?_
  refine AWP.draw [(0, true), (1, true), (2, true), (3, true), (4, true), (5, true), (6, true), (7, true), (8, true), (9, true), (10, true), (11, true), (12, true), (13, true), (14, true), (15, true), (16, true), (17, true), (18, true), (19, true), (20, true), (21, true), (22, true), (23, false), (24, false)] rfl aE ?_
  refine .p rfl rfl (zM (tm rfl)) (.p rfl rfl (zM (tm rfl)) (.p rfl rfl (qT U119 Z118 (.global _) (tm rfl) aA aA) (.p rfl rfl (qT U118 Z9 (tm rfl) zH aA aA) ?_)))
  refine APlan.f rfl rfl (fun _ => aeT G9 (tm rfl) (amA hi6 0 aC _ aA)) ?_
  refine .p rfl rfl (zM (tm rfl)) (.p rfl rfl (qT U119 Z118 (.global _) (tm rfl) aA aA) (.p rfl rfl (qT U118 Z9 (tm rfl) zH aA aA) ?_))
  refine APlan.f rfl rfl (fun _ => aeT G9 (tm rfl) (amA hi6 1 aC _ aA)) ?_
  refine .p rfl rfl (zM (tm rfl)) (.p rfl rfl (qT U119 Z118 (.global _) (tm rfl) aA aA) (.p rfl rfl (qT U118 Z9 (tm rfl) zH aA aA) ?_))
  refine APlan.f rfl rfl (fun _ => aeT G9 (tm rfl) (amA hi6 2 aC _ aA)) ?_
  refine .p rfl rfl (zM (tm rfl)) (.p rfl rfl (qT U119 Z118 (.global _) (tm rfl) aA aA) (.p rfl rfl (qT U118 Z9 (tm rfl) zH aA aA) ?_))
  refine APlan.f rfl rfl (fun _ => aeT G9 (tm rfl) (amA hi6 3 aC _ aA)) ?_
  refine .p rfl rfl (zM (tm rfl)) (.p rfl rfl (qT U119 Z118 (.global _) (tm rfl) aA aA) (.p rfl rfl (qT U118 Z9 (tm rfl) zH aA aA) ?_))
  refine APlan.f rfl rfl (fun _ => aeT G9 (tm rfl) (amA hi6 4 aC _ aA)) ?_
  refine APlan.f rfl rfl (fun _ => qQ U27 Z3 zeroValue3 rfl zH (.inl rfl) ⟨rfl, rfl⟩) ?_
  refine .p rfl rfl (ahP zr29 pl29 (.cons (tm rfl) (.inl rfl) (.cons (tm rfl) (.inl rfl) (.cons (tm rfl) (.inl rfl) (.cons (tm rfl) (.inl rfl) (.cons (tm rfl) (.inl rfl) (.cons (zR rfl) (.inl rfl) (.cons (tm rfl) (.inl rfl) (.cons yH (.inl rfl) (.cons yH (.inl rfl) (.cons (tm rfl) (.inl rfl) .nil)))))))))) rfl rfl) ?_
  refine .s rfl rfl (agJ zr29) ?_
  rintro _ _ ⟨b5, hb5, rfl, hH⟩
  obtain rfl := hH.symm
  have hn2_5 := Heap.ne_of (oS _ _ _) hb5
  refine .s0 rfl (zP Z29 (tm rfl) (tm rfl) rfl rfl (.inr ⟨_, rfl⟩) (oS _ _ _) (lB rfl)) ?_
  rintro _ _ ⟨rfl, hH⟩
  obtain rfl := hH.symm
  try first | rw [sS] | rw [sU aB]
  iterate 23 refine AX ?_
  refine AWP.cond (tm rfl) (fun hc38 => ?_) (fun hc38 => ?_)
  ·try simp only [aO] at hc38
   iterate 7 refine AX ?_
   refine .p rfl (zC U29 rfl Z4 (tm rfl)) (.e0 (zP Z4 (tm rfl) yH rfl rfl (.inl rfl) (oS _ _ _) (lB rfl)) ?_)
   try first | rw [sS] | rw [sU aB]
   refine .nil ?_
   refine Next.go ?_
   refine .exit ?_
   refine Block.miss rfl ?_
   refine Next.ex ?_
   refine Block.miss rfl ?_
   refine Next.ex ?_
   refine Block.hit ?_
   refine Next.go ?_
   refine .seq (.region (.e rfl (abO G29 Z29 (tm rfl) (oS _ _ _) (lB rfl)) (.e0 (zP Z29 (tm rfl) (tm rfl) rfl rfl (.inr ⟨_, rfl⟩) ((oN _ _ aB).trans (oS _ _ _)) (lB rfl)) ?_)))
   try first | rw [sS] | rw [sU aB]
   refine .p rfl (zG zH) (.nil ?_)
   refine Next.go ?_
   refine AWP.dropb (fS hb5 _) ?_
   refine AWP.frz (t := 2) rfl (hb2) ?_
   refine .ret ?_
   refine Block.rt ?_
   refine Next.rt ?_
   refine Next.rt ?_
   refine Block.rt ?_
   refine Next.rt ?_
   refine Ret.go (.cons (.cellI _ _ _ _ rfl G29 Z29 rfl) (.cons (.tmp _ _ rfl) .nil)) _ (hRa _) ?_
   refine ⟨?_, rfl⟩
   have hf : atE s = some i := ajP hi6 hc13 hl
   simp only [yE, ahT, hf]
   simp_all [brS, FLoc.cs]
   all_goals rfl
  try simp only [aM] at hc38
  iterate 9 refine AX ?_
  refine AWP.cond (tm rfl) (fun hc40 => ?_) (fun hc40 => ?_)
  ·try simp only [aO] at hc40
   iterate 3 refine AX ?_
   refine Block.miss rfl ?_
   refine Next.ex ?_
   refine Block.hit ?_
   refine Next.go ?_
   refine .region (.e rfl (ahJ U27 Z3 zeroValue3 rfl zH (.inl rfl) ⟨rfl, rfl⟩ zH (.inl rfl) ⟨rfl, rfl⟩) (.p rfl (zC U29 rfl Z27 (tm rfl)) (.e0 (zP Z27 (tm rfl) (tm rfl) rfl rfl (.inl rfl) (oS _ _ _) (lB rfl)) ?_)))
   try first | rw [sS] | rw [sU aB]
   refine .nil ?_
   refine Block.go ?_
   refine Next.go ?_
   refine .seq (.region (.p rfl (zC U29 rfl Z4 (tm rfl)) (.e0 (zP Z4 (tm rfl) yH rfl rfl (.inl rfl) (oS _ _ _) (lB rfl)) ?_)))
   try first | rw [sS] | rw [sU aB]
   refine .p rfl (zC U29 rfl Z4 (tm rfl)) (.e0 (zP Z4 (tm rfl) yH rfl rfl (.inl rfl) (oS _ _ _) (lB rfl)) ?_)
   try first | rw [sS] | rw [sU aB]
   refine .nil ?_
   refine Next.go ?_
   refine .exit ?_
   refine Block.hit ?_
   refine Next.go ?_
   refine .seq (.region (.e rfl (abO G29 Z29 (tm rfl) (oS _ _ _) (lB rfl)) (.e0 (zP Z29 (tm rfl) (tm rfl) rfl rfl (.inr ⟨_, rfl⟩) ((oN _ _ aB).trans (oS _ _ _)) (lB rfl)) ?_)))
   try first | rw [sS] | rw [sU aB]
   iterate 3 refine AX ?_
   refine AWP.dropb (fS hb5 _) ?_
   refine AWP.frz (t := 2) rfl (hb2) ?_
   iterate 6 refine AX ?_
   refine Ret.go (.cons (.cellI _ _ _ _ rfl G29 Z29 rfl) (.cons (.tmp _ _ rfl) .nil)) _ (hRa _) ?_
   refine ⟨?_, rfl⟩
   have hf : atE s = some i := ajP hi6 hc13 hl
   simp only [yE, ahT, hf]
   simp_all [brS, FLoc.cs]
   all_goals rfl
  try simp only [aM] at hc40
  iterate 8 refine AX ?_
  refine AWP.cond (tm rfl) (fun hc42 => ?_) (fun hc42 => ?_)
  ·try simp only [aO] at hc42
   iterate 10 refine AX ?_
   refine .p rfl (zC U29 rfl Z4 (tm rfl)) (.e0 (zP Z4 (tm rfl) yH rfl rfl (.inl rfl) (oS _ _ _) (lB rfl)) ?_)
   try first | rw [sS] | rw [sU aB]
   refine .p rfl (zC U29 rfl Z4 (tm rfl)) (.e0 (zP Z4 (tm rfl) yH rfl rfl (.inl rfl) (oS _ _ _) (lB rfl)) ?_)
   try first | rw [sS] | rw [sU aB]
   iterate 7 refine AX ?_
   refine .e rfl (abO G29 Z29 (tm rfl) (oS _ _ _) (lB rfl)) (.e0 (zP Z29 (tm rfl) (tm rfl) rfl rfl (.inr ⟨_, rfl⟩) ((oN _ _ aB).trans (oS _ _ _)) (lB rfl)) ?_)
   try first | rw [sS] | rw [sU aB]
   iterate 3 refine AX ?_
   refine AWP.dropb (fS hb5 _) ?_
   refine AWP.frz (t := 2) rfl (hb2) ?_
   iterate 6 refine AX ?_
   refine Ret.go (.cons (.cellI _ _ _ _ rfl G29 Z29 rfl) (.cons (.tmp _ _ rfl) .nil)) _ (hRa _) ?_
   refine ⟨?_, rfl⟩
   have hf : atE s = some i := ajP hi6 hc13 hl
   simp only [yE, ahT, hf]
   simp_all [brS, FLoc.cs]
   all_goals rfl
  try simp only [aM] at hc42
  iterate 13 refine AX ?_
  refine .e rfl (abO G29 Z29 (tm rfl) (oS _ _ _) (lB rfl)) (.e0 (zP Z29 (tm rfl) (tm rfl) rfl rfl (.inr ⟨_, rfl⟩) ((oN _ _ aB).trans (oS _ _ _)) (lB rfl)) ?_)
  try first | rw [sS] | rw [sU aB]
  iterate 3 refine AX ?_
  refine AWP.dropb (fS hb5 _) ?_
  refine AWP.frz (t := 2) rfl (hb2) ?_
  iterate 6 refine AX ?_
  refine Ret.go (.cons (.cellI _ _ _ _ rfl G29 Z29 rfl) (.cons (.tmp _ _ rfl) .nil)) _ (hRa _) ?_
  refine ⟨?_, rfl⟩
  have hf : atE s = some i := ajP hi6 hc13 hl
  simp only [yE, ahT, hf]
  simp_all [brS, FLoc.cs]
  all_goals rfl
 try simp only [aM, cH] at hc7
 iterate 7 refine AX ?_
 refine .p rfl (yB zr29 pl29 .nil rfl) (.e0 (zP Z29 (tm rfl) (tm rfl) rfl rfl (.inr ⟨_, rfl⟩) (oS _ _ _) (lB rfl)) ?_)
 try first | rw [sS] | rw [sU aB]
 iterate 3 refine AX ?_
 refine AWP.frz (t := 2) rfl (hb2) ?_
 refine AX ?_
 refine Ret.go (.cons (.cellI _ _ _ _ rfl G29 Z29 rfl) (.cons (.tmp _ _ rfl) .nil)) _ (hRa _) ?_
 refine ⟨?_, rfl⟩
 have hf : atE s = none := bmJ fun j hj => hl j aA
 simp only [yE, ahT, hf]
 rfl

theorem avD {l : Loc} (hl : l ∈ locs) : Fn 31 [.str l.name] (.tuple [pL l (szA l), .int .i64 0]) := by
 intro H
 have h := bnS l.name H
 obtain ⟨h1, h2⟩ := bsO l hl
 rw [h1, h2] at h
 exact h

theorem buK : Fn 36 [] (.slice 10 (locs.map rL) .full) := by
 intro H
 refine .of_body func36 rfl ntmps36 results36 rfl ?_
 iterate 2 refine AX ?_
 refine .p rfl (zG (aiB (sz := 10) (tl := .full))) ?_
 iterate 4 refine AX ?_
 refine .p rfl (ahP zr31 pl31 (.cons (zR rfl) (.inl rfl) (.cons (zR rfl) (.inl rfl) (.cons (zR rfl) (.inl rfl) (.cons (zR rfl) (.inl rfl) (.cons (zR rfl) (.inl rfl) (.cons (zR rfl) (.inl rfl) (.cons (zR rfl) (.inl rfl) (.cons yH (.inl rfl) (.cons yH (.inl rfl) (.cons zH (.inl rfl) .nil)))))))))) rfl rfl) ?_
 refine .p rfl (ahP zr31 pl31 (.cons (zR rfl) (.inl rfl) (.cons (zR rfl) (.inl rfl) (.cons (zR rfl) (.inl rfl) (.cons (zR rfl) (.inl rfl) (.cons (zR rfl) (.inl rfl) (.cons (zR rfl) (.inl rfl) (.cons (zR rfl) (.inl rfl) (.cons yH (.inl rfl) (.cons yH (.inl rfl) (.cons zH (.inl rfl) .nil)))))))))) rfl rfl) ?_
 refine .p rfl (ahP zr31 pl31 (.cons (zR rfl) (.inl rfl) (.cons (zR rfl) (.inl rfl) (.cons (zR rfl) (.inl rfl) (.cons (zR rfl) (.inl rfl) (.cons (zR rfl) (.inl rfl) (.cons (zR rfl) (.inl rfl) (.cons (zR rfl) (.inl rfl) (.cons yH (.inl rfl) (.cons yH (.inl rfl) (.cons zH (.inl rfl) .nil)))))))))) rfl rfl) ?_
 refine .p rfl (ahP zr31 pl31 (.cons (zR rfl) (.inl rfl) (.cons (zR rfl) (.inl rfl) (.cons (zR rfl) (.inl rfl) (.cons (zR rfl) (.inl rfl) (.cons (zR rfl) (.inl rfl) (.cons (zR rfl) (.inl rfl) (.cons (zR rfl) (.inl rfl) (.cons yH (.inl rfl) (.cons yH (.inl rfl) (.cons zH (.inl rfl) .nil)))))))))) rfl rfl) ?_
 refine .p rfl (ahP zr31 pl31 (.cons (zR rfl) (.inl rfl) (.cons (zR rfl) (.inl rfl) (.cons (zR rfl) (.inl rfl) (.cons (zR rfl) (.inl rfl) (.cons (zR rfl) (.inl rfl) (.cons (zR rfl) (.inl rfl) (.cons (zR rfl) (.inl rfl) (.cons yH (.inl rfl) (.cons yH (.inl rfl) (.cons zH (.inl rfl) .nil)))))))))) rfl rfl) ?_
 refine .p rfl (ahP zr31 pl31 (.cons (zR rfl) (.inl rfl) (.cons (zR rfl) (.inl rfl) (.cons (zR rfl) (.inl rfl) (.cons (zR rfl) (.inl rfl) (.cons (zR rfl) (.inl rfl) (.cons (zR rfl) (.inl rfl) (.cons (zR rfl) (.inl rfl) (.cons yH (.inl rfl) (.cons yH (.inl rfl) (.cons zH (.inl rfl) .nil)))))))))) rfl rfl) ?_
 refine .e rfl (bgV underlying69 Z31 zeroValue31 rfl rfl rfl (.cons (tm rfl) (.inr ⟨_, rfl⟩) (.cons (tm rfl) (.inr ⟨_, rfl⟩) (.cons (tm rfl) (.inr ⟨_, rfl⟩) (.cons (tm rfl) (.inr ⟨_, rfl⟩) (.cons (tm rfl) (.inr ⟨_, rfl⟩) (.cons (tm rfl) (.inr ⟨_, rfl⟩) .nil)))))) (ahZ ⟨rfl, rfl⟩ (ahZ ⟨rfl, rfl⟩ (ahZ ⟨rfl, rfl⟩ (ahZ ⟨rfl, rfl⟩ (ahZ ⟨rfl, rfl⟩ (ahZ ⟨rfl, rfl⟩ bzV))))))) ?_
 iterate 5 refine AX ?_
 exact ⟨rfl, rfl⟩

theorem blE (n : Nat) (hn : 0 < n ∧ n ≤ 100) (c : Int) (hc : -9223372036854775808 ≤ c ∧ c ≤ 9223372036854775807) (H : Heap) : ACall prog 24 [.int .i64 c, .int .i64 (n : Int)] H (fun y H' => (∃ k : Nat, k < n ∧ y = .int .i64 (k : Int)) ∧ H' = H) := by
 refine .of_body func24 rfl ntmps24 results24 rfl ?_
 iterate 5 refine AX ?_
 refine .seqToL [(0, .int .i64 (if c < 0 then -(c + 1) else c))] [1, 4] ?_ ?_
 ·iterate 6 refine AX ?_
  refine .cx rfl (fun hc6 => ?_) (fun hc6 => ?_)
  ·iterate 6 refine AX ?_
   exact ⟨rfl, (zN rfl (by (rw [aN aB]; done)) sX), rfl⟩
  refine AX ?_
  exact ⟨rfl, (zN rfl (by (rw [aI]; done)) sX), rfl⟩
 refine .sub [(0, _), (1, _), (4, _)] sX ?_
 generalize hq : (if c < 0 then -(c + 1) else c) = q
 have hq0 : 0 ≤ q := by rw [← hq]; split <;> omega
 have hm1 := Int.emod_nonneg q (show (n : Int) ≠ 0 by omega)
 have hm2 := Int.emod_lt_of_pos q (show 0 < (n : Int) by omega)
 iterate 4 refine AX ?_
 refine .p rfl (alO (tm rfl) (tm rfl) aA) ?_
 iterate 5 refine AX ?_
 refine ⟨⟨(q % (n : Int)).toNat, by omega, ?_⟩, rfl⟩
 show AV.int .i64 _ = _
 congr 1
 rw [Int.tmod_eq_emod_of_nonneg hq0]
 omega

theorem bfC (c : Int) (hc : -9223372036854775808 ≤ c ∧ c ≤ 9223372036854775807) (H : Heap) : ACall prog 10 [.int .i64 c] H (fun y H' => (∃ l, l ∈ locs ∧ y = .tuple [pL l (szA l), rL l]) ∧ H' = H) := by
 refine ACall.of_body func10 rfl ntmps10 results10 rfl ?_
 iterate 2 refine AX ?_
 refine .al zr29 (fun b2 hb2 => ?_)
 refine .al zr31 (fun b3 hb3 => ?_)
 have hn2_3 := Heap.ne_of (oS _ _ _) hb3
 iterate 4 refine AX ?_
 refine .cl rfl call36 .nil (buK _) ?_
 refine AX ?_
 refine .s rfl (zB call24 (.cons (tm rfl) (.cons zH .nil)) (blE 6 aC c hc _)) ?_
 rintro _ _ ⟨⟨k, hk6, rfl⟩, hH⟩
 obtain rfl := hH.symm
 have hkl : k < locs.length := hk6
 have hlm : locs[k] ∈ locs := eJ hkl
 iterate 2 refine AX ?_
 refine .al zr31 (fun b4 hb4 => ?_)
 have hn2_4 := Heap.ne_of (oS _ _ _) hb4
 have hn3_4 := Heap.ne_of (oS _ _ _) hb4
 iterate 3 refine AX ?_
 refine AWP.frz (t := 4) rfl (hb4) ?_
 iterate 2 refine AX ?_
 refine .p rfl (zA U31 rfl Z9 (tm rfl)) ?_
 refine AX ?_
 refine .cl rfl call31 (evs1 rfl) (avD hlm _) ?_
 iterate 3 refine AX ?_
 refine .al zr29 (fun b5 hb5 => ?_)
 have hn2_5 := Heap.ne_of (oS _ _ _) hb5
 have hn3_5 := Heap.ne_of (oS _ _ _) hb5
 iterate 4 refine AX ?_
 refine AWP.frz (t := 5) rfl (hb5) ?_
 refine AX ?_
 refine AWP.draw [(0, true), (1, true), (2, false), (3, false)] rfl aE ?_
 iterate 2 refine AX ?_
 refine .s0 rfl (zP Z29 (tm rfl) (tm rfl) rfl rfl (.inr ⟨_, rfl⟩) ((oN _ _ aB).trans (oS _ _ _)) (lB rfl)) ?_
 rintro _ _ ⟨rfl, hH⟩
 obtain rfl := hH.symm
 try first | rw [sS] | rw [sU aB]
 refine .s0 rfl (zP Z31 (tm rfl) (tm rfl) rfl rfl (.inr ⟨_, rfl⟩) (oS _ _ _) (lB rfl)) ?_
 rintro _ _ ⟨rfl, hH⟩
 obtain rfl := hH.symm
 try first | rw [sS] | rw [sU aB]
 iterate 2 refine AX ?_
 refine AWP.frz (t := 3) rfl (fS hb3 _) ?_
 refine AWP.frz (t := 2) rfl (hb2) ?_
 refine AX ?_
 refine Ret.go (.cons (.cellI _ _ _ _ rfl G29 Z29 rfl) (.cons (.cellI _ _ _ _ rfl isAgg31 Z31 rfl) .nil)) _ (hRa _) ?_
 exact ⟨⟨locs[k], hlm, rfl⟩, rfl⟩

end Go.Proofs.YtmmgbnolccpjoaaGreatDoor
