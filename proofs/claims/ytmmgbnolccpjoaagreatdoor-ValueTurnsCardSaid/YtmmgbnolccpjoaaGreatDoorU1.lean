import Derived.Test.YtmmgbnolccpjoaaGreatDoorQ3
import Derived.Test.YtmmgbnolccpjoaaGreatDoorLgk
set_option maxHeartbeats 1000000
namespace Go.Proofs.YtmmgbnolccpjoaaGreatDoor
open Go.Proofs.Tryz
open Go Go.RowKit
variable {l : Loc} {t : List UInt8}
section
set_option maxRecDepth 100000

def chS : AV → Value
 | .int k n => .int k n
 | .bool b => .bool b
 | _ => undef
theorem bjH : Tryz.zeroCells189 = ((aaJ fun _ => slotF).map chS).toArray := by kernel_rfl
theorem bvW {g : G} : ∀ {cs : List AV}, (∀ c, c ∈ cs → RelV g c (chS c)) → RelCells g cs (cs.map chS).toArray := fun {cs} h => by
 refine ⟨by simp, fun i c v hc hv => ?_⟩
 simp only [List.getElem?_toArray, eB, hc, Option.map_some, Option.some.injEq] at hv
 subst hv
 exact h c (fD hc)
theorem zrR : ∀ g, RelCells g (aaJ fun _ => slotF) (Value.cells (Value.agg Tryz.zeroCells189)) := fun g => by
 show RelCells g _ Tryz.zeroCells189
 rw [bjH]
 refine bvW fun c hc => ?_
 unfold aaJ at hc
 obtain ⟨i, _, hc⟩ := List.mem_flatMap.1 hc
 simp only [slotF, cO, eI, or_false] at hc
 rcases hc with rfl | rfl | rfl | rfl | rfl | rfl | rfl <;> first | exact .int _ _ | exact .bool _
theorem plR (fs : Array Field) (hfs : prog.underlying 189 = some (.struct fs)) : ∀ (i : Nat) f p, fs[i]? = some f → [(0, 5607)][i]? = some p → ∀ w, (sizeOf f.type).run prog w = .ok p.2 w := by
 have e := (Option.some.inj (hfs.symm.trans U189))
 cases e
 intro i f p hf hp w
 match i with
 | 0 => cases hf; cases hp; exact Z187 w
 | i + 1 => simp at hp
def avA : Nat → List AV := fun _ => slotF
theorem bbD : ROK avA := fun _ => .inl rfl

theorem bkO (H : Heap) : ACall prog 90 [] H (fun y H' => ∃ b, H.objs b = none ∧ y = .ptr (some ⟨b, 0, none⟩) ∧ H' = H.set b (.box 189 (aaJ avA))) := by
 refine .of_body func90 rfl ntmps90 results90 rfl ?_
 refine AX ?_
 -- region 0
 refine AX ?_
 refine .p rfl (zG amB) ?_
 refine .nil ?_
 iterate 2 refine AX ?_
 -- region 1
 refine AX ?_
 refine .p rfl (amZ [(0, 5607)] U189 zeroValue189 zrR rfl (plR _ U189) .nil rfl) ?_
 refine .s rfl (alF (.tmp _ _ rfl) (.inr ⟨_, rfl⟩)) ?_
 rintro _ _ ⟨b2, hb2, rfl, hH⟩
 obtain rfl := hH.symm
 refine .p rfl (zG (.tmp _ _ rfl)) ?_
 refine .nil ?_
 iterate 2 refine AX ?_
 -- ret 0
 refine AX ?_
 exact ⟨b2, hb2, rfl, rfl⟩

theorem zr123 : ZR 123 [.str [], .str [], .str [], .str [], .str [], .str [], .str [], .bool false, .bool false, .slice 1 [] .full, .ptr none] := ZRi zeroValue123
theorem pl123 : PL 123 [(0, 10), (10, 1)] := PLi U123

def erA (l : Loc) (b : Nat) : AV := .iptr ((pL l (szA l)).cells ++ [.ptr (some ⟨b, 0, none⟩)])

theorem bmQ (l : Loc) (H : Heap) : ACall prog 37 [pL l (szA l)] H (fun y H' => ∃ b, H.objs b = none ∧ y = erA l b ∧ H' = H.set b (.box 189 (aaJ avA))) := by
 refine .of_body func37 rfl ntmps37 results37 rfl ?_
 refine AX ?_
 -- region 0
 refine AX ?_
 refine .s rfl (qG (.tmp _ _ rfl) (.inr ⟨_, rfl⟩)) ?_
 rintro _ _ ⟨rfl, hH⟩
 obtain rfl := hH.symm
 refine .p rfl (zG amB) ?_
 refine .nil ?_
 iterate 2 refine AX ?_
 -- region 1
 refine .draw [(0, true), (1, false), (2, true), (3, true), (4, true)] rfl aE ?_
 first | (refine .p rfl rfl (agV G29 Z29 (.tmp _ _ rfl) (lB rfl)) ?_) | (refine .f rfl rfl (fun _ => abO G29 Z29 (.tmp _ _ rfl) (by first | assumption | exact (by assumption : Heap.le _ _).objs _ _ aB | exact oS _ _ _ | exact (oN _ _ aB).trans (oS _ _ _) | exact (oN _ _ aB).trans ((oN _ _ aB).trans (oS _ _ _)) | exact (oN _ _ aB).trans aB) (lB rfl)) ?_)
 refine .s rfl rfl (zB call90 .nil (bkO _)) ?_
 rintro _ _ ⟨b, hb, rfl, rfl⟩
 refine .p rfl rfl (yB zr123 pl123 (.cons (.tmp _ _ rfl) (.inr ⟨_, rfl⟩) (.cons (.tmp _ _ rfl) (.inl rfl) .nil)) rfl) ?_
 refine .f rfl rfl (fun _ => qG (.tmp _ _ rfl) (.inr ⟨_, rfl⟩)) ?_
 refine .p rfl rfl (zG (.tmp _ _ rfl)) ?_
 refine .nil ?_
 iterate 2 refine AX ?_
 -- ret 0
 refine AX ?_
 exact ⟨b, hb, rfl, rfl⟩

end
section
open Go Go.RowKit
set_option maxRecDepth 100000

def yF (l : Loc) (s : List UInt8) : List UInt8 × Bool :=
 if Lib.hasPrefix s [43] = true then (Lib.trimPrefix s [43], false)
 else if Lib.hasPrefix s [45] = true then (Lib.trimPrefix s [45], true)
 else if Lib.hasPrefix s l.minus = true then (Lib.trimPrefix s l.minus, true)
 else (s, false)
theorem alH (l : Loc) (s : List UInt8) : (yF l s).1.length ≤ s.length := by
 unfold yF
 repeat' split
 all_goals first | exact adR _ _ | exact aT _
def alX (l : Loc) : List (List UInt8) := [[45], l.minus]
def bbM (l : Loc) (s : List UInt8) : Option Int :=
 if (yF l s).1 ≠ [] ∧ avK (yF l s).1 = true ∧ (yF l s).1.length ≤ 9 then some (if (yF l s).2 = true then -(num (yF l s).1 : Int) else (num (yF l s).1 : Int)) else none
theorem bsT {s : List UInt8} {b : Bool} (ht : yF l s = (t, b)) (h : (amH t || decide (9 < (t.length : Int)) || decide (qN aeN t.length t ≠ [])) = true) : bbM l s = none := by
 unfold bbM
 rw [ht, aL]
 rintro ⟨h1, h2, h3⟩
 have hd := aeA.1 h2
 simp only [cN, aO] at h
 rcases h with (h | h) | h
 ·unfold amH at h
  rw [bgF h1 hd (by have h4 : t.length ≤ 9 := h3; show t.length ≤ 18; omega)] at h
  cases h
 ·have h4 : t.length ≤ 9 := h3
  omega
 exact h ((afC _ _ (aT _)).2 hd)
theorem bsS {s : List UInt8} {b : Bool} (ht : yF l s = (t, b)) (h : (amH t || decide (9 < (t.length : Int)) || decide (qN aeN t.length t ≠ [])) = false) : t ≠ [] ∧ Digs t ∧ t.length ≤ 9 ∧ bbM l s = some (if b = true then -(num t : Int) else (num t : Int)) := by
 simp only [cE, aM, dP] at h
 obtain ⟨⟨h1, h2⟩, h3⟩ := h
 have hd := (afC _ _ (aT _)).1 h3
 have hne : t ≠ [] := by
  rintro rfl
  unfold amH at h1
  simp [Lib.atoiAll] at h1
 refine ⟨hne, hd, by omega, ?_⟩
 unfold bbM
 rw [ht, aN ⟨hne, aeA.2 hd, by simp only; omega⟩]
theorem ccT (hd : Digs t) (hl : t.length ≤ 9) : num t < 1000000000 := bQ (agY hd) (bE (aZ aC hl) aC)

def bzN (l : Loc) (b : Nat) (s : List UInt8) (H : Heap) : Nat → Env → Heap → Prop := fun k env H1 => ∃ i : Nat, i ≤ 2 ∧ (∀ j, j < i → Lib.hasPrefix s ((alX l).getD j []) = false) ∧ env = [(1, .str s), (24, .slice 1 ((alX l).map .str) .full), (25, .int .i64 2), (26, .int .i64 (i : Int))] ∧ H = H1 ∧ k = 2 - i

theorem atW (l : Loc) (b : Nat) (s : List UInt8) (H : Heap) : ACall prog 95 [erA l b, .str s] H (fun y H' => y = .tuple [.str (yF l s).1, .bool (yF l s).2] ∧ H' = H) := by
 refine ACall.of_body func95 rfl ntmps95 results95 rfl ?_
 iterate 10 refine AX ?_
 refine .cl rfl C93 (.cons (tm rfl) (.cons (zR rfl) .nil)) (cutPrefixA _ _ _) ?_
 iterate 12 refine AX ?_
 refine AWP.cx rfl (fun hc17 => ?_) (fun hc17 => ?_)
 ·iterate 10 refine AX ?_
  refine ⟨?_, rfl⟩
  unfold yF
  rw [aN hc17]; rfl
 iterate 7 refine AX ?_
 refine .p rfl (zA U123 rfl Z29 (tm rfl)) (.p rfl (zA U29 rfl Z9 (tm rfl)) ?_)
 refine AX ?_
 refine .e rfl (ahJ U51 Z9 zeroValue9 rfl (zR rfl) (.inl rfl) ⟨rfl, rfl⟩ (tm rfl) (.inl rfl) ⟨rfl, rfl⟩) (.p rfl (agW U51 (tm rfl)) ?_)
 iterate 4 refine AX ?_
 refine AWP.loopW (bzN l b s H) (2) ⟨0, by omega, fun j h => absurd h (Nat.not_lt_zero _), rfl, rfl, rfl⟩ sX (hRa _) ?_
 rintro _ _ _ ⟨i, hi, hp, rfl, rfl, rfl⟩
 iterate 6 refine AX ?_
 refine AWP.cx rfl (fun hc27 => ?_) (fun hc27 => ?_)
 ·have hi2 : i < 2 := by omega
  have hil : i < (alX l).length := hi2
  have hgi : (alX l)[i] = (alX l).getD i [] := by rw [aR, bA hil]; rfl
  iterate 15 refine AX ?_
  refine .cl rfl C93 (evs2 rfl rfl) (cutPrefixA _ _ _) ?_
  iterate 12 refine AX ?_
  refine AWP.cx rfl (fun hc36 => ?_) (fun hc36 => ?_)
  ·iterate 14 refine AX ?_
   refine ⟨?_, rfl⟩
   unfold yF
   rcases (by omega : i = 0 ∨ i = 1) with rfl | rfl
   ·rw [aL (by simp [hc17]), aN (show Lib.hasPrefix s [45] = true from hc36)]; rfl
   rw [aL (by simp [hc17]), aL (by have := hp 0 aC; simpa [alX] using this), aN (show Lib.hasPrefix s l.minus = true from hc36)]; rfl
  iterate 8 refine AX ?_
  have hpi : Lib.hasPrefix s ((alX l).getD i []) = false := by rw [← hgi]; exact hc36
  refine Round.mk (J := bzN l b s H) ⟨i + 1, by omega, fun j hj => by rcases cD j i with h | h; exact hp j h; rw [show j = i by omega]; exact hpi, rfl, rfl, rfl⟩ sX (hRa _) aA
 iterate 14 refine AX ?_
 refine ⟨?_, rfl⟩
 unfold yF
 have h2 : i = 2 := by omega
 subst h2
 rw [aL (by simp [hc17]), aL (by have := hp 0 aC; simpa [alX] using this), aL (by have := hp 1 aC; simpa [alX] using this)]; rfl

theorem atF (l : Loc) (b : Nat) (s : List UInt8) (hs : s.length ≤ 2000) : Fn 211 [erA l b, .str s] (.tuple [.int .i64 ((bbM l s).getD 0), .bool (bbM l s).isSome]) := by
 intro H
 have hsl := alH l s
 obtain ⟨⟨t, m⟩, ht⟩ : ∃ q, yF l s = q := ⟨_, rfl⟩
 rw [ht] at hsl
 have hsl2 : t.length ≤ 2000 := by have : t.length ≤ s.length := hsl; omega
 refine .of_body func211 rfl ntmps211 results211 rfl ?_
 iterate 10 refine AX ?_
 refine .cl rfl call95 (evs2 rfl rfl) ((by have h := atW l b s; rw [ht] at h; exact h _)) ?_
 iterate 10 refine AX ?_
 refine .s rfl (zB call257 (evs1 rfl) (atoiAny t aA _)) ?_
 rintro _ _ ⟨⟨v, ev, rfl, hev, hv⟩, hH⟩
 obtain rfl := hH.symm
 iterate 8 refine AX ?_
 refine .seqTo 31 (.bool (amH t || decide (9 < (t.length : Int)) || decide (qN aeN t.length t ≠ []))) [4, 5, 6, 7] ?_ ?_
 ·-- region 3
  iterate 2 refine AX ?_
  refine .p rfl (bkV underlying233 (tm rfl) hev) ?_
  refine AX ?_
  refine zD (t := 22) rfl (fun hg22 => ?_) (fun hg22 => ?_)
  ·iterate 10 refine AX ?_
   exact ⟨rfl, zO rfl (by (rw [show amH t = _ from hg22]; rfl)) sX, rfl⟩
  iterate 5 refine AX ?_
  refine zD (t := 27) rfl (fun hg27 => ?_) (fun hg27 => ?_)
  ·iterate 5 refine AX ?_
   exact ⟨rfl, zO rfl (by (rw [show amH t = _ from hg22, show decide (9 < (t.length : Int)) = _ from hg27]; rfl)) sX, rfl⟩
  refine AX ?_
  refine .gs rfl rfl rfl aB (zB C96 (.cons (tm rfl) (.cons (.func _) .nil)) (trimDigitsA t _)) ?_
  rintro _ _ ⟨rfl, hH⟩
  obtain rfl := hH.symm
  iterate 3 refine AX ?_
  exact ⟨rfl, zO rfl (by (simp [*]; done)) sX, rfl⟩
 refine .sub [(31, _), (4, _), (5, _), (6, _), (7, _)] sX ?_
 refine .cx rfl (fun hc31 => ?_) (fun hc31 => ?_)
 ·have hex := bsT ht hc31
  iterate 9 refine AX ?_
  refine ⟨?_, rfl⟩
  rw [hex]; rfl
 obtain ⟨hne, hdt, hl9, hex⟩ := bsS ht hc31
 have hv2 : v = (num t : Int) := by
  simp only [cE] at hc31
  have h1 := hv hc31.1.1
  rw [bgF hne hdt aA] at h1
  injection h1 with h1; exact h1.symm
 subst hv2
 have hn9 := ccT hdt hl9
 iterate 2 refine AX ?_
 refine .seqToL [(7, .int .i64 (if m = true then -(num t : Int) else (num t : Int)))] [4, 5] ?_ ?_
 ·iterate 5 refine AX ?_
  refine .cx rfl (fun hc32 => ?_) (fun hc32 => ?_)
  ·iterate 5 refine AX ?_
   exact ⟨rfl, (zN rfl (by (rw [aN (show m = true from hc32)]; done)) sX), rfl⟩
  refine AX ?_
  exact ⟨rfl, (zN rfl (by (rw [aL (by rw [show m = false from hc32]; decide)]; done)) sX), rfl⟩
 refine .sub [(7, _), (4, _), (5, _)] sX ?_
 iterate 9 refine AX ?_
 refine ⟨?_, rfl⟩
 rw [hex]; rfl

end
section
open Go Go.RowKit
set_option maxRecDepth 100000

def abL (l : Loc) (i : Nat) : Nat := if i = 0 then 3 else if l.second = 2 then 2 else 3
def szI (l : Loc) : List Int := if l.second = 2 then [3, 2] else [3]
theorem boP (l : Loc) : (szI l).length = (if l.second = 2 then 2 else 1) ∧ ∀ (j : Nat) (h : j < (szI l).length), (szI l)[j] = if j = 0 then 3 else 2 := by
 unfold szI
 split
 ·refine ⟨rfl, fun j h => ?_⟩
  match j, h with
  | 0, _ => rfl
  | 1, _ => rfl
 refine ⟨rfl, fun j h => ?_⟩
 match j, h with
 | 0, _ => rfl
theorem aiM (l : Loc) (i : Nat) : 2 ≤ abL l i ∧ abL l i ≤ 3 := by
 unfold abL; repeat' split
 all_goals omega
theorem bvD (l : Loc) (i : Nat) : baZ 1 (if (bnU (i : Int) (((szI l).length : Int) - 1)).toNat = 0 then 3 else 2) = (abL l i : Int) := by
 rw [(boP l).1]
 unfold abL
 simp only [baZ, bnU]
 repeat' split
 all_goals (first | omega | (exfalso; simp_all; done) | simp_all)
def axP (l : Loc) : Nat → Nat → List UInt8 → List UInt8 → List UInt8
 | 0, _, d, s => d ++ s
 | f + 1, i, d, s => if abL l i < d.length then axP l f (i + 1) (d.take (d.length - abL l i)) (l.grp ++ d.drop (d.length - abL l i) ++ s) else d ++ s
theorem bbB (l : Loc) : ∀ (f g i : Nat) (d s : List UInt8), d.length ≤ f → d.length ≤ g → axP l f i d s = axP l g i d s
 | 0, 0, _, _, _, _, _ => rfl
 | 0, g + 1, i, d, s, hf, _ => by
  unfold axP
  rw [aI]
 | f + 1, 0, i, d, s, _, hg => by
  unfold axP
  rw [aI]
 | f + 1, g + 1, i, d, s, hf, hg => by
  have := aiM l i
  unfold axP
  split
  ·exact bbB l f g _ _ _ (by rw [aS]; omega) (by rw [aS]; omega)
  rfl
def aoH (l : Loc) (d : List UInt8) : List UInt8 := axP l d.length 0 d []
theorem bsH {i : Nat} {d s : List UInt8} (h : abL l i < d.length) : axP l d.length i d s = axP l (d.take (d.length - abL l i)).length (i + 1) (d.take (d.length - abL l i)) (l.grp ++ d.drop (d.length - abL l i) ++ s) := by
 have h2 := aiM l i
 obtain ⟨n, hn⟩ : ∃ n, d.length = n + 1 := ⟨d.length - 1, by omega⟩
 have e : axP l d.length i d s = axP l (n + 1) i d s := by rw [hn]
 rw [e, axP, aN h]
 refine bbB l _ _ _ _ _ ?_ ?_ <;> simp only [aS] <;> omega
theorem bxP {i : Nat} {d s : List UInt8} (h : ¬ abL l i < d.length) : axP l d.length i d s = d ++ s := by
 cases hd : d.length with
 | zero => rfl
 | succ n => rw [axP, aL h]
theorem biA (x : UInt8) : ([48, 49, 50, 51, 52, 53, 54, 55, 56, 57] : List UInt8).contains x = true ↔ isD x := by
 have key : ∀ n : Fin 256, (([48, 49, 50, 51, 52, 53, 54, 55, 56, 57] : List UInt8).contains (UInt8.ofNat n.1)) = decide (48 ≤ n.1 ∧ n.1 ≤ 57) := by decide +kernel
 have hx := key ⟨x.toNat, x.toNat_lt⟩
 rw [show UInt8.ofNat x.toNat = x by simp] at hx
 rw [hx, aO]
 rfl
theorem asB {p : UInt8 → Bool} : ∀ {l : List UInt8}, l.dropWhile p = [] ↔ ∀ x, x ∈ l → p x = true
 | [] => by simp
 | x :: l => by
  rw [dV]
  split
  ·rename_i h
   rw [asB]
   constructor
   ·intro q y hy
    rcases cO.1 hy with rfl | hy
    ·exact h
    exact q y hy
   intro q y hy; exact q y (by simp [hy])
  rename_i h
  constructor
  ·intro q; simp at q
  intro q; exact absurd (q x aF) h
theorem anP (s : List UInt8) : Lib.trimS s [48, 49, 50, 51, 52, 53, 54, 55, 56, 57] = [] ↔ Digs s := by
 show ((s.reverse.dropWhile (([48, 49, 50, 51, 52, 53, 54, 55, 56, 57] : List UInt8).contains ·)).reverse.dropWhile (([48, 49, 50, 51, 52, 53, 54, 55, 56, 57] : List UInt8).contains ·)) = [] ↔ _
 rw [asB]
 constructor
 ·intro h
  have h1 : s.reverse.dropWhile (([48, 49, 50, 51, 52, 53, 54, 55, 56, 57] : List UInt8).contains ·) = [] := by
   cases hc : s.reverse.dropWhile (([48, 49, 50, 51, 52, 53, 54, 55, 56, 57] : List UInt8).contains ·) with
   | nil => rfl
   | cons x r =>
    have hx := h x (by rw [hc]; simp)
    have hn := List.head?_dropWhile_not (p := fun x => ([48, 49, 50, 51, 52, 53, 54, 55, 56, 57] : List UInt8).contains x) (l := s.reverse)
    rw [hc] at hn
    simp only [List.head?_cons] at hn
    rw [hx] at hn; cases hn
  intro x hx
  exact (biA x).1 (asB.1 h1 x (by simpa using hx))
 intro h x hx
 refine (biA x).2 (h x ?_)
 have := (eK (l := s.reverse) (([48, 49, 50, 51, 52, 53, 54, 55, 56, 57] : List UInt8).contains ·)).subset (by simpa using hx)
 simpa using this
def adD (l : Loc) (s : List UInt8) : Option (List UInt8) :=
 if Lib.replaceAll s l.grp [] = [] ∨ avK (Lib.replaceAll s l.grp []) = false then none
 else if Lib.replaceAll s l.grp [] ≠ s ∧ aoH l (Lib.replaceAll s l.grp []) ≠ s then none
 else some (Lib.replaceAll s l.grp [])
theorem apE {s : List UInt8} : avK s = false ↔ ¬ Digs s := by
 rw [← aeA]; simp

theorem arK (l : Loc) (i : Nat) (hi : i ≤ 100000) : Fn 233 [pL l (szA l), .int .i64 (i : Int)] (.int .i64 (abL l i : Int)) := by
 intro H
 have hz : szA l = .slice 1 ((szI l).map (.int .i64)) .full := rfl
 rw [hz]
 obtain ⟨hl, hg⟩ := boP l
 have hl2 : 1 ≤ (szI l).length ∧ (szI l).length ≤ 2 := by rw [hl]; split <;> omega
 have hm := bvD l i
 refine .of_body func233 rfl ntmps233 results233 rfl ?_
 iterate 9 refine AX ?_
 refine .p rfl (zA U29 rfl Z27 (tm rfl)) ?_
 iterate 5 refine AX ?_
 refine .cond_false (tm rfl) (by exact bD aA) ?_
 iterate 4 refine AX ?_
 refine .p rfl (zA U29 rfl Z27 (tm rfl)) ?_
 iterate 2 refine AX ?_
 refine .p rfl (zA U29 rfl Z27 (tm rfl)) ?_
 iterate 4 refine AX ?_
 refine .p rfl (aqY U27 Z3 (tm rfl) (tm rfl) (by simp only [bnU]; split <;> omega) (by simp only [bnU]; split <;> omega)) ?_
 iterate 7 refine AX ?_
 refine ⟨?_, rfl⟩
 rw [← hm, ← hg]
 rfl

def bsI (l : Loc) (d0 : List UInt8) (H : Heap) : Nat → Env → Heap → Prop := fun k env H1 => ∃ (i : Nat) (d s : List UInt8), axP l d.length i d s = aoH l d0 ∧ i + d.length ≤ d0.length ∧ s.length + d.length ≤ d0.length + 10 * i ∧ env = [(1, .str d), (2, .iptr (pL l (szA l)).cells), (5, .str s), (6, .int .i64 (i : Int))] ∧ H = H1 ∧ k = d.length

theorem ayL (l : Loc) (hk : l.ok) (d0 : List UInt8) (hd0 : d0.length ≤ 10000) (H : Heap) : ACall prog 176 [pL l (szA l), .str d0] H (fun y H' => y = .str (aoH l d0) ∧ H' = H) := by
 obtain ⟨hk1, hk2, hk3, hk4, hk5⟩ := hk
 refine ACall.of_body func176 rfl ntmps176 results176 rfl ?_
 iterate 18 refine AX ?_
 refine AWP.loopW (bsI l d0 H) (d0.length) ⟨0, d0, [], rfl, by omega, by simp, rfl, rfl, rfl⟩ sX (hRa _) ?_
 rintro _ _ _ ⟨i, d, s, hg, hi, hl, rfl, rfl, rfl⟩
 have hz := aiM l i
 iterate 7 refine AX ?_
 refine .cl rfl call233 (evs2 rfl rfl) (arK l i aA _) ?_
 iterate 3 refine AX ?_
 refine AWP.cx rfl (fun hc13 => ?_) (fun hc13 => ?_)
 ·have hgt : abL l i < d.length := by omega
  iterate 10 refine AX ?_
  refine .cl rfl call233 (evs2 rfl rfl) (arK l i aA _) ?_
  iterate 5 refine AX ?_
  refine AWP.draw [(0, true), (1, true), (2, true), (3, true), (4, true), (5, true), (6, true), (7, true), (8, true)] rfl aE ?_
  refine .p rfl rfl (zA U29 rfl Z9 (tm rfl)) ?_
  iterate 4 refine AX ?_
  refine .p rfl rfl (zS (tm rfl) (tm rfl) (by rw [zK]; simp only [aW]; omega)) ?_
  refine AX ?_
  refine .p rfl rfl (zS (tm rfl) (tm rfl) (by rw [zK]; simp only [aP, aW]; omega)) ?_
  iterate 17 refine AX ?_
  have hcut : ((d.length : Int) - (abL l i : Int)).toNat = d.length - abL l i := by omega
  have htl : (d.take (d.length - abL l i)).length = d.length - abL l i := by rw [aS]; omega
  rw [hcut]
  refine Round.mk (J := bsI l d0 H) ⟨i + 1, (d.take (d.length - abL l i)), l.grp ++ d.drop (d.length - abL l i) ++ s, by rw [← hg]; exact (bsH hgt).symm, by omega, by simp only [aP, aW]; omega, rfl, rfl, rfl⟩ (zJ rfl (zJ rfl (zJ rfl (zN rfl (by congr 1) yJ)))) (hRa _) aA
 have hng : ¬ abL l i < d.length := by omega
 iterate 9 refine AX ?_
 refine .p rfl (zS (tm rfl) (tm rfl) (by rw [zK]; omega)) ?_
 iterate 5 refine AX ?_
 refine ⟨?_, rfl⟩
 rw [← hg, bxP hng]; rfl

theorem bhI (s old : List UInt8) : (Lib.replaceAll s old []).length ≤ s.length := by
 have := ajZ s old []
 simpa using this

theorem bgK (l : Loc) (hk : l.ok) (hg : l.grp ≠ []) (s : List UInt8) (hs : s.length ≤ 9000) : Fn 214 [pL l (szA l), .str s] (.tuple [.str ((adD l s).getD []), .bool (adD l s).isSome]) := by
 intro H
 have hql := bhI s l.grp
 have hgp := bP.2 hg
 refine .of_body func214 rfl ntmps214 results214 rfl ?_
 iterate 10 refine AX ?_
 refine .p rfl (zA U29 rfl Z9 (tm rfl)) ?_
 refine AX ?_
 refine .cl rfl call210 (.cons (tm rfl) (.cons (tm rfl) (.cons (zR rfl) .nil))) (replaceA s l.grp [] aA aA aF _) ?_
 iterate 4 refine AX ?_
 refine .seqTo 17 (.bool (decide ((Lib.replaceAll s l.grp []) = []) || decide (Lib.trimS (Lib.replaceAll s l.grp []) [48, 49, 50, 51, 52, 53, 54, 55, 56, 57] ≠ []))) [1, 2, 4, 5, 6] ?_ ?_
 ·-- region 2
  iterate 4 refine AX ?_
  refine zD (t := 13) rfl (fun hg13 => ?_) (fun hg13 => ?_)
  ·iterate 5 refine AX ?_
   exact ⟨rfl, zO rfl (by (simp [*]; done)) sX, rfl⟩
  refine AX ?_
  refine .gs rfl rfl rfl aB (zB call259 (.cons (tm rfl) (.cons (zR rfl) .nil)) (trimSetA [48, 49, 50, 51, 52, 53, 54, 55, 56, 57] aC aC _ _)) ?_
  rintro _ _ ⟨rfl, hH⟩
  obtain rfl := hH.symm
  iterate 3 refine AX ?_
  exact ⟨rfl, zO rfl (by (simp [*]; done)) sX, rfl⟩
 refine .sub [(17, _), (1, _), (2, _), (4, _), (5, _), (6, _)] sX ?_
 refine .cx rfl (fun hc17 => ?_) (fun hc17 => ?_)
 ·simp only [cN, aO] at hc17
  rw [anP] at hc17
  iterate 9 refine AX ?_
  refine ⟨?_, rfl⟩
  unfold adD
  rw [aN (hc17.imp id apE.2)]; rfl
 simp only [cE, aM, dP] at hc17
 rw [anP] at hc17
 iterate 3 refine AX ?_
 refine .seqTo 27 (.bool (decide ((Lib.replaceAll s l.grp []) ≠ s) && decide (aoH l (Lib.replaceAll s l.grp []) ≠ s))) [4, 5, 6] ?_ ?_
 ·-- region 4
  iterate 5 refine AX ?_
  refine zD (t := 21) rfl (fun hg21 => ?_) (fun hg21 => ?_)
  ·iterate 2 refine AX ?_
   refine .gs rfl rfl rfl aB (zB call176 (evs2 rfl rfl) (ayL l hk _ aA _)) ?_
   rintro _ _ ⟨rfl, hH⟩
   obtain rfl := hH.symm
   iterate 4 refine AX ?_
   exact ⟨rfl, zO rfl (by (simp [*]; done)) sX, rfl⟩
  iterate 7 refine AX ?_
  exact ⟨rfl, zO rfl (by (simp [*]; done)) sX, rfl⟩
 refine .sub [(27, _), (4, _), (5, _), (6, _)] sX ?_
 refine .cx rfl (fun hc27 => ?_) (fun hc27 => ?_)
 ·simp only [bK, aO] at hc27
  iterate 9 refine AX ?_
  refine ⟨?_, rfl⟩
  unfold adD
  rw [aL (fun q => q.elim hc17.1 (fun q => apE.1 q hc17.2)), aN hc27]; rfl
 simp only [bU, aM, dP] at hc27
 iterate 11 refine AX ?_
 refine ⟨?_, rfl⟩
 unfold adD
 rw [aL (fun q => q.elim hc17.1 (fun q => apE.1 q hc17.2)), aL (fun q => hc27.elim (fun h => q.1 h) (fun h => q.2 h))]; rfl

end
end Go.Proofs.YtmmgbnolccpjoaaGreatDoor
