import Derived.Test.YtmmgbnolccpjoaaGreatDoorU2
set_option maxHeartbeats 1000000
namespace Go.Proofs.YtmmgbnolccpjoaaGreatDoor
open Go.Proofs.Tryz
open Go Go.RowKit
section
set_option maxRecDepth 100000

def EntN.zero : EntN := ⟨0, 0, 0, false, false⟩
def adM (l : Loc) (u : List UInt8) : Option (List UInt8 × Bool) :=
 if Lib.hasPrefix u [40] = true then (if Lib.hasSuffix (Lib.trimPrefix u [40]) [41] = true then some (aaI zQ (Lib.trimSuffix (Lib.trimPrefix u [40]) [41]), true) else none)
 else some (qN zQ (yF l u).1.length (yF l u).1, (yF l u).2)
def axV (l : Loc) (v : List UInt8) (neg : Bool) : EntN × Int :=
 match aoN l (acT l v).2.1 with
 | none => (EntN.zero, 3)
 | some (d, e, k, gr, x) =>
  if (mkN neg d (e + (acT l v).2.2)).2 ≠ 0 then (EntN.zero, 2)
  else if zV (aiX (mkN neg d (e + (acT l v).2.2)).1.1 (mkN neg d (e + (acT l v).2.2)).1.2.1 (mkN neg d (e + (acT l v).2.2)).1.2.2) = 3 then (EntN.zero, 2)
  else (⟨aiX (mkN neg d (e + (acT l v).2.2)).1.1 (mkN neg d (e + (acT l v).2.2)).1.2.1 (mkN neg d (e + (acT l v).2.2)).1.2.2, (acT l v).1, k, gr, x⟩, 0)
def abU (l : Loc) (u : List UInt8) : EntN × Int := match adM l u with | none => (EntN.zero, 3) | some (v, neg) => axV l v neg
theorem arH {l : Loc} {s d : List UInt8} {e : Int} {k : Nat} {gr x : Bool} (h : aoN l s = some (d, e, k, gr, x)) : Digs d ∧ d.length ≤ 2 * s.length ∧ e ≤ 2000000000 ∧ -1000000000 - (s.length : Int) ≤ e := by
 unfold aoN at h
 cases hh : ajX l s with
 | none => rw [hh] at h; cases h
 | some q =>
  obtain ⟨t, n, y⟩ := q
  rw [hh] at h
  simp only at h
  cases hb : amG l t with
  | none => rw [hb] at h; cases h
  | some q =>
   obtain ⟨d2, k2, g2⟩ := q
   rw [hb] at h
   injection h with h
   injection h with h1 h2
   injection h2 with h2 h3
   subst h1; subst h2
   have a := auY hh
   have b := bnE hb
   exact ⟨b.1, by omega, by omega, by omega⟩
theorem ceO (l : Loc) (s : List UInt8) : -2 ≤ (acT l s).2.2 ∧ (acT l s).2.2 ≤ 0 := by
 unfold acT
 repeat' split
 all_goals simp
theorem ayG (neg : Bool) (ds : List UInt8) (e : Int) : aiX neg ds e < 18446744073709551616 := by
 have := bgW ds e
 unfold aiX aaA
 split <;> omega

theorem asS (l : Loc) (hk : l.ok) (hg : l.grp ≠ []) (f : Nat → List AV) (hf : ROK f) (s : List UInt8) (hs : s.length ≤ 1000) (b : Nat) (H : Heap) (hb : H.objs b = some (.box 189 (aaJ f))) : ACall prog 38 [erA l b, .str s] H (fun y H' => y = .tuple [.agg (abU l (aaI zQ s)).1.cs, .int .i64 (abU l (aaI zQ s)).2] ∧ ∃ f', ROK f' ∧ H' = H.set b (.box 189 (aaJ f'))) := by
 have htl := apM zQ s
 refine .of_body func38 rfl ntmps38 results38 rfl ?_
 iterate 2 refine AX ?_
 refine .al zr76 (fun b4 hb4 => ?_)
 iterate 11 refine AX ?_
 refine .cond_false (tm rfl) (by exact bD aA) ?_
 iterate 5 refine AX ?_
 refine .cl rfl call91 (.cons (tm rfl) (.cons (.func _) .nil)) (trimFuncA s _) ?_
 iterate 6 refine AX ?_
 refine .cl rfl C93 (.cons (tm rfl) (.cons (zR rfl) .nil)) (cutPrefixA _ _ _) ?_
 iterate 7 refine AX ?_
 refine .meet (fun env H2 => ∃ (v : List UInt8) (neg : Bool), adM l (aaI zQ s) = some (v, neg) ∧ v.length ≤ 1000 ∧ env = [(0, erA l b), (4, .ptr (some ⟨b4, 0, none⟩)), (5, .int .i64 0), (6, .str v), (7, .bool neg)] ∧ H2 = H.set b4 (.box 76 (EntN.cs EntN.zero))) ?_ ?_
 ·iterate 5 refine AX ?_
  refine .cx rfl (fun hc25 => ?_) (fun hc25 => ?_)
  ·iterate 9 refine AX ?_
   refine .cl rfl call94 (.cons (tm rfl) (.cons (zR rfl) .nil)) (cutSuffixA _ _ _) ?_
   iterate 13 refine AX ?_
   refine .cx rfl (fun hc32 => ?_) (fun hc32 => ?_)
   ·have hin : adM l (aaI zQ s) = none := by unfold adM; rw [aN hc25, aL (by simpa using hc32)]
    iterate 2 refine AX ?_
    refine .p rfl (yB zr76 pl76 .nil rfl) ?_
    iterate 4 refine AX ?_
    refine .frz (t := 4) rfl hb4 ?_
    iterate 4 refine AX ?_
    refine ⟨?_, f, hf, (Heap.set_self hb).symm⟩
    unfold abU
    rw [hin]; rfl
   have hin : adM l (aaI zQ s) = some (aaI zQ (Lib.trimSuffix (Lib.trimPrefix (aaI zQ s) [40]) [41]), true) := by unfold adM; rw [aN hc25, aN (by simpa using hc32)]
   iterate 4 refine AX ?_
   refine .cl rfl call91 (.cons (tm rfl) (.cons (.func _) .nil)) (trimFuncA _ _) ?_
   iterate 3 refine AX ?_
   refine .mk ⟨_, true, hin, by have := apM zQ (Lib.trimSuffix (Lib.trimPrefix (aaI zQ s) [40]) [41]); have := adQ (Lib.trimPrefix (aaI zQ s) [40]) [41]; have := adR (aaI zQ s) [40]; omega, rfl, rfl⟩ (zJ rfl (zJ rfl (zJ rfl (zJ rfl (zN rfl (by (rw [show Lib.hasPrefix (aaI zQ s) [40] = true from hc25])) yJ))))) (hRa _)
  have hin : adM l (aaI zQ s) = some (qN zQ (yF l (aaI zQ s)).1.length (yF l (aaI zQ s)).1, (yF l (aaI zQ s)).2) := by unfold adM; rw [aL (by simp [hc25])]
  iterate 4 refine AX ?_
  refine .cl rfl call95 (evs2 rfl rfl) (atW l b _ _) ?_
  iterate 9 refine AX ?_
  refine .cl rfl C96 (.cons (tm rfl) (.cons (.func _) .nil)) (trimLeftFuncA _ _) ?_
  iterate 3 refine AX ?_
  refine .mk ⟨_, _, hin, by have := acO zQ (yF l (aaI zQ s)).1.length (yF l (aaI zQ s)).1; have := alH l (aaI zQ s); omega, rfl, rfl⟩ (zJ rfl (zJ rfl (zJ rfl (zJ rfl (zN rfl aD yJ))))) (hRa _)
 rintro _ _ ⟨v, neg, hin, hvl, rfl, rfl⟩
 have hh4 := hb4
 iterate 2 refine AX ?_
 refine .al zr76 (fun b9 hb9 => ?_)
 have hn4_9 := Heap.ne_of (oS _ _ _) hb9
 iterate 3 refine AX ?_
 have h4b : b4 ≠ b := by intro q; rw [← q, hb4] at hb; cases hb
 have hb90 : H.objs b9 = none := by have q := hb9; rw [oN _ _ hn4_9.symm] at q; exact q
 have h9b : b9 ≠ b := by intro q; rw [← q, hb90] at hb; cases hb
 have hal := byX l v
 have hsh := ceO l v
 iterate 3 refine AX ?_
 refine .s rfl (zB call97 (evs3 rfl rfl rfl) (bcA l hk hg b v hvl EntN.zero ⟨rfl, rfl⟩ rfl b9 _ (oS _ _ _))) ?_
 rintro _ _ ⟨p, o1, rfl, rfl, hp⟩
 rw [sS]
 iterate 3 refine AX ?_
 refine .al zr130 (fun b10 hb10 => ?_)
 have hn4_10 := Heap.ne_of (oS _ _ _) hb10
 have hn9_10 := Heap.ne_of (oS _ _ _) hb10
 iterate 4 refine AX ?_
 refine .frz (t := 10) rfl (hb10) ?_
 iterate 7 refine AX ?_
 refine .cx rfl (fun hc51 => ?_) (fun hc51 => ?_)
 ·have hnn : aoN l (acT l v).2.1 = none := by simpa using hc51
  iterate 2 refine AX ?_
  refine .p rfl (yB zr76 pl76 .nil rfl) ?_
  iterate 4 refine AX ?_
  refine .dropb (fS hb9 _) ?_
  refine .frz (t := 4) rfl hb4 ?_
  iterate 3 refine AX ?_
  refine ⟨?_, f, hf, (Heap.set_self hb).symm⟩
  unfold abU
  rw [hin]
  show _ = AV.tuple [.agg (axV l v neg).1.cs, .int .i64 (axV l v neg).2]
  have hfp : axV l v neg = (EntN.zero, 3) := by
   unfold axV
   rw [hnn]
  rw [hfp]; rfl
 obtain ⟨⟨d, e, k, gr, x⟩, hnn⟩ := fU.1 (show (aoN l (acT l v).2.1).isSome = true by simpa using hc51)
 obtain ⟨rfl, rfl⟩ := hp _ hnn
 obtain ⟨hdd, hdl, he2, he3⟩ := arH hnn
 iterate 5 refine AX ?_
 refine .p rfl (zA U130 rfl Z9 (tm rfl)) ?_
 refine AX ?_
 refine .p rfl (zA U130 rfl Z3 (tm rfl)) ?_
 refine AX ?_
 refine .cl rfl call98 (evs3 rfl rfl rfl) (anM neg d (e + (acT l v).2.2) hdd aA (by constructor <;> omega) _) ?_
 iterate 3 refine AX ?_
 refine .al zr58 (fun b12 hb12 => ?_)
 have hn4_12 := Heap.ne_of (oS _ _ _) hb12
 have hn9_12 := Heap.ne_of (oS _ _ _) hb12
 iterate 4 refine AX ?_
 refine .frz (t := 12) rfl (hb12) ?_
 iterate 7 refine AX ?_
 refine .cx rfl (fun hc63 => ?_) (fun hc63 => ?_)
 ·have hm0 : (mkN neg d (e + (acT l v).2.2)).2 ≠ 0 := by simpa using hc63
  iterate 2 refine AX ?_
  refine .p rfl (yB zr76 pl76 .nil rfl) ?_
  iterate 4 refine AX ?_
  refine .dropb (fS hb9 _) ?_
  refine .frz (t := 4) rfl hb4 ?_
  iterate 3 refine AX ?_
  refine ⟨?_, f, hf, (Heap.set_self hb).symm⟩
  unfold abU
  rw [hin]
  show _ = AV.tuple [.agg (axV l v neg).1.cs, .int .i64 (axV l v neg).2]
  have hfp : axV l v neg = (EntN.zero, 2) := by
   unfold axV
   rw [hnn]
   simp only
   rw [aN hm0]
  rw [hfp]; rfl
 have hm0 : ¬ (mkN neg d (e + (acT l v).2.2)).2 ≠ 0 := by simpa using hc63
 iterate 4 refine AX ?_
 refine .draw [(0, true), (1, true), (2, true), (3, true), (4, true), (5, false), (6, true), (7, true), (8, true), (9, true), (10, false)] rfl aE ?_
 iterate 2 refine AX ?_
 refine .p rfl rfl (zA U123 rfl sizeOf120 (tm rfl)) ?_
 iterate 2 refine AX ?_
 refine .s rfl rfl (zB call99 (evs2 rfl rfl) (beA f hf (mkN neg d (e + (acT l v).2.2)).1.1 (mkN neg d (e + (acT l v).2.2)).1.2.1 (mkN neg d (e + (acT l v).2.2)).1.2.2 (ajJ hdd) b _ ((oN _ _ h9b.symm).trans ((oN _ _ h4b.symm).trans hb)))) ?_
 rintro _ _ ⟨rfl, f1, hf1, rfl⟩
 rw [Heap.set_comm h9b, Heap.set_comm h4b]
 iterate 3 refine AX ?_
 refine .p rfl rfl (zC U76 rfl Z22 (tm rfl)) (.s0 rfl (zP Z22 (tm rfl) (tm rfl) rfl rfl (.inl rfl) (oS _ _ _) (lB rfl)) ?_)
 rintro _ _ ⟨rfl, hH⟩
 obtain rfl := hH.symm
 try first | rw [sS] | rw [sU aB]
 iterate 4 refine AX ?_
 refine .p rfl (zC U76 rfl Z22 (tm rfl)) ?_
 refine AX ?_
 refine .cl rfl C89 (evs1 rfl) (qU (aiX (mkN neg d (e + (acT l v).2.2)).1.1 (mkN neg d (e + (acT l v).2.2)).1.2.1 (mkN neg d (e + (acT l v).2.2)).1.2.2) (ayG _ _ _) _) ?_
 iterate 3 refine AX ?_
 refine .cx rfl (fun hc78 => ?_) (fun hc78 => ?_)
 ·have hk3 : zV (aiX (mkN neg d (e + (acT l v).2.2)).1.1 (mkN neg d (e + (acT l v).2.2)).1.2.1 (mkN neg d (e + (acT l v).2.2)).1.2.2) = 3 := by omega
  iterate 2 refine AX ?_
  refine .p rfl (yB zr76 pl76 .nil rfl) ?_
  iterate 4 refine AX ?_
  refine .dropb ((oN _ _ hn4_9.symm).trans ((oN _ _ h9b).trans hb90)) ?_
  refine .frz (t := 4) rfl ((oN _ _ h4b).trans hb4) ?_
  iterate 3 refine AX ?_
  refine ⟨?_, f1, hf1, rfl⟩
  unfold abU
  rw [hin]
  show _ = AV.tuple [.agg (axV l v neg).1.cs, .int .i64 (axV l v neg).2]
  have hfp : axV l v neg = (EntN.zero, 2) := by
   unfold axV
   rw [hnn]
   simp only
   rw [aL hm0, aN hk3]
  rw [hfp]; rfl
 have hk3 : ¬ zV (aiX (mkN neg d (e + (acT l v).2.2)).1.1 (mkN neg d (e + (acT l v).2.2)).1.2.1 (mkN neg d (e + (acT l v).2.2)).1.2.2) = 3 := by omega
 iterate 9 refine AX ?_
 refine .dropb ((oN _ _ hn4_9.symm).trans ((oN _ _ h9b).trans hb90)) ?_
 refine .frz (t := 4) rfl ((oN _ _ h4b).trans hb4) ?_
 iterate 2 refine AX ?_
 refine ⟨?_, f1, hf1, rfl⟩
 unfold abU
 rw [hin]
 show _ = AV.tuple [.agg (axV l v neg).1.cs, .int .i64 (axV l v neg).2]
 have hfp : axV l v neg = (⟨(aiX (mkN neg d (e + (acT l v).2.2)).1.1 (mkN neg d (e + (acT l v).2.2)).1.2.1 (mkN neg d (e + (acT l v).2.2)).1.2.2), (acT l v).1, k, gr, x⟩, 0) := by
  unfold axV
  rw [hnn]
  simp only
  rw [aL hm0, aL hk3]
 rw [hfp]; rfl

end
theorem blZ {x : Nat} (h : x < aoG) : zV x ≤ 2 := by
 unfold aoG at h
 unfold zV
 repeat' split
 all_goals omega
theorem brY {x : Nat} (neg : Bool) (h : x ≤ aoG) : zV (aaA neg + x) ≤ 3 := by
 unfold aoG at h
 unfold zV aaA
 repeat' split
 all_goals omega
theorem boL : ∀ i : Fin 23, zV (cbN i.1) ≤ 2 := by decide +kernel
theorem biC {p q : Nat} (hp : p ≤ 2) (hq : q ≤ 2) : blM (ajW p) (ajW q) ≠ 1 ∧ blM (ajW p) (ajW q) ≠ 5 := by
 rcases (by omega : p = 0 ∨ p = 1 ∨ p = 2) with rfl | rfl | rfl <;> rcases (by omega : q = 0 ∨ q = 1 ∨ q = 2) with rfl | rfl | rfl <;> decide
theorem bxR {a b : Nat} (ha : a < 9223372036854775808) (hb : b < 9223372036854775808) (hka : zV a ≤ 2) (hkb : zV b ≤ 2) : aeQ a b ≤ aoG := by
 have hn : alW a b = false := by
  unfold alW
  refine bD ?_
  rw [cB (show a < 2 ^ 63 from ha), cB (show b < 2 ^ 63 from hb)]
  simp
 unfold aeQ
 rw [aL (biC hka hkb).1, aL (biC hka hkb).2, hn]
 exact acV _ _ _
theorem bsL {m : Nat} (hm : m < 10 ^ 15) : zV (zX false m 0 false) ≤ 2 := by
 refine blZ ?_
 rcases bF m with h | h
 ·subst h; decide +kernel
 have h1 := agR (n1 := m) (n2 := 10 ^ 15) (e := 0) (m1 := false) (m2 := false) aC aC h (.inl hm)
 have h2 : zX false (10 ^ 15) 0 false < aoG := by decide +kernel
 exact aV h1 h2
theorem boW {ds : List UInt8} (hd : Digs ds) (e : Int) : aiL ds e ≤ aoG := by
 have hs : apQ (num ds) e ≤ aoG := by
  unfold apQ azP
  split <;> exact acV _ _ _
 unfold aiL
 split
 ·exact Nat.zero_le _
 split
 ·exact aT _
 split
 ·split
  ·rename_i h
   have hm : num ds < 10 ^ 15 := bQ (agY hd) (aZ aC h.1)
   exact bxR (aV (acV _ _ _) aC) (bdA _) (bsL hm) (boL ⟨e.toNat, by omega⟩)
  split
  ·exact acV _ _ _
  exact hs
 exact hs
theorem btZ (l : Loc) (s : List UInt8) : 0 ≤ (acT l s).1 ∧ (acT l s).1 ≤ 2 := by
 unfold acT
 repeat' split
 all_goals simp
theorem bmP (l : Loc) (u : List UInt8) : ((abU l u).2 ≠ 0 → (abU l u).1 = EntN.zero) ∧ ((abU l u).2 = 0 → zV (abU l u).1.bits ≤ 2 ∧ (abU l u).1.bits < 18446744073709551616 ∧ 0 ≤ (abU l u).1.places ∧ 0 ≤ (abU l u).1.kind ∧ (abU l u).1.kind ≤ 2) := by
 unfold abU
 cases hi : adM l u with
 | none => exact ⟨fun _ => rfl, fun h => by cases h⟩
 | some q =>
  obtain ⟨v, neg⟩ := q
  simp only
  unfold axV
  cases hn : aoN l (acT l v).2.1 with
  | none => exact ⟨fun _ => rfl, fun h => by cases h⟩
  | some r =>
   obtain ⟨d, e, k, gr, x⟩ := r
   simp only
   split
   ·exact ⟨fun _ => rfl, fun h => by cases h⟩
   split
   ·exact ⟨fun _ => rfl, fun h => by cases h⟩
   rename_i hk
   have hd := (arH hn).1
   have hr := qC (ajJ (neg := neg) (e := e + (acT l v).2.2) hd)
   have h3 := brY (mkN neg d (e + (acT l v).2.2)).1.1 (boW hr (mkN neg d (e + (acT l v).2.2)).1.2.2)
   have ha := btZ l v
   refine ⟨fun h => absurd rfl h, fun _ => ⟨?_, ayG _ _ _, cL k, ha.1, ha.2⟩⟩
   show zV (aiX _ _ _) ≤ 2
   unfold aiX at hk ⊢
   omega
theorem aaC : ∀ l ∈ locs, l.grp ≠ [] := by
 intro l hl
 simp only [locs, cO, eI, or_false] at hl
 rcases hl with rfl | rfl | rfl | rfl | rfl | rfl <;> simp
end Go.Proofs.YtmmgbnolccpjoaaGreatDoor
