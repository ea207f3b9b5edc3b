import Derived.Test.YtmmgbnolccpjoaaGreatDoorB4
set_option maxHeartbeats 1000000
namespace Go.Proofs.YtmmgbnolccpjoaaGreatDoor
open Go.Proofs.Tryz
open Go Go.RowKit
open Go.Lib
variable {l : Loc} {i : Nat} {t : List UInt8}
section

set_option maxRecDepth 100000
theorem auZ {s p : List UInt8} (h : hasPrefix s p = true) : p.length ≤ s.length := by
 obtain ⟨z, rfl⟩ := acZ.1 h
 rw [aP]; omega
theorem cdR {d : List UInt8} (h : i < d.length) : gRo l 0 (d.drop i) (decide (i = 0)) = (if 0 < i ∧ ajV l (d.length - i) then l.grp else []) ++ ([d.getD i 0] ++ gRo l 0 (d.drop (i + 1)) (decide (i + 1 = 0))) := by
 rw [cA h, gRo, bD (show ¬ i + 1 = 0 by omega), aW, aR, bA h]
 have e : d.length - (i + 1) + 1 + 0 = d.length - i := by omega
 rw [e]
 by_cases hi : i = 0
 ·subst hi; simp
 rw [bD hi]
 by_cases hm : ajV l (d.length - i)
 ·rw [aN ⟨rfl, hm⟩, aN ⟨by omega, hm⟩]; rfl
 rw [aL (fun q => hm q.2), aL (fun q => hm q.2)]; rfl
theorem cgB {d : Nat} (h : (3 : Int) ≤ (d : Int) - (i : Int)) : ((d : Int) - (i : Int) - 3).tmod (l.second : Int) = 0 ↔ ajV l (d - i) := by
 have e : (d : Int) - (i : Int) - 3 = ((d - i - 3 : Nat) : Int) := by omega
 unfold ajV chI
 rw [e, ← Int.ofNat_tmod]
 omega
theorem cgA {d : Nat} (h : (d : Int) - (i : Int) < 3) : ¬ ajV l (d - i) := fun q => by
 have := q.1
 omega

def caA (l : Loc) (d : List UInt8) (H : Heap) : Nat → Env → Heap → Prop := fun k env H1 => ∃ (i : Nat) (o : List UInt8), i ≤ d.length ∧ o ++ (gRo l 0 (d.drop i) (decide (i = 0))) = gR l d ∧ o.length ≤ 11 * i ∧ env = [(1, .str d), (2, .iptr (rL l).cells), (5, .str o), (6, .int .i64 (i : Int))] ∧ H = H1 ∧ k = d.length - i

theorem asZ (l : Loc) (hk : l.ok) (hs2 : l.second = 2 ∨ l.second = 3) (d : List UInt8) (hd : d.length ≤ 10000) (H : Heap) : ACall prog 179 [rL l, .str d] H (fun y H' => y = .str (gR l d) ∧ H' = H) := by
 obtain ⟨hk1, hk2, hk3, hk4, hk5⟩ := hk
 have hml := zK
 refine ACall.of_body func179 rfl ntmps179 results179 rfl ?_
 iterate 18 refine AX ?_
 refine AWP.loopW (caA l d H) (d.length) ⟨0, [], by omega, rfl, by simp, rfl, rfl, rfl⟩ sX (hRa _) ?_
 rintro _ _ _ ⟨i, o, hi, hg, hl, rfl, rfl, rfl⟩
 iterate 9 refine AX ?_
 refine AWP.cx rfl (fun hc11 => ?_) (fun hc11 => ?_)
 ·iterate 13 refine AX ?_
  refine AWP.seqToL [(5, .str (o ++ (if 0 < i ∧ ajV l (d.length - i) then l.grp else [])))] [1, 2, 6] ?_ ?_
  ·refine AWP.seqTo 31 (.bool (decide (0 < i ∧ ajV l (d.length - i)))) [1, 2, 5, 6] ?_ ?_
   ·-- region 6
    iterate 4 refine AX ?_
    refine zD (t := 20) rfl (fun hg20 => ?_) (fun hg20 => ?_)
    ·iterate 4 refine AX ?_
     refine zD (t := 24) rfl (fun hg24 => ?_) (fun hg24 => ?_)
     ·iterate 2 refine AX ?_
      refine .gp rfl rfl rfl aB (zA U31 rfl Z3 (tm rfl)) ?_
      refine AX ?_
      refine .gp rfl rfl rfl aB (alO (tm rfl) (tm rfl) aA) ?_
      iterate 3 refine AX ?_
      exact ⟨rfl, zO rfl (by (simp_all; exact cgB aA)) sX, rfl⟩
     iterate 8 refine AX ?_
     exact ⟨rfl, zO rfl (by (simp_all; exact cgA aA)) sX, rfl⟩
    iterate 12 refine AX ?_
    exact ⟨rfl, zO rfl aH sX, rfl⟩
   refine AWP.sub [(31, _), (1, _), (2, _), (5, _), (6, _)] sX ?_
   refine AWP.cx rfl (fun hc31 => ?_) (fun hc31 => ?_)
   ·iterate 2 refine AX ?_
    refine .p rfl (zA U31 rfl Z9 (tm rfl)) ?_
    refine AX ?_
    refine .p rfl (zS (tm rfl) (tm rfl) (by rw [zK]; omega)) ?_
    iterate 2 refine AX ?_
    exact ⟨rfl, (zN rfl (by (rw [aN aB]; done)) sX), rfl⟩
   refine AX ?_
   exact ⟨rfl, (zN rfl (by (rw [aL aB, bM]; done)) sX), rfl⟩
  refine AWP.sub [(5, _), (1, _), (2, _), (6, _)] sX ?_
  iterate 7 refine AX ?_
  refine .p rfl (zS (tm rfl) (tm rfl) (by rw [zK]; simp only [aP, aW, aS]; (try split) <;> (try simp only [bH]) <;> omega)) ?_
  iterate 10 refine AX ?_
  have hst := cdR (l := l) (show i < d.length by omega)
  refine Round.mk (J := caA l d H) ⟨i + 1, o ++ ((if 0 < i ∧ ajV l (d.length - i) then l.grp else []) ++ [d.getD i 0]), by omega, by rw [← hg, hst]; simp only [aQ], by simp only [aP, aU, bH]; split <;> (try simp only [bH]) <;> omega, rfl, rfl, rfl⟩ (zJ rfl (zJ rfl (zN rfl (by rw [show ((i : Int)).toNat = i from rfl, show ((i : Int) + 1).toNat = i + 1 by omega, apS aA, aQ]) (zJ rfl yJ)))) (hRa _) aA
 iterate 13 refine AX ?_
 refine ⟨?_, rfl⟩
 have hi2 : i = d.length := by omega
 subst hi2
 rw [eZ] at hg
 rw [← hg]; show AV.str o = .str (o ++ [])
 rw [bM]

theorem bzW (s : List UInt8) : ∀ x, x ∈ s.map bv → x.row 1 := fun x hx => by
 obtain ⟨b, _, rfl⟩ := List.mem_map.1 hx
 exact ⟨rfl, rfl⟩
theorem btT (o : List UInt8) (c : UInt8) : o.map bv ++ [.int .u8 ((c.toNat : Nat) : Int)] = (o ++ [c]).map bv := by rw [fG]; rfl
theorem apX {l : Loc} (hg : l.grp ≠ []) : ∀ (f g : Nat) (s : List UInt8), s.length ≤ f → s.length ≤ g → adN l f s = adN l g s
 | 0, 0, _, _, _ => rfl
 | 0, g + 1, s, h, _ => by
  have : s = [] := bV.1 aA
  subst this; simp [adN]
 | f + 1, 0, s, _, h => by
  have : s = [] := bV.1 aA
  subst this; simp [adN]
 | f + 1, g + 1, s, h1, h2 => by
  have := bP.2 hg
  rw [adN, adN, apX hg f g (s.drop 1) (by rw [aW]; omega) (by rw [aW]; omega), apX hg f g (s.drop l.grp.length) (by rw [aW]; omega) (by rw [aW]; omega)]
def ajU (l : Loc) (s : List UInt8) : Option (List UInt8 × Bool) := adN l s.length s
def asW (o : List UInt8) (m : Bool) (r : Option (List UInt8 × Bool)) : Option (List UInt8 × Bool) := match r with | none => none | some (d, m2) => some (o ++ d, m || m2)
theorem bvL (hg : l.grp ≠ []) {s : List UInt8} (h : i < s.length) (hd : anF (s.getD i 0) = true) (o : List UInt8) (m : Bool) : asW o m (ajU l (s.drop i)) = asW (o ++ [s.getD i 0]) m (ajU l (s.drop (i + 1))) := by
 have e := cA h
 have e2 : s.getD i 0 = s[i] := by rw [aR, bA h]; rfl
 unfold ajU
 rw [e, aU, adN, aL (List.cons_ne_nil _ _), cG, aN (by rw [← e2]; exact hd), eM, cT, e2]
 cases adN l (s.drop (i + 1)).length (s.drop (i + 1)) with
 | none => rfl
 | some q => simp [asW]
theorem bvK (hg : l.grp ≠ []) {s : List UInt8} (h : i < s.length) (hd : anF (s.getD i 0) = false) (hp : hasPrefix (s.drop i) l.grp = true) (o : List UInt8) (m : Bool) : asW o m (ajU l (s.drop i)) = asW o true (ajU l (s.drop (i + l.grp.length))) := by
 have e := cA h
 have e2 : s.getD i 0 = s[i] := by rw [aR, bA h]; rfl
 have hl := bP.2 hg
 have e3 : adN l (s.drop i).length (s.drop i) = (match adN l (s.drop (i + 1)).length ((s.drop i).drop l.grp.length) with | none => none | some (d, _) => some (d, true)) := by
  conv => lhs; rw [e, aU, adN, ← e]
  rw [aL (by rw [e]; exact List.cons_ne_nil _ _), aL (by rw [e, cG, ← e2, hd]; decide), aN hp]; rfl
 unfold ajU
 rw [e3, fL, apX hg _ (s.drop (i + l.grp.length)).length _ (by rw [aW, aW]; omega) (aT _)]
 cases adN l (s.drop (i + l.grp.length)).length (s.drop (i + l.grp.length)) with
 | none => rfl
 | some q => simp [asW]
theorem bvM {s : List UInt8} (h : i < s.length) (hd : anF (s.getD i 0) = false) (hp : hasPrefix (s.drop i) l.grp = false) : ajU l (s.drop i) = none := by
 have e := cA h
 have e2 : s.getD i 0 = s[i] := by rw [aR, bA h]; rfl
 unfold ajU
 conv => lhs; rw [e, aU, adN, ← e]
 rw [aL (by rw [e]; exact List.cons_ne_nil _ _), aL (by rw [e, cG, ← e2, hd]; decide), aL (by rw [hp]; decide)]
theorem bhP {s : List UInt8} (hi : i ≤ s.length) : (decide ((s.length : Int) < (i : Int) + (t.length : Int)) || decide ((s.take ((i : Int) + (t.length : Int)).toNat).drop (i : Int).toNat ≠ t)) = !hasPrefix (s.drop i) t := by
 have e1 : ((i : Int) + (t.length : Int)).toNat = i + t.length := by omega
 have e2 : ((i : Int)).toNat = i := rfl
 rw [e1, e2, ← hasPrefix_of_take, aW, List.drop_take, fF, Bool.not_and, ← decide_not]
 congr 1
 ·exact aY.2 aA
 by_cases h : (s.drop i).take t.length = t <;> simp [h]

theorem azO (c : UInt8) : Fn 319 [.int .u8 ((c.toNat : Nat) : Int)] (.bool (anF c)) := by
 intro H
 refine .of_body func319 rfl ntmps319 results319 rfl ?_
 iterate 10 refine AX ?_
 refine zD (t := 5) rfl (fun hg5 => ?_) (fun hg5 => ?_)
 ·iterate 8 refine AX ?_
  refine ⟨congrArg AV.bool ?_, rfl⟩
  unfold anF
  rw [bG (show 48 ≤ c.toNat by simp_all; omega)]
  exact aY.2 aA
 iterate 8 refine AX ?_
 refine ⟨congrArg AV.bool ?_, rfl⟩
 unfold anF
 rw [bD (show ¬ 48 ≤ c.toNat by simp_all; omega)]
 rfl

theorem anW (c : UInt8) : Fn 274 [.int .u8 ((c.toNat : Nat) : Int)] (.bool (anF c)) := by
 intro H
 refine .of_body func274 rfl ntmps274 results274 rfl ?_
 iterate 10 refine AX ?_
 refine zD (t := 5) rfl (fun hg5 => ?_) (fun hg5 => ?_)
 ·iterate 8 refine AX ?_
  refine ⟨congrArg AV.bool ?_, rfl⟩
  unfold anF
  rw [bG (show 48 ≤ c.toNat by simp_all; omega)]
  exact aY.2 aA
 iterate 8 refine AX ?_
 refine ⟨congrArg AV.bool ?_, rfl⟩
 unfold anF
 rw [bD (show ¬ 48 ≤ c.toNat by simp_all; omega)]
 rfl

def awH (l : Loc) (s : List UInt8) (H : Heap) : Nat → Env → Heap → Prop := fun k env H1 => ∃ (i t : Nat) (o : List UInt8) (m : Bool), i ≤ s.length ∧ asW o m (ajU l (s.drop i)) = ajU l s ∧ o.length ≤ i ∧ env = [(1, .str s), (2, .iptr (rL l).cells), (6, .slice 1 (o.map bv) (.own t)), (7, .bool m), (8, .int .i64 (i : Int))] ∧ H.le H1 ∧ H1.toks t = true ∧ H.toks t = false ∧ k = s.length - i

theorem azU (l : Loc) (hk : l.ok) (hs2 : l.second = 2 ∨ l.second = 3) (hg : l.grp ≠ []) (s : List UInt8) (hs : s.length ≤ 4000) (H : Heap) : ACall prog 275 [rL l, .str s] H (fun y H' => y = .tuple [.str ((aeM l s).getD []), .bool (aeM l s).isSome] ∧ H' = H) := by
 have hle0 := hRa H
 obtain ⟨hk1, hk2, hk3, hk4, hk5⟩ := id hk
 have hgl := bP.2 hg
 have hml := zK
 refine ACall.of_body func275 rfl ntmps275 results275 rfl ?_
 iterate 24 refine AX ?_
 refine AWP.tag (t := 6) rfl (fun u6 hu6 => ?_)
 have hfu6 := Heap.fresh_of hle0 hu6
 have hleu6 := Heap.le_in hle0 u6
 refine AWP.loopW (awH l s H) (s.length) ⟨0, u6, [], false, by omega, by rw [cT]; unfold asW; cases ajU l s <;> simp, by simp, rfl, hleu6, Heap.toks_live_same _ _, hfu6, rfl⟩ sX (hRa _) ?_
 rintro _ _ H1 ⟨i, t, o, m, hi, hsc, hol, rfl, hle1, hlive, hfr, rfl⟩
 iterate 9 refine AX ?_
 refine AWP.cx rfl (fun hc14 => ?_) (fun hc14 => ?_)
 ·iterate 8 refine AX ?_
  refine .cl rfl call319 (evs1 rfl) (azO _ _) ?_
  iterate 9 refine AX ?_
  refine AWP.cx rfl (fun hc19 => ?_) (fun hc19 => ?_)
  ·have hdg : anF (s.getD i 0) = true := hc19
   iterate 6 refine AX ?_
   refine .e rfl (qQ U142 Z5 V5 rfl (tm rfl) (.inl rfl) ⟨rfl, rfl⟩) ?_
   refine .s rfl (aaW U142 U142 Z5 typeInfo5 V5 rfl aC (tm rfl) (tm rfl) (by exact .own _ hlive) (by show (_ + _) * 1 ≤ _; simp only [eF, aU, bH]; omega) (by repeat' (first | exact yA _ | exact aaK | exact aeI ⟨rfl, rfl⟩ aaK | exact qS (yA _) | exact qR (yA _) | refine aaP ?_ ?_ | exact bzW _)) (by repeat' (first | exact yA _ | exact aaK | exact aeI ⟨rfl, rfl⟩ aaK | exact qS (yA _) | exact qR (yA _) | refine aaP ?_ ?_))) ?_
   rintro _ _ ⟨t25, ht25, rfl, hH⟩
   obtain rfl := hH.symm
   have hf25 := Heap.fresh_of hle1 ht25
   have hle25 := Heap.le_in (Heap.le_out (t := t) hle1 aB) t25
   iterate 14 refine AX ?_
   refine Round.mk (J := awH l s H) ⟨i + 1, t25, o ++ [s.getD i 0], m, by omega, by rw [← hsc]; exact (bvL hg aA hdg o m).symm, by simp only [aP, aU, bH]; omega, rfl, hle25, Heap.toks_live_same _ _, hf25, rfl⟩ (zJ rfl (zJ rfl (zN rfl (acU (btT _ _)) (zJ rfl (zN rfl (by congr 1) yJ))))) (hRa _) aA
  have hdg : anF (s.getD i 0) = false := hc19
  iterate 4 refine AX ?_
  refine .p rfl (zA U31 rfl Z9 (tm rfl)) ?_
  iterate 6 refine AX ?_
  refine AWP.seqTo 47 (.bool (decide ((s.length : Int) < (i : Int) + (l.grp.length : Int)) || decide ((s.take ((i : Int) + (l.grp.length : Int)).toNat).drop (i : Int).toNat ≠ l.grp))) [1, 2, 6, 7, 8, 10] ?_ ?_
  ·-- region 10
   refine AWP.draw [(0, true), (1, true), (2, true), (3, true), (4, true), (5, true), (6, true), (7, true), (8, true), (9, true), (10, true), (11, true), (12, true), (13, true), (14, true), (15, true), (16, true)] rfl aE ?_
   iterate 7 refine AX ?_
   refine asI (t := 37) rfl (fun hg37 => ?_) (fun hg37 => ?_)
   ·have hh37 := hg37; try simp only [aO] at hh37
    iterate 11 refine AX ?_
    exact ⟨rfl, zO rfl (by (simp [*]; done)) sX, rfl⟩
   have hh37 := hg37; try simp only [aM, cH] at hh37
   iterate 6 refine AX ?_
   refine .gp rfl rfl rfl rfl aB (zA U31 rfl Z9 (tm rfl)) ?_
   iterate 4 refine AX ?_
   exact ⟨rfl, zO rfl (by (simp [*]; done)) sX, rfl⟩
  refine AWP.sub [(47, _), (1, _), (2, _), (6, _), (7, _), (8, _), (10, _)] sX ?_
  refine AWP.cx rfl (fun hc47 => ?_) (fun hc47 => ?_)
  ·have hpp : hasPrefix (s.drop i) l.grp = false := by
    rw [bhP aA] at hc47
    simpa using hc47
   iterate 12 refine AX ?_
   refine Ret.go (.cons (.tmp _ _ rfl) (.cons (.tmp _ _ rfl) .nil)) _ (hle1) ?_
   refine ⟨?_, rfl⟩
   unfold aeM
   rw [show adN l s.length s = ajU l s from rfl, ← hsc]
   rw [bvM aA hdg hpp]; rfl
  have hpp : hasPrefix (s.drop i) l.grp = true := by
   rw [bhP aA] at hc47
   simpa using hc47
  have hfit := auZ hpp
  rw [aW] at hfit
  iterate 15 refine AX ?_
  refine Round.mk (J := awH l s H) ⟨i + l.grp.length, t, o, true, by omega, by rw [← hsc]; exact (bvK hg aA hdg hpp o m).symm, by omega, rfl, hle1, hlive, hfr, rfl⟩ sX (hRa _) aA
 iterate 6 refine AX ?_
 refine AWP.seqTo 64 (.bool (decide ((o.length : Int) = 0) || (m && decide (gR l o ≠ s)))) [6] ?_ ?_
 ·-- region 14
  iterate 5 refine AX ?_
  refine zD (t := 54) rfl (fun hg54 => ?_) (fun hg54 => ?_)
  ·have hh54 := hg54; try simp only [aO] at hh54
   iterate 11 refine AX ?_
   exact ⟨rfl, zO rfl (by (simp [*]; done)) (zJ rfl yJ), rfl⟩
  have hh54 := hg54; try simp only [aM] at hh54
  iterate 2 refine AX ?_
  refine zD (t := 56) rfl (fun hg56 => ?_) (fun hg56 => ?_)
  ·have hh56 := hg56; try simp only [aK] at hh56
   iterate 2 refine AX ?_
   refine .gs rfl rfl rfl aB (ajF U142 U9 U5 (tm rfl)) ?_
   rintro _ _ ⟨rfl, hH⟩
   obtain rfl := hH.symm
   refine .gs rfl rfl rfl aB (zB call179 (evs2 rfl rfl) (asZ l hk hs2 o aA _)) ?_
   rintro _ _ ⟨rfl, hH⟩
   obtain rfl := hH.symm
   iterate 5 refine AX ?_
   exact ⟨rfl, zO rfl aH (zJ rfl yJ), rfl⟩
  have hh56 := hg56; try simp only [aK] at hh56
  iterate 9 refine AX ?_
  exact ⟨rfl, zO rfl aH (zJ rfl yJ), rfl⟩
 refine AWP.sub [(64, _), (6, _)] sX ?_
 refine AWP.cx rfl (fun hc64 => ?_) (fun hc64 => ?_)
 ·iterate 8 refine AX ?_
  refine Ret.go (.cons (.tmp _ _ rfl) (.cons (.tmp _ _ rfl) .nil)) _ (hle1) ?_
  refine ⟨?_, rfl⟩
  unfold aeM
  rw [show adN l s.length s = ajU l s from rfl, ← hsc]
  have hi2 : i = s.length := by omega
  rw [hi2, eZ, show ajU l [] = some ([], false) from rfl]
  simp only [asW, bM, Bool.or_false]
  rw [aN (by simp only [cN, bK, aO] at hc64; rcases hc64 with h | h; exact .inl (bV.1 aA); exact .inr h)]
  rfl
 iterate 5 refine AX ?_
 refine .e rfl (ajF U142 U9 U5 (tm rfl)) ?_
 iterate 5 refine AX ?_
 refine Ret.go (.cons (.tmp _ _ rfl) (.cons (.tmp _ _ rfl) .nil)) _ (hle1) ?_
 refine ⟨?_, rfl⟩
 unfold aeM
 rw [show adN l s.length s = ajU l s from rfl, ← hsc]
 have hi2 : i = s.length := by omega
 rw [hi2, eZ, show ajU l [] = some ([], false) from rfl]
 simp only [asW, bM, Bool.or_false]
 rw [aL (by simp only [cE, bU, aM] at hc64; rintro (h | h); exact hc64.1 (by rw [h]; rfl); exact hc64.2.elim (fun q => by rw [h.1] at q; cases q) (fun q => q h.2))]
 rfl

end
section
open Go Go.RowKit

open Go.Lib
set_option maxRecDepth 100000
structure WkN where
 s : List UInt8
 neg : Bool
 digits : List UInt8
 exp : Int
 out : EntN
def wkC (l : Loc) (q : WkN) : List AV := [.str l.name, .str l.dc, .str l.grp, .str l.lst, .str l.minus, .str l.pct, .str l.cur, .bool l.first, .bool l.space, .int .i64 (l.second : Int), .str q.s, .bool q.neg, .str q.digits, .int .i64 q.exp, .int .u64 (q.out.bits : Int), .int .i64 q.out.kind, .int .i64 q.out.places, .bool q.out.grouped, .bool q.out.exp]
abbrev Wk (l : Loc) (q : WkN) : AObj := .box 139 (wkC l q)
theorem byQ {s : List UInt8} (h : (t.length : Int) ≤ (s.length : Int)) : decide (s.take ((t.length : Nat) : Int).toNat = t) = hasPrefix s t := by
 rw [← hasPrefix_of_take, bG (show t.length ≤ s.length by omega), Bool.true_and, cX]
 by_cases q : s.take t.length = t <;> simp [q]
theorem byR {s : List UInt8} (h : ¬ (t.length : Int) ≤ (s.length : Int)) : false = hasPrefix s t := by
 rw [← hasPrefix_of_take, bD (show ¬ t.length ≤ s.length by omega), Bool.false_and]
theorem adC {s p : List UInt8} (h : hasPrefix s p = false) : trimPrefix s p = s := by
 unfold trimPrefix; rw [aL (by rw [h]; decide)]
theorem abW {s p : List UInt8} (h : hasPrefix s p = true) : trimPrefix s p = s.drop p.length := by
 unfold trimPrefix; rw [aN h]
def aeF (s : List UInt8) : Nat := if s = [] then 0 else if (s.getD 0 0).toNat = 32 ∨ (s.getD 0 0).toNat = 9 then 1 else if hasPrefix s [194, 160] = true then 2 else if hasPrefix s [226, 128, 175] = true then 3 else 0
theorem blY {e : List UInt8} (he : e ∈ asV) (r : List UInt8) : zT (e ++ r) = zT r := by
 have he1 : 1 ≤ e.length := by rcases acS he with rfl | rfl | rfl | rfl <;> simp
 have hne : e ++ r ≠ [] := by intro q; rw [(List.append_eq_nil_iff.1 q).1] at he1; simp at he1
 unfold zT
 obtain ⟨f, hf⟩ : ∃ f, (e ++ r).length = f + 1 := ⟨(e ++ r).length - 1, by rw [aP]; omega⟩
 rw [hf, afE _ _ hne, aN (ajQ he r).1, (ajQ he r).2, cR]
 exact apL _ _ _ _ (by rw [aP] at hf; omega) (aT _)
theorem bgC {s : List UInt8} (h : 0 < aeF s) : ∃ e ∈ asV, ∃ r, s = e ++ r ∧ aeF s = e.length := by
 unfold aeF at h ⊢
 split at h
 ·omega
 rename_i h0
 rw [aL h0]
 cases s with
 | nil => exact absurd rfl h0
 | cons c t =>
  rw [cG] at h ⊢
  split at h
  ·rename_i h1
   rw [aN h1]
   rcases h1 with h1 | h1
   ·obtain rfl : c = 32 := abH h1
    exact ⟨[32], by simp [asV], t, rfl, rfl⟩
   obtain rfl : c = 9 := abH h1
   exact ⟨[9], by simp [asV], t, rfl, rfl⟩
  rename_i h1
  rw [aL h1]
  split at h
  ·rename_i h2
   rw [aN h2]
   obtain ⟨r, hr⟩ := acZ.1 h2
   exact ⟨[194, 160], by simp [asV], r, hr, rfl⟩
  rename_i h2
  rw [aL h2]
  split at h
  ·rename_i h3
   rw [aN h3]
   obtain ⟨r, hr⟩ := acZ.1 h3
   exact ⟨[226, 128, 175], by simp [asV], r, hr, rfl⟩
  omega
theorem bnF {e : List UInt8} (he : e ∈ asV) (r : List UInt8) : 0 < aeF (e ++ r) := by
 unfold aeF
 rcases acS he with rfl | rfl | rfl | rfl
 ·simp
 ·simp
 ·rw [aL aF, aL aF, aN (acM _ _)]; decide
 rw [aL aF, aL aF, aL (by rw [cQ, zZ aF]; decide), aN (acM _ _)]; decide
theorem bgB {s : List UInt8} (h : 0 < aeF s) : zT (s.drop (aeF s)) = zT s ∧ aeF s ≤ s.length := by
 obtain ⟨e, he, r, rfl, h2⟩ := bgC h
 rw [h2, cR, blY he, aP]
 exact ⟨rfl, by omega⟩
theorem bgA {s : List UInt8} (h : ¬ 0 < aeF s) : zT s = s := by
 refine arM ?_
 by_cases h0 : s = []
 ·exact .inl h0
 refine .inr ?_
 rw [Bool.eq_false_iff]
 intro q
 obtain ⟨e, he, r, rfl⟩ := bsV q
 exact h (bnF he r)
theorem aeX (s : List UInt8) : (zT s).length ≤ s.length := acO _ _ _
theorem afY (s : List UInt8) : (aaY s).length ≤ s.length ∧ (abV s).length ≤ s.length := by
 have := congrArg List.length (abX s)
 rw [aP] at this
 exact ⟨by omega, by omega⟩
theorem bvO {s : List UInt8} (h : i < s.length) (hd : anF (s.getD i 0) = true) : s.take i ++ abV (s.drop i) = s.take (i + 1) ++ abV (s.drop (i + 1)) ∧ aaY (s.drop i) = aaY (s.drop (i + 1)) := by
 have e2 : s.getD i 0 = s[i] := by rw [aR, bA h]; rfl
 rw [e2] at hd
 rw [cA h]
 unfold abV aaY
 rw [List.takeWhile_cons, dV, hd, aN rfl, aN rfl, ← cS h, aQ]
 exact ⟨rfl, rfl⟩
theorem bvN {s : List UInt8} (h : ¬ (i < s.length ∧ anF (s.getD i 0) = true)) : abV (s.drop i) = [] ∧ aaY (s.drop i) = s.drop i := by
 by_cases h0 : i < s.length
 ·have e2 : s.getD i 0 = s[i] := by rw [aR, bA h0]; rfl
  have hd : anF s[i] = false := by rw [← e2, Bool.eq_false_iff]; exact fun q => h ⟨h0, q⟩
  rw [cA h0]
  unfold abV aaY
  rw [List.takeWhile_cons, dV, hd]
  exact ⟨rfl, rfl⟩
 rw [dX aA]; exact ⟨rfl, rfl⟩

theorem agE (s t : List UInt8) : Fn 169 [.str s, .str t] (.bool (hasPrefix s t)) := by
 intro H
 refine .of_body func169 rfl ntmps169 results169 rfl ?_
 iterate 13 refine AX ?_
 refine zD (t := 10) rfl (fun hg10 => ?_) (fun hg10 => ?_)
 ·have hh10 := hg10; try simp only [aO] at hh10
  iterate 12 refine AX ?_
  refine ⟨congrArg AV.bool ?_, rfl⟩
  exact byQ (of_decide_eq_true aB)
 have hh10 := hg10; try simp only [aM, dK] at hh10
 iterate 12 refine AX ?_
 refine ⟨congrArg AV.bool ?_, rfl⟩
 exact byR (of_decide_eq_false aB)

theorem aiP (s : List UInt8) : Fn 168 [.str s] (.int .i64 (aeF s : Int)) := by
 intro H
 refine .of_body func168 rfl ntmps168 results168 rfl ?_
 iterate 14 refine AX ?_
 refine .cx rfl (fun hc3 => ?_) (fun hc3 => ?_)
 ·iterate 9 refine AX ?_
  refine ⟨congrArg (AV.int .i64) ?_, rfl⟩
  unfold aeF
  rw [aN hc3]; rfl
 refine .seqTo 6 (.bool (decide (((s.getD 0 0).toNat : Int) = 32) || decide (((s.getD 0 0).toNat : Int) = 9))) [0, 2] ?_ ?_
 ·-- region 3
  iterate 2 refine AX ?_
  refine .p rfl (aaT U9 (tm rfl) zH (by have := bP.2 hc3; omega) (by have := bP.2 hc3; omega)) ?_
  iterate 2 refine AX ?_
  refine zD (t := 10) rfl (fun hg10 => ?_) (fun hg10 => ?_)
  ·iterate 6 refine AX ?_
   exact ⟨rfl, zO rfl aH sX, rfl⟩
  refine AX ?_
  refine .gp rfl rfl rfl aB (aaT U9 (tm rfl) zH (by have := bP.2 hc3; omega) (by have := bP.2 hc3; omega)) ?_
  iterate 4 refine AX ?_
  exact ⟨rfl, zO rfl aH sX, rfl⟩
 refine .sub [(6, _), (0, _), (2, _)] sX ?_
 refine .cx rfl (fun hc6 => ?_) (fun hc6 => ?_)
 ·have hb : (s.getD 0 0).toNat = 32 ∨ (s.getD 0 0).toNat = 9 := by simp only [cN, aO] at hc6; omega
  iterate 9 refine AX ?_
  refine ⟨congrArg (AV.int .i64) ?_, rfl⟩
  unfold aeF
  rw [aL hc3, aN hb]; rfl
 have hb : ¬ ((s.getD 0 0).toNat = 32 ∨ (s.getD 0 0).toNat = 9) := by simp only [cE, aM] at hc6; omega
 iterate 3 refine AX ?_
 refine .cl rfl C169 (.cons (tm rfl) (.cons (zR rfl) .nil)) (agE _ _ _) ?_
 iterate 3 refine AX ?_
 refine .cx rfl (fun hc15 => ?_) (fun hc15 => ?_)
 ·iterate 9 refine AX ?_
  refine ⟨congrArg (AV.int .i64) ?_, rfl⟩
  unfold aeF
  rw [aL hc3, aL hb, aN hc15]; rfl
 iterate 3 refine AX ?_
 refine .cl rfl C169 (.cons (tm rfl) (.cons (zR rfl) .nil)) (agE _ _ _) ?_
 iterate 3 refine AX ?_
 refine .cx rfl (fun hc18 => ?_) (fun hc18 => ?_)
 ·iterate 9 refine AX ?_
  refine ⟨congrArg (AV.int .i64) ?_, rfl⟩
  unfold aeF
  rw [aL hc3, aL hb, aL (by rw [hc15]; decide), aN hc18]; rfl
 iterate 10 refine AX ?_
 refine ⟨congrArg (AV.int .i64) ?_, rfl⟩
 unfold aeF
 rw [aL hc3, aL hb, aL (by rw [hc15]; decide), aL (by rw [hc18]; decide)]; rfl

theorem ajD (l : Loc) (q : WkN) (hq : q.s.length ≤ 2000) (b : Nat) (H : Heap) (hb : H.objs b = some (Wk l q)) (t : List UInt8) : ACall prog 101 [.ptr (some ⟨b, 0, none⟩), .str t] H (fun y H' => y = .bool (hasPrefix q.s t) ∧ H' = H.set b (Wk l { q with s := trimPrefix q.s t })) := by
 refine .of_body func101 rfl ntmps101 results101 rfl ?_
 iterate 9 refine AX ?_
 refine .p rfl (zC U139 rfl Z9 (tm rfl)) ?_
 iterate 2 refine AX ?_
 refine .cl rfl C169 (evs2 rfl rfl) (agE _ _ _) ?_
 iterate 9 refine AX ?_
 refine .cx rfl (fun hc12 => ?_) (fun hc12 => ?_)
 ·have hle := auZ hc12
  iterate 4 refine AX ?_
  refine .p rfl (zC U139 rfl Z9 (tm rfl)) ?_
  iterate 5 refine AX ?_
  refine .p rfl (zC U139 rfl Z9 (tm rfl)) (.e0 (zP Z9 (tm rfl) (tm rfl) rfl rfl (.inl rfl) (hb) (lB rfl)) ?_)
  try first | rw [sS] | rw [sU aB]
  iterate 10 refine AX ?_
  exact ⟨rfl, by rw [abW aB]; rfl⟩
 iterate 10 refine AX ?_
 exact ⟨rfl, by rw [adC aB]; exact (Heap.set_self hb).symm⟩

def aqN (l : Loc) (q : WkN) (b : Nat) (H : Heap) : Nat → Env → Heap → Prop := fun k env H1 => ∃ s1 : List UInt8, zT s1 = zT q.s ∧ s1.length ≤ q.s.length ∧ env = [(0, .ptr (some ⟨b, 0, none⟩))] ∧ H1 = H.set b (Wk l { q with s := s1 }) ∧ k = s1.length

theorem bbY (l : Loc) (q : WkN) (hq : q.s.length ≤ 2000) (b : Nat) (H : Heap) (hb : H.objs b = some (Wk l q)) : ACall prog 100 [.ptr (some ⟨b, 0, none⟩)] H (fun y H' => H' = H.set b (Wk l { q with s := zT q.s })) := by
 refine ACall.of_body func100 rfl ntmps100 results100 rfl ?_
 refine AX ?_
 refine AWP.loopW (aqN l q b H) (q.s.length) ⟨q.s, rfl, aT _, rfl, rfl, rfl⟩ (zJ rfl yJ) (by rw [Heap.set_self hb]; exact hRa _) ?_
 rintro _ _ _ ⟨s1, hs1, hl1, rfl, rfl, rfl⟩
 iterate 5 refine AX ?_
 refine .p rfl (zC U139 rfl Z9 (tm rfl)) ?_
 refine AX ?_
 refine .cl rfl call168 (evs1 rfl) (aiP _ _) ?_
 iterate 3 refine AX ?_
 refine AWP.cx rfl (fun hc7 => ?_) (fun hc7 => ?_)
 ·have hst := bgB (s := s1) aA
  iterate 3 refine AX ?_
  refine AWP.drawT (.op 0 true (.op 1 true (.op 2 true (.op 3 true (.op 5 true (.op 6 true (.op 7 true (.two 4 (.op 8 false (.op 9 true (.op 10 true (.op 11 true (.op 12 true (.op 13 false .done)))))) 8 (.op 9 true (.op 4 false (.op 10 true (.op 11 true (.op 12 true (.op 13 false .done)))))))))))))) rfl aE ?_
  refine ATree.p rfl rfl (zM (tm rfl)) ?_
  refine ATree.p rfl rfl (zM (tm rfl)) ?_
  refine ATree.p rfl rfl (aaB (tm rfl)) ?_
  refine ATree.p rfl rfl (zC U139 rfl Z9 (tm rfl)) ?_
  refine ATree.p rfl rfl (zM (tm rfl)) ?_
  refine ATree.p rfl rfl (aaB (tm rfl)) ?_
  refine ATree.p rfl rfl (zC U139 rfl Z9 (tm rfl)) ?_
  refine ⟨?_, ?_⟩
  ·refine XTree.s rfl rfl (yD G9 (tm rfl) (oS _ _ _) rfl) ?_
   rintro _ _ ⟨rfl, hH⟩
   obtain rfl := hH.symm
   refine ATree.s rfl rfl (yD G9 (tm rfl) (oS _ _ _) rfl) ?_
   rintro _ _ ⟨rfl, hH⟩
   obtain rfl := hH.symm
   refine ATree.f rfl rfl (fun _ => zB call168 (evs1 rfl) (aiP _ _)) ?_
   refine ATree.p rfl rfl (adX U9 (tm rfl) (tm rfl) (by (try dsimp only); omega) (by (try dsimp only); omega)) ?_
   refine ATree.p rfl rfl (aaB (tm rfl)) ?_
   refine ATree.p rfl rfl (zC U139 rfl Z9 (tm rfl)) ?_
   refine ATree.s0 rfl (zP Z9 (tm rfl) (tm rfl) rfl rfl (.inl rfl) (oS _ _ _) (lB rfl)) ?_
   rintro _ _ ⟨rfl, hH⟩
   obtain rfl := hH.symm
   try first | rw [sS] | rw [sU aB]
   refine ATree.nil ?_
   iterate 2 refine AX ?_
   refine Round.mk (J := aqN l q b H) ⟨s1.drop (aeF s1), by rw [hst.1]; exact hs1, by rw [aW]; omega, rfl, rfl, rfl⟩ (zJ rfl yJ) (hRa _) (by rw [aW]; omega)
  refine XTree.s rfl rfl (yD G9 (tm rfl) (oS _ _ _) rfl) ?_
  rintro _ _ ⟨rfl, hH⟩
  obtain rfl := hH.symm
  refine ATree.f rfl rfl (fun _ => zB call168 (evs1 rfl) (aiP _ _)) ?_
  refine ATree.s rfl rfl (yD G9 (tm rfl) (oS _ _ _) rfl) ?_
  rintro _ _ ⟨rfl, hH⟩
  obtain rfl := hH.symm
  refine ATree.p rfl rfl (adX U9 (tm rfl) (tm rfl) (by (try dsimp only); omega) (by (try dsimp only); omega)) ?_
  refine ATree.p rfl rfl (aaB (tm rfl)) ?_
  refine ATree.p rfl rfl (zC U139 rfl Z9 (tm rfl)) ?_
  refine ATree.s0 rfl (zP Z9 (tm rfl) (tm rfl) rfl rfl (.inl rfl) (oS _ _ _) (lB rfl)) ?_
  rintro _ _ ⟨rfl, hH⟩
  obtain rfl := hH.symm
  try first | rw [sS] | rw [sU aB]
  refine ATree.nil ?_
  iterate 2 refine AX ?_
  refine Round.mk (J := aqN l q b H) ⟨s1.drop (aeF s1), by rw [hst.1]; exact hs1, by rw [aW]; omega, rfl, rfl, rfl⟩ (zJ rfl yJ) (hRa _) (by rw [aW]; omega)
 have hsp := bgA (s := s1) aA
 iterate 4 refine AX ?_
 refine Ret.go' .nil _ (hRa _) ?_
 rw [← hs1, hsp]

def bzT (l : Loc) (q : WkN) (b : Nat) (H : Heap) : Nat → Env → Heap → Prop := fun k env H1 => ∃ i : Nat, i ≤ q.s.length ∧ abV q.s = q.s.take i ++ abV (q.s.drop i) ∧ aaY q.s = aaY (q.s.drop i) ∧ env = [(0, .ptr (some ⟨b, 0, none⟩)), (3, .int .i64 (i : Int))] ∧ H = H1 ∧ k = q.s.length - i

theorem bpK (l : Loc) (q : WkN) (hq : q.s.length ≤ 2000) (b : Nat) (H : Heap) (hb : H.objs b = some (Wk l q)) : ACall prog 227 [.ptr (some ⟨b, 0, none⟩)] H (fun y H' => y = .str (abV q.s) ∧ H' = H.set b (Wk l { q with s := aaY q.s })) := by
 refine ACall.of_body func227 rfl ntmps227 results227 rfl ?_
 iterate 12 refine AX ?_
 refine AWP.loopW (bzT l q b H) (q.s.length) ⟨0, by omega, rfl, rfl, rfl, rfl, by omega⟩ sX (hRa _) ?_
 rintro _ _ _ ⟨i, hi, hr1, hr2, rfl, rfl, rfl⟩
 refine AX ?_
 refine AWP.seqTo 20 (.bool (decide ((i : Int) < (q.s.length : Int)) && anF (q.s.getD i 0))) [0, 3] ?_ ?_
 ·-- region 2
  iterate 4 refine AX ?_
  refine .p rfl (zC U139 rfl Z9 (tm rfl)) ?_
  iterate 4 refine AX ?_
  refine zD (t := 12) rfl (fun hg12 => ?_) (fun hg12 => ?_)
  ·have hh12 := hg12; try simp only [aO] at hh12
   iterate 2 refine AX ?_
   refine .gp rfl rfl rfl aB (zC U139 rfl Z9 (tm rfl)) (.gs rfl rfl rfl aB (yD G9 (tm rfl) (hb) rfl) ?_)
   rintro _ _ ⟨rfl, hH⟩
   obtain rfl := hH.symm
   iterate 2 refine AX ?_
   refine .gs rfl rfl rfl aB (zB call274 (evs1 rfl) (anW _ _)) ?_
   rintro _ _ ⟨rfl, hH⟩
   obtain rfl := hH.symm
   iterate 2 refine AX ?_
   exact ⟨rfl, zO rfl (by (rw [show decide ((i : Int) < (q.s.length : Int)) = _ from hg12]; rfl)) sX, rfl⟩
  have hh12 := hg12; try simp only [aM, cH] at hh12
  iterate 9 refine AX ?_
  exact ⟨rfl, zO rfl (by (rw [show decide ((i : Int) < (q.s.length : Int)) = _ from hg12]; rfl)) sX, rfl⟩
 refine AWP.sub [(20, _), (0, _), (3, _)] sX ?_
 refine AWP.cx rfl (fun hc20 => ?_) (fun hc20 => ?_)
 ·have hc2 : i < q.s.length ∧ anF (q.s.getD i 0) = true := by simp only [bK, aO] at hc20; exact ⟨by omega, hc20.2⟩
  have hst := bvO hc2.1 hc2.2
  iterate 10 refine AX ?_
  refine Round.mk (J := bzT l q b H) ⟨i + 1, by omega, by rw [← hst.1]; exact hr1, by rw [← hst.2]; exact hr2, rfl, rfl, rfl⟩ (zJ rfl (zN rfl (by congr 1) yJ)) (hRa _) aA
 have hsp := bvN (s := q.s) (i := i) (by rintro ⟨h1, h2⟩; rw [h2, Bool.and_true] at hc20; exact absurd h1 (by have := of_decide_eq_false hc20; omega))
 rw [hsp.1, bM] at hr1
 rw [hsp.2] at hr2
 iterate 9 refine AX ?_
 refine .p rfl (zC U139 rfl Z9 (tm rfl)) ?_
 iterate 11 refine AX ?_
 refine .p rfl (zC U139 rfl Z9 (tm rfl)) ?_
 iterate 4 refine AX ?_
 refine .p rfl (zC U139 rfl Z9 (tm rfl)) (.e0 (zP Z9 (tm rfl) (tm rfl) rfl rfl (.inl rfl) (hb) (lB rfl)) ?_)
 try first | rw [sS] | rw [sU aB]
 iterate 10 refine AX ?_
 exact ⟨by rw [hr1]; rfl, by rw [hr2]; rfl⟩

theorem bdQ (l : Loc) (q : WkN) (hq : q.s.length ≤ 2000) (b : Nat) (H : Heap) (hb : H.objs b = some (Wk l q)) : ACall prog 102 [.ptr (some ⟨b, 0, none⟩)] H (fun y H' => (∃ g, y = .tuple [.bool g, .bool (yF l q.s).2]) ∧ H' = H.set b (Wk l { q with s := (yF l q.s).1 })) := by
 have hset : ∀ p, hasPrefix q.s p = false → H.set b (Wk l { q with s := trimPrefix q.s p }) = H := fun p h => by rw [adC h]; exact Heap.set_self hb
 refine .of_body func102 rfl ntmps102 results102 rfl ?_
 iterate 9 refine AX ?_
 refine .e rfl (zB C101 (.cons (tm rfl) (.cons (zR rfl) .nil)) (ajD l q hq b _ hb _)) ?_
 iterate 9 refine AX ?_
 refine .cx rfl (fun hc8 => ?_) (fun hc8 => ?_)
 ·have hsg : yF l q.s = (trimPrefix q.s [43], false) := by unfold yF; rw [aN hc8]
  iterate 9 refine AX ?_
  rw [hsg]; exact ⟨⟨_, rfl⟩, rfl⟩
 rw [hset _ hc8]
 iterate 5 refine AX ?_
 refine .e rfl (zB C101 (.cons (tm rfl) (.cons (zR rfl) .nil)) (ajD l q hq b _ hb _)) ?_
 iterate 10 refine AX ?_
 refine .cx rfl (fun hc12 => ?_) (fun hc12 => ?_)
 ·have hc45 : hasPrefix q.s [45] = false := by simpa using hc12
  rw [hset _ hc45]
  have hsg : yF l q.s = (trimPrefix q.s l.minus, hasPrefix q.s l.minus) := by unfold yF; rw [aL (by rw [hc8]; decide), aL (by rw [hc45]; decide)]; cases hm : hasPrefix q.s l.minus with | true => rfl | false => simp only [fA, if_false]; rw [adC hm]
  iterate 4 refine AX ?_
  refine .p rfl (zC U139 rfl Z31 (tm rfl)) (.p rfl (zC U31 rfl Z9 (tm rfl)) ?_)
  refine AX ?_
  refine .e rfl (zB C101 (evs2 rfl rfl) (ajD l q hq b _ hb _)) ?_
  iterate 13 refine AX ?_
  rw [hsg]; exact ⟨⟨_, rfl⟩, rfl⟩
 have hc45 : hasPrefix q.s [45] = true := by simpa using hc12
 have hsg : yF l q.s = (trimPrefix q.s [45], true) := by unfold yF; rw [aL (by rw [hc8]; decide), aN hc45]
 rw [hc45]
 iterate 12 refine AX ?_
 rw [hsg]; exact ⟨⟨_, rfl⟩, rfl⟩

/-! ### the same, the reader's parts said one by one -/
theorem takeW (l : Loc) (s : List UInt8) (neg : Bool) (d : List UInt8) (e : Int) (o : EntN) (hs : s.length ≤ 2000) (b : Nat) (H : Heap) (hb : H.objs b = some (Wk l ⟨s, neg, d, e, o⟩)) (t : List UInt8) : ACall prog 101 [.ptr (some ⟨b, 0, none⟩), .str t] H (fun y H' => y = .bool (hasPrefix s t) ∧ H' = H.set b (Wk l ⟨trimPrefix s t, neg, d, e, o⟩)) := ajD l ⟨s, neg, d, e, o⟩ hs b H hb t
theorem blanksW (l : Loc) (s : List UInt8) (neg : Bool) (d : List UInt8) (e : Int) (o : EntN) (hs : s.length ≤ 2000) (b : Nat) (H : Heap) (hb : H.objs b = some (Wk l ⟨s, neg, d, e, o⟩)) : ACall prog 100 [.ptr (some ⟨b, 0, none⟩)] H (fun _ H' => H' = H.set b (Wk l ⟨zT s, neg, d, e, o⟩)) := bbY l ⟨s, neg, d, e, o⟩ hs b H hb
theorem rowW (l : Loc) (s : List UInt8) (neg : Bool) (d : List UInt8) (e : Int) (o : EntN) (hs : s.length ≤ 2000) (b : Nat) (H : Heap) (hb : H.objs b = some (Wk l ⟨s, neg, d, e, o⟩)) : ACall prog 227 [.ptr (some ⟨b, 0, none⟩)] H (fun y H' => y = .str (abV s) ∧ H' = H.set b (Wk l ⟨aaY s, neg, d, e, o⟩)) := bpK l ⟨s, neg, d, e, o⟩ hs b H hb
theorem rsignW (l : Loc) (s : List UInt8) (neg : Bool) (d : List UInt8) (e : Int) (o : EntN) (hs : s.length ≤ 2000) (b : Nat) (H : Heap) (hb : H.objs b = some (Wk l ⟨s, neg, d, e, o⟩)) : ACall prog 102 [.ptr (some ⟨b, 0, none⟩)] H (fun y H' => (∃ g, y = .tuple [.bool g, .bool (yF l s).2]) ∧ H' = H.set b (Wk l ⟨(yF l s).1, neg, d, e, o⟩)) := bdQ l ⟨s, neg, d, e, o⟩ hs b H hb

end
end Go.Proofs.YtmmgbnolccpjoaaGreatDoor
