import Derived.Test.YtmmgbnolccpjoaaGreatDoorVbk
import Derived.Test.YtmmgbnolccpjoaaGreatDoorA1
import Derived.Test.YtmmgbnolccpjoaaGreatDoorB6
set_option maxHeartbeats 1000000
namespace Go.Proofs.YtmmgbnolccpjoaaGreatDoor
open Go.Proofs.Tryz
open Go Go.RowKit
set_option maxRecDepth 100000

theorem brA (n : Int) : amM n ≠ [] ↔ 1 ≤ n ∧ n ≤ 8 := by
 constructor
 ·intro h
  by_cases q : 1 ≤ n ∧ n ≤ 8
  ·exact q
  exact absurd (by unfold amM; rw [aI, aI, aI, aI, aI, aI, aI, aI]) h
 rintro ⟨h1, h2⟩
 have : n = 1 ∨ n = 2 ∨ n = 3 ∨ n = 4 ∨ n = 5 ∨ n = 6 ∨ n = 7 ∨ n = 8 := by omega
 rcases this with rfl | rfl | rfl | rfl | rfl | rfl | rfl | rfl <;> decide
def okR (v : Val) : Bool := if v.kind = 0 then true else if v.kind = 1 then decide (zV v.bits < 3) else if v.kind = 2 then true else if v.kind = 3 then decide (v.text.length ≤ 1000) else if v.kind = 4 then (decide (1 ≤ v.fail) && decide (v.fail ≤ 8)) else false
def aiY (v : Val) : Val := if v.kind = 1 then ⟨v.kind, v.bits, false, [], 0⟩ else if v.kind = 2 then ⟨v.kind, 0, v.is, [], 0⟩ else if v.kind = 3 then ⟨v.kind, 0, false, v.text, 0⟩ else if v.kind = 4 then ⟨v.kind, 0, false, [], v.fail⟩ else aiG v.kind
theorem bpS (v : Val) : (okR v && decide (v = aiY v)) = agG v := by
 obtain ⟨k, b, i, s, f⟩ := v
 unfold agG okR aiY
 simp only
 by_cases h0 : k = 0
 ·subst h0; simp [aiG]
 rw [aL h0, aL h0]
 by_cases h1 : k = 1
 ·subst h1
  rw [aN rfl, aN rfl, aN rfl]
  unfold asP qB
  by_cases h : 3 ≤ zV b
  ·rw [aN h, bD (show ¬ zV b < 3 by omega)]; simp
  rw [aL h, bG (show zV b < 3 by omega)]; simp
 rw [aL h1, aL h1, aL h1]
 by_cases h2 : k = 2
 ·subst h2; simp [afS]
 rw [aL h2, aL h2, aL h2]
 by_cases h3 : k = 3
 ·subst h3
  rw [aN rfl, aN rfl, aN rfl]
  unfold bcE qB
  by_cases h : 1000 < s.length
  ·rw [aN h, bD (show ¬ s.length ≤ 1000 by omega)]; simp
  rw [aL h, bG (show s.length ≤ 1000 by omega)]; simp
 rw [aL h3, aL h3, aL h3]
 by_cases h4 : k = 4
 ·subst h4
  have e : decide (amM f ≠ []) = (decide (1 ≤ f) && decide (f ≤ 8)) := by
   rw [← Bool.decide_and, aY]; exact brA f
  rw [aN rfl, aN rfl, aN rfl, e, Bool.and_comm]; rfl
 rw [aL h4, Bool.false_and, aL h4]

theorem awQ (v : Val) (hb : v.bits < 18446744073709551616) : Fn 9 [v.av] (.bool (agG v)) := by
 intro H
 refine .of_body func9 rfl ntmps9 results9 rfl ?_
 iterate 8 refine AX ?_
 refine .p rfl (zA U24 rfl Z3 (tm rfl)) ?_
 refine AX ?_
 refine .p rfl (yB zr24 pl24 (.cons (tm rfl) (.inl rfl) .nil) rfl) ?_
 refine .al zr24 (fun b3 hb3 => ?_)
 iterate 5 refine AX ?_
 refine .p rfl (zA U24 rfl Z3 (tm rfl)) ?_
 iterate 5 refine AX ?_
 refine .meet (fun env H2 => env = [(1, .iptr v.cs), (2, .bool false), (3, .ptr (some ⟨b3, 0, none⟩)), (4, .bool (okR v))] ∧ H2 = H.set b3 (.box 24 (aiY v).cs)) ?_ ?_
 ·iterate 2 refine AX ?_
  refine .p rfl (zA U24 rfl Z3 (tm rfl)) ?_
  iterate 10 refine AX ?_
  refine .cx rfl (fun hc13 => ?_) (fun hc13 => ?_)
  ·iterate 2 refine AX ?_
   refine .p rfl (zA U24 rfl Z22 (tm rfl)) ?_
   refine AX ?_
   refine .p rfl (zC U24 rfl Z22 (tm rfl)) ?_
   iterate 4 refine AX ?_
   refine .p rfl (zA U24 rfl Z22 (tm rfl)) ?_
   refine AX ?_
   refine .cl rfl C25 (evs1 rfl) (afJ _ aB _) ?_
   iterate 5 refine AX ?_
   refine .mk ⟨rfl, rfl⟩ (zJ rfl (zJ rfl (zJ rfl (zN rfl (by (unfold okR; rw [aI, aJ]; exact congrArg AV.bool (aY.2 aA))) yJ)))) (by unfold aiY; first | (rw [aJ]; exact hRa _) | (rw [aI, aJ]; exact hRa _) | (rw [aI, aI, aJ]; exact hRa _) | (rw [aI, aI, aI, aJ]; exact hRa _) | (rw [aI, aI, aI, aI]; exact hRa _))
  iterate 6 refine AX ?_
  refine .cx rfl (fun hc22 => ?_) (fun hc22 => ?_)
  ·iterate 2 refine AX ?_
   refine .p rfl (zA U24 rfl Z4 (tm rfl)) ?_
   refine AX ?_
   refine .p rfl (zC U24 rfl Z4 (tm rfl)) ?_
   iterate 8 refine AX ?_
   refine .mk ⟨rfl, rfl⟩ (zJ rfl (zJ rfl (zJ rfl (zN rfl (by (unfold okR; rw [aI, aI, aJ]; done)) yJ)))) (by unfold aiY; first | (rw [aJ]; exact hRa _) | (rw [aI, aJ]; exact hRa _) | (rw [aI, aI, aJ]; exact hRa _) | (rw [aI, aI, aI, aJ]; exact hRa _) | (rw [aI, aI, aI, aI]; exact hRa _))
  iterate 6 refine AX ?_
  refine .cx rfl (fun hc27 => ?_) (fun hc27 => ?_)
  ·iterate 2 refine AX ?_
   refine .p rfl (zA U24 rfl Z9 (tm rfl)) ?_
   refine AX ?_
   refine .p rfl (zC U24 rfl Z9 (tm rfl)) ?_
   iterate 4 refine AX ?_
   refine .p rfl (zA U24 rfl Z9 (tm rfl)) ?_
   iterate 7 refine AX ?_
   refine .mk ⟨rfl, rfl⟩ (zJ rfl (zJ rfl (zJ rfl (zN rfl (by (unfold okR; rw [aI, aI, aI, aJ]; exact congrArg AV.bool (aY.2 aA))) yJ)))) (by unfold aiY; first | (rw [aJ]; exact hRa _) | (rw [aI, aJ]; exact hRa _) | (rw [aI, aI, aJ]; exact hRa _) | (rw [aI, aI, aI, aJ]; exact hRa _) | (rw [aI, aI, aI, aI]; exact hRa _))
  iterate 6 refine AX ?_
  refine .cx rfl (fun hc36 => ?_) (fun hc36 => ?_)
  ·iterate 2 refine AX ?_
   refine .p rfl (zA U24 rfl Z3 (tm rfl)) ?_
   refine AX ?_
   refine .p rfl (zC U24 rfl Z3 (tm rfl)) ?_
   iterate 4 refine AX ?_
   refine .p rfl (zA U24 rfl Z3 (tm rfl)) ?_
   iterate 3 refine AX ?_
   refine zD (t := 44) rfl (fun hg44 => ?_) (fun hg44 => ?_)
   ·have hh44 := hg44; try simp only [aO] at hh44
    refine .gp rfl rfl rfl aB (zA U24 rfl Z3 (tm rfl)) ?_
    iterate 7 refine AX ?_
    refine .mk ⟨rfl, rfl⟩ (zJ rfl (zJ rfl (zJ rfl (zN rfl (by (unfold okR; rw [aI, aI, aI, aI, aJ, show decide (1 ≤ v.fail) = _ from hg44]; rfl)) yJ)))) (by unfold aiY; first | (rw [aJ]; exact hRa _) | (rw [aI, aJ]; exact hRa _) | (rw [aI, aI, aJ]; exact hRa _) | (rw [aI, aI, aI, aJ]; exact hRa _) | (rw [aI, aI, aI, aI]; exact hRa _))
   have hh44 := hg44; try simp only [aM, dK] at hh44
   iterate 8 refine AX ?_
   refine .mk ⟨rfl, rfl⟩ (zJ rfl (zJ rfl (zJ rfl (zN rfl (by (unfold okR; rw [aI, aI, aI, aI, aJ, show decide (1 ≤ v.fail) = _ from hg44]; rfl)) yJ)))) (by unfold aiY; first | (rw [aJ]; exact hRa _) | (rw [aI, aJ]; exact hRa _) | (rw [aI, aI, aJ]; exact hRa _) | (rw [aI, aI, aI, aJ]; exact hRa _) | (rw [aI, aI, aI, aI]; exact hRa _))
  iterate 3 refine AX ?_
  refine .mk ⟨rfl, rfl⟩ (zJ rfl (zJ rfl (zJ rfl (zN rfl (by (by_cases h0 : v.kind = 0; unfold okR; rw [aN h0, bG h0]; rw [bD h0]; unfold okR; rw [aL h0, aI, aI, aI, aI])) yJ)))) (by unfold aiY; first | (rw [aJ]; exact hRa _) | (rw [aI, aJ]; exact hRa _) | (rw [aI, aI, aJ]; exact hRa _) | (rw [aI, aI, aI, aJ]; exact hRa _) | (rw [aI, aI, aI, aI]; exact hRa _))
 rintro _ _ ⟨rfl, rfl⟩
 refine .seqTo 2 (.bool (okR v && decide (v = aiY v))) [] ?_ ?_
 ·-- region 16
  iterate 3 refine AX ?_
  refine zD (t := 50) rfl (fun hg50 => ?_) (fun hg50 => ?_)
  ·have hh50 := hg50; try simp only [aK] at hh50
   refine AX ?_
   refine .gs rfl rfl rfl aB (abO G24 Z24 (tm rfl) (oS _ _ _) (lB rfl)) ?_
   rintro _ _ ⟨rfl, hH⟩
   obtain rfl := hH.symm
   refine .gp rfl rfl rfl aB (qI eqGuardType24 (tm rfl) (tm rfl) (eqVal v (aiY v))) ?_
   iterate 3 refine AX ?_
   exact ⟨rfl, zO rfl (by (rw [show okR v = _ from hg50]; rfl)) yJ, rfl⟩
  have hh50 := hg50; try simp only [aK] at hh50
  iterate 6 refine AX ?_
  exact ⟨rfl, zO rfl (by (rw [show okR v = _ from hg50]; rfl)) yJ, rfl⟩
 refine .sub [(2, _)] (zJ rfl yJ) ?_
 refine .dropb (hb3) ?_
 iterate 2 refine AX ?_
 refine ⟨?_, rfl⟩
 rw [← bpS]; rfl

def bhA (s : List UInt8) (H : Heap) : Nat → Env → Heap → Prop := fun k env H1 => ∃ i t : Nat, i ≤ s.length ∧ env = [(0, .str s), (3, .slice 1 ((aoK (s.take i)).map bv) (.own t)), (4, .int .i64 (i : Int))] ∧ H.le H1 ∧ H1.toks t = true ∧ H.toks t = false ∧ k = s.length - i

theorem btQ {s : List UInt8} {i : Nat} (h : i < s.length) : aoK (s.take (i + 1)) = aoK (s.take i) ++ [biZ (s.getD i 0)] := by
 have e2 : s.getD i 0 = s[i] := by rw [aR, bA h]; rfl
 rw [e2]
 unfold aoK
 rw [← cS h, fG]; rfl
theorem btR {c : UInt8} (h : 97 ≤ c.toNat ∧ c.toNat ≤ 122) : ((c.toNat : Nat) : Int) - 32 = (((biZ c).toNat : Nat) : Int) := by
 rw [biZ, aN h, fB, bB aA]; omega

theorem azC (s : List UInt8) (hs : s.length ≤ 1000000) (H : Heap) : ACall prog 42 [.str s] H (fun z H' => z = .str (aoK s) ∧ H' = H) := by
 have hle0 := hRa H
 have hml := zK
 refine ACall.of_body func42 rfl ntmps42 results42 rfl ?_
 iterate 17 refine AX ?_
 refine AWP.tag (t := 3) rfl (fun u3 hu3 => ?_)
 have hfu3 := Heap.fresh_of hle0 hu3
 have hleu3 := Heap.le_in hle0 u3
 refine AWP.loopW (bhA s H) (s.length) ⟨0, u3, Nat.zero_le _, rfl, hleu3, Heap.toks_live_same _ _, hfu3, rfl⟩ sX (hRa _) ?_
 rintro _ _ H1 ⟨i, t, hi, rfl, hle1, hlive, hfr, rfl⟩
 iterate 9 refine AX ?_
 refine AWP.cx rfl (fun hc9 => ?_) (fun hc9 => ?_)
 ·iterate 12 refine AX ?_
  refine AWP.seqToL [(5, .int .u8 (((biZ (s.getD i 0)).toNat : Nat) : Int))] [0, 3, 4] ?_ ?_
  ·refine AWP.seqTo 20 (.bool (decide ((97 : Int) ≤ (((s.getD i 0).toNat : Nat) : Int)) && decide ((((s.getD i 0).toNat : Nat) : Int) ≤ 122))) [0, 3, 4, 5] ?_ ?_
   ·-- region 6
    iterate 4 refine AX ?_
    refine zD (t := 17) rfl (fun hg17 => ?_) (fun hg17 => ?_)
    ·have hh17 := hg17; try simp only [aO] at hh17
     iterate 4 refine AX ?_
     exact ⟨rfl, zO rfl (by (rw [show decide ((97 : Int) ≤ (((s.getD i 0).toNat : Nat) : Int)) = _ from hg17]; rfl)) sX, rfl⟩
    have hh17 := hg17; try simp only [aM, dK] at hh17
    iterate 4 refine AX ?_
    exact ⟨rfl, zO rfl (by (rw [show decide ((97 : Int) ≤ (((s.getD i 0).toNat : Nat) : Int)) = _ from hg17]; rfl)) sX, rfl⟩
   refine AWP.sub [(20, _), (0, _), (3, _), (4, _), (5, _)] sX ?_
   refine AWP.cx rfl (fun hc20 => ?_) (fun hc20 => ?_)
   ·iterate 2 refine AX ?_
    refine .p rfl (agU (tm rfl) zH) ?_
    iterate 2 refine AX ?_
    exact ⟨rfl, (zN rfl (by (simp only [bK, aO] at hc20; refine congrArg (AV.int .u8) ?_; show IntKind.u8.wrap ((((s.getD i 0).toNat : Nat) : Int) - 32) = _; have := (s.getD i 0).toNat_lt; rw [← btR aA, wrap8 aA aA])) sX), rfl⟩
   refine AX ?_
   exact ⟨rfl, (zN rfl (by (show AV.int .u8 (((s.getD i 0).toNat : Nat) : Int) = _; rw [bbX (by simp only [bU, aM] at hc20; omega)]; done)) sX), rfl⟩
  refine AWP.sub [(5, _), (0, _), (3, _), (4, _)] sX ?_
  iterate 3 refine AX ?_
  refine .e rfl (qQ U142 Z5 V5 rfl (tm rfl) (.inl rfl) ⟨rfl, rfl⟩) ?_
  refine .s rfl (aaW U142 U142 Z5 typeInfo5 V5 rfl aC (tm rfl) (tm rfl) (by exact .own _ hlive) (by show (_ + _) * 1 ≤ _; simp only [eF, aU, bH, biY, aS]; omega) (by repeat' (first | exact yA _ | exact aaK | exact aeI ⟨rfl, rfl⟩ aaK | exact qS (yA _) | exact qR (yA _) | refine aaP ?_ ?_ | exact bzW _)) (by repeat' (first | exact yA _ | exact aaK | exact aeI ⟨rfl, rfl⟩ aaK | exact qS (yA _) | exact qR (yA _) | refine aaP ?_ ?_))) ?_
  rintro _ _ ⟨t26, ht26, rfl, hH⟩
  obtain rfl := hH.symm
  have hf26 := Heap.fresh_of hle1 ht26
  have hle26 := Heap.le_in (Heap.le_out (t := t) hle1 aB) t26
  iterate 10 refine AX ?_
  refine Round.mk (J := bhA s H) ⟨i + 1, t26, by omega, rfl, hle26, Heap.toks_live_same _ _, hf26, rfl⟩ (zJ rfl (zN rfl (by rw [btQ aA]; exact acU (btT _ _)) (zN rfl (by congr 1) yJ))) (hRa _) aA
 have hi2 : i = s.length := by omega
 iterate 8 refine AX ?_
 refine .e rfl (ajF U142 U9 U5 (tm rfl)) ?_
 iterate 4 refine AX ?_
 refine Ret.go (.cons (.tmp _ _ rfl) .nil) _ (hle1) ?_
 refine ⟨?_, rfl⟩
 rw [hi2, dE]; rfl

theorem awO (l : Loc) (hk : l.ok) (v : Val) (hv : v.bits < 18446744073709551616) (ht : v.text.length ≤ 1000) : Fn 17 [v.av, rL l] (.tuple [.str (aeO l v).1, .int .i64 (aeO l v).2]) := by
 intro H
 refine .of_body func17 rfl ntmps17 results17 rfl ?_
 iterate 11 refine AX ?_
 refine .p rfl (zA U24 rfl Z3 (tm rfl)) ?_
 iterate 10 refine AX ?_
 refine .cx rfl (fun hc8 => ?_) (fun hc8 => ?_)
 ·iterate 2 refine AX ?_
  refine .p rfl (zA U24 rfl Z22 (tm rfl)) ?_
  iterate 2 refine AX ?_
  refine .cl rfl call45 (evs2 rfl rfl) (atA l hk v.bits hv _) ?_
  iterate 8 refine AX ?_
  refine ⟨?_, rfl⟩
  unfold aeO
  rw [aJ]
  rfl
 iterate 6 refine AX ?_
 refine .cx rfl (fun hc14 => ?_) (fun hc14 => ?_)
 ·iterate 3 refine AX ?_
  refine .p rfl (zA U24 rfl Z4 (tm rfl)) ?_
  iterate 3 refine AX ?_
  refine .cx rfl (fun hc17 => ?_) (fun hc17 => ?_)
  ·iterate 11 refine AX ?_
   refine ⟨?_, rfl⟩
   unfold aeO
   rw [aI, aJ, hc17]
   rfl
  iterate 12 refine AX ?_
  refine ⟨?_, rfl⟩
  unfold aeO
  rw [aI, aJ, hc17]
  rfl
 iterate 6 refine AX ?_
 refine .cx rfl (fun hc18 => ?_) (fun hc18 => ?_)
 ·iterate 2 refine AX ?_
  refine .p rfl (zA U24 rfl Z9 (tm rfl)) ?_
  iterate 9 refine AX ?_
  refine ⟨?_, rfl⟩
  unfold aeO
  rw [aI, aI, aJ]
  rfl
 iterate 6 refine AX ?_
 refine .cx rfl (fun hc22 => ?_) (fun hc22 => ?_)
 ·refine AX ?_
  refine .draw [(0, true), (1, true), (2, true), (3, true)] rfl aE ?_
  refine .p rfl rfl (zA U24 rfl Z3 (tm rfl)) ?_
  iterate 9 refine AX ?_
  refine ⟨?_, rfl⟩
  unfold aeO
  rw [aI, aI, aI, aJ]
  rfl
 iterate 11 refine AX ?_
 refine ⟨?_, rfl⟩
 unfold aeO
 rw [aI, aI, aI, aI]
 rfl

theorem awP (v : Val) (hv : v.bits < 18446744073709551616) (ht : v.text.length ≤ 1000) : Fn 15 [v.av] (.tuple [.bool (adI v).1, .int .i64 (adI v).2]) := by
 intro H
 refine .of_body func15 rfl ntmps15 results15 rfl ?_
 iterate 10 refine AX ?_
 refine .p rfl (zA U24 rfl Z3 (tm rfl)) ?_
 iterate 10 refine AX ?_
 refine .cx rfl (fun hc7 => ?_) (fun hc7 => ?_)
 ·iterate 2 refine AX ?_
  refine .p rfl (zA U24 rfl Z22 (tm rfl)) ?_
  refine AX ?_
  refine .cl rfl C25 (evs1 rfl) (afJ _ aB _) ?_
  iterate 9 refine AX ?_
  refine ⟨?_, rfl⟩
  unfold adI
  rw [aJ, show decide (zV v.bits ≠ 0) = decide (((zV v.bits : Nat) : Int) ≠ 0) from aY.2 aA]
  rfl
 iterate 6 refine AX ?_
 refine .cx rfl (fun hc13 => ?_) (fun hc13 => ?_)
 ·iterate 2 refine AX ?_
  refine .p rfl (zA U24 rfl Z4 (tm rfl)) ?_
  iterate 9 refine AX ?_
  refine ⟨?_, rfl⟩
  unfold adI
  rw [aI, aJ]
  rfl
 iterate 6 refine AX ?_
 refine .cx rfl (fun hc17 => ?_) (fun hc17 => ?_)
 ·iterate 2 refine AX ?_
  refine .p rfl (zA U24 rfl Z9 (tm rfl)) ?_
  refine AX ?_
  refine .cl rfl call42 (evs1 rfl) (azC _ aA _) ?_
  iterate 4 refine AX ?_
  refine .seqTo 27 (.bool (decide (aoK v.text ≠ agH true ∧ aoK v.text ≠ agH false))) [1, 2, 3, 6, 4] ?_ ?_
  ·-- region 8
   iterate 4 refine AX ?_
   refine zD (t := 24) rfl (fun hg24 => ?_) (fun hg24 => ?_)
   ·have hh24 := hg24; try simp only [aM, eV] at hh24
    iterate 4 refine AX ?_
    exact ⟨rfl, zO rfl (by (refine Eq.symm ?_; (rw [← decide_not]; exact aY.2 ⟨fun q => q.2, fun q => ⟨by assumption, q⟩⟩))) sX, rfl⟩
   have hh24 := hg24; try simp only [aO, eH] at hh24
   iterate 4 refine AX ?_
   exact ⟨rfl, zO rfl (by (refine Eq.symm ?_; exact bD (fun q => q.1 aB))) sX, rfl⟩
  refine .sub [(27, _), (1, _), (2, _), (3, _), (6, _), (4, _)] sX ?_
  refine .cx rfl (fun hc27 => ?_) (fun hc27 => ?_)
  ·iterate 11 refine AX ?_
   refine ⟨?_, rfl⟩
   unfold adI
   rw [aI, aI, aJ, aN aB]
   rfl
  iterate 14 refine AX ?_
  refine ⟨?_, rfl⟩
  unfold adI
  rw [aI, aI, aJ, aL aB]
  rfl
 iterate 6 refine AX ?_
 refine .cx rfl (fun hc30 => ?_) (fun hc30 => ?_)
 ·refine AX ?_
  refine .draw [(0, true), (1, true), (2, true), (3, true)] rfl aE ?_
  refine .p rfl rfl (zA U24 rfl Z3 (tm rfl)) ?_
  iterate 9 refine AX ?_
  refine ⟨?_, rfl⟩
  unfold adI
  rw [aI, aI, aI, aJ]
  rfl
 iterate 11 refine AX ?_
 refine ⟨?_, rfl⟩
 unfold adI
 rw [aI, aI, aI, aI]
 rfl

theorem bbN {l : Loc} (hl : l.entOk) {s : List UInt8} (h : s.length ≤ 1000) : aoI l s = abU l (aaI zQ s) := by unfold aoI; rw [aI, bwU hl]

theorem aqQ (l : Loc) (hl : l.entOk) (hk : l.ok) (hg : l.grp ≠ []) (v : Val) (hv : v.bits < 18446744073709551616) (ht : v.text.length ≤ 1000) : Fn 13 [v.av, rL l] (.tuple [.int .u64 (((agK l v).1 : Nat) : Int), .int .i64 (agK l v).2]) := by
 intro H
 refine .of_body func13 rfl ntmps13 results13 rfl ?_
 iterate 11 refine AX ?_
 refine .p rfl (zA U24 rfl Z3 (tm rfl)) ?_
 iterate 10 refine AX ?_
 refine .cx rfl (fun hc10 => ?_) (fun hc10 => ?_)
 ·iterate 2 refine AX ?_
  refine .p rfl (zA U24 rfl Z22 (tm rfl)) ?_
  iterate 9 refine AX ?_
  refine ⟨?_, rfl⟩
  unfold agK
  rw [aJ]
  rfl
 iterate 6 refine AX ?_
 refine .cx rfl (fun hc14 => ?_) (fun hc14 => ?_)
 ·iterate 2 refine AX ?_
  refine .p rfl (zA U24 rfl Z4 (tm rfl)) ?_
  iterate 3 refine AX ?_
  refine .cx rfl (fun hc17 => ?_) (fun hc17 => ?_)
  ·iterate 10 refine AX ?_
   refine ⟨?_, rfl⟩
   unfold agK
   rw [aI, aN ⟨by omega, hc17⟩]
   rfl
  iterate 11 refine AX ?_
  refine ⟨?_, rfl⟩
  unfold agK
  rw [aI, aL (fun q => by rw [hc17] at q; exact absurd q.2 aC), aI, aI]
  rfl
 iterate 6 refine AX ?_
 refine .cx rfl (fun hc18 => ?_) (fun hc18 => ?_)
 ·iterate 2 refine AX ?_
  refine .p rfl (zA U24 rfl Z9 (tm rfl)) ?_
  iterate 2 refine AX ?_
  refine .cl rfl call39 (evs2 rfl rfl) (azV l hl hk hg v.text aA _) ?_
  rw [bbN hl ht]
  iterate 3 refine AX ?_
  refine .al zr79 (fun b6 hb6 => ?_)
  iterate 4 refine AX ?_
  refine .frz (t := 6) rfl (hb6) ?_
  iterate 7 refine AX ?_
  refine .cx rfl (fun hc28 => ?_) (fun hc28 => ?_)
  ·iterate 11 refine AX ?_
   refine ⟨?_, rfl⟩
   unfold agK
   rw [aI, aL (fun q => by omega), aJ, aJ]
   rfl
  iterate 4 refine AX ?_
  refine .p rfl (zA U79 rfl Z22 (tm rfl)) ?_
  iterate 9 refine AX ?_
  refine ⟨?_, rfl⟩
  unfold agK
  rw [aI, aL (fun q => by omega), aJ, aI]
  rfl
 iterate 6 refine AX ?_
 refine .cx rfl (fun hc31 => ?_) (fun hc31 => ?_)
 ·refine AX ?_
  refine .draw [(0, true), (1, true), (2, true), (3, true)] rfl aE ?_
  refine .p rfl rfl (zA U24 rfl Z3 (tm rfl)) ?_
  iterate 9 refine AX ?_
  refine ⟨?_, rfl⟩
  unfold agK
  rw [aI, aL (fun q => by omega), aI, aJ]
  rfl
 iterate 11 refine AX ?_
 refine ⟨?_, rfl⟩
 unfold agK
 rw [aI, aL (fun q => by omega), aI, aI]
 rfl

end Go.Proofs.YtmmgbnolccpjoaaGreatDoor
