import Derived.Test.YteedncdcbgplfaaGreatDoorZa
import Derived.Test.YteedncdcbgplfaaGreatDoorD1
set_option maxHeartbeats 1000000
namespace Go.Proofs.YteedncdcbgplfaaGreatDoor
open Go Go.RowKit
section
set_option maxRecDepth 100000

def upB (rest : List UInt8) : Bool := decide (53 ≤ (rest.getD 0 0).toNat)
theorem cmp5 {rest : List UInt8} (h : rest ≠ []) : (0 : Int) ≤ Lib.compareBytes rest [53] ↔ 53 ≤ (rest.getD 0 0).toNat := by
 cases rest with
 | nil => exact absurd rfl h
 | cons x r =>
  unfold Lib.compareBytes
  simp only [List.getD_cons_zero]
  have hx : x < 53 ↔ x.toNat < 53 := UInt8.lt_iff_toNat_lt
  have hy : 53 < x ↔ 53 < x.toNat := UInt8.lt_iff_toNat_lt
  split
  ·rename_i h1; have := hx.1 h1; omega
  rename_i h1
  have h1' : ¬ x.toNat < 53 := fun q => h1 (hx.2 q)
  split
  ·omega
  cases r with
  | nil => unfold Lib.compareBytes; omega
  | cons y r => unfold Lib.compareBytes; omega
def awQ (s : List UInt8) : List UInt8 :=
 if Lib.trimRightB s 57 = [] then 49 :: List.replicate s.length 48
 else (Lib.trimRightB s 57).take ((Lib.trimRightB s 57).length - 1) ++ [UInt8.ofNat (((Lib.trimRightB s 57).getD ((Lib.trimRightB s 57).length - 1) 0).toNat + 1)] ++ List.replicate (s.length - (Lib.trimRightB s 57).length) 48
def boG (neg : Bool) (ds : List UInt8) (e : Int) (n : Nat) : (Bool × List UInt8 × Int) × Int := mkN neg (if upB (ds.drop n) = true then awQ (ds.take n) else ds.take n) (e + ds.length - n)
def bkP (neg : Bool) (ds : List UInt8) (e : Int) (n : Nat) : (Bool × List UInt8 × Int) × Int := if ds.length ≤ n then ((neg, ds, e), 0) else boG neg ds e n
theorem Digs.app {a b : List UInt8} (h : Digs a) (k : Digs b) : Digs (a ++ b) := fun x hx => by
 rcases List.mem_append.1 hx with h1 | h1
 ·exact h x h1
 exact k x h1
theorem Digs.rep {n : Nat} {x : UInt8} (h : isD x) : Digs (List.replicate n x) := fun y hy => by rw [List.eq_of_mem_replicate hy]; exact h
theorem Digs.one {x : UInt8} (h : isD x) : Digs [x] := fun y hy => by rw [List.mem_singleton.1 hy]; exact h
theorem bjT {s : List UInt8} (hd : Digs s) (h : Lib.trimRightB s 57 ≠ []) : 48 ≤ ((Lib.trimRightB s 57).getD ((Lib.trimRightB s 57).length - 1) 0).toNat ∧ ((Lib.trimRightB s 57).getD ((Lib.trimRightB s 57).length - 1) 0).toNat < 57 := by
 have hp := List.length_pos_iff.2 h
 have h1 := (hd.trimR 57).at (p := (Lib.trimRightB s 57).length - 1) (by omega)
 have h2 := amW h
 refine ⟨h1.1, ?_⟩
 rcases Nat.lt_or_ge ((Lib.trimRightB s 57).getD ((Lib.trimRightB s 57).length - 1) 0).toNat 57 with q | q
 ·exact q
 exact absurd (UInt8.toNat_inj.1 (show _ = (57 : UInt8).toNat by simp only [UInt8.reduceToNat]; omega)) h2
theorem ahT {s : List UInt8} (hd : Digs s) : Digs (awQ s) := by
 unfold awQ
 split
 ·exact Digs.app (a := [49]) (Digs.one (by unfold isD; decide)) (Digs.rep (by unfold isD; decide))
 rename_i h
 obtain ⟨h1, h2⟩ := bjT hd h
 refine Digs.app (Digs.app ((hd.trimR 57).take _) (Digs.one ?_)) (Digs.rep (by unfold isD; decide))
 unfold isD
 rw [UInt8.toNat_ofNat']
 omega
theorem ajX (s : List UInt8) : (awQ s).length ≤ s.length + 1 := by
 unfold awQ
 have := adL s 57
 split
 ·simp
 rename_i h
 have hp := List.length_pos_iff.2 h
 simp only [List.length_append, List.length_take, List.length_replicate, List.length_cons, List.length_nil]; omega

theorem aqD (neg : Bool) (kept rest : List UInt8) (hr : rest ≠ []) (H : Heap) : ACall Tryz.prog 275 [.bool neg, .str kept, .str rest, .int .i64 1] H (fun y H' => y = .bool (upB rest) ∧ H' = H) := by
 refine ACall.of_body Tryz.func275 rfl Tryz.ntmps275 Tryz.results275 rfl ?_
 iterate 12 refine AX ?_
 refine AWP.cond_false (tm rfl) (by exact decide_eq_false hr) ?_
 iterate 5 refine AX ?_
 refine .cl rfl Tryz.call304 (.cons (tm rfl) (.cons (zM rfl) .nil)) (compareA rest [53] _) ?_
 iterate 16 refine AX ?_
 refine AWP.cond_false (tm rfl) (by rfl) ?_
 iterate 6 refine AX ?_
 refine AWP.cond_true (tm rfl) (by rfl) ?_
 iterate 11 refine AX ?_
 refine ⟨?_, rfl⟩
 simp only [yN, upB]
 congr 1
 exact decide_eq_decide.2 (cmp5 hr)

theorem anQ (s : List UInt8) (hd : Digs s) (hl : s.length ≤ 100000) (H : Heap) : ACall Tryz.prog 276 [.str s] H (fun y H' => y = .str (awQ s) ∧ H' = H) := by
 have htl := adL s 57
 have hml := zT
 refine ACall.of_body Tryz.func276 rfl Tryz.ntmps276 Tryz.results276 rfl ?_
 iterate 8 refine AX ?_
 refine .cl rfl Tryz.call151 (.cons (tm rfl) (.cons (zM rfl) .nil)) (trimRightA 57 (by decide) s _) ?_
 iterate 10 refine AX ?_
 refine .cl rfl C103 (.cons (zM rfl) (evs1 rfl)) (repeatZ 48 _ (s.length - (Lib.trimRightB s 57).length) (by omega) (by omega) _) ?_
 iterate 10 refine AX ?_
 refine AWP.cx rfl (fun hc14 => ?_) (fun hc14 => ?_)
 ·iterate 3 refine AX ?_
  refine .p rfl (zU (zM rfl) (tm rfl) (by rw [zT, List.length_replicate]; simp only [List.length_cons, List.length_nil]; omega)) ?_
  iterate 6 refine AX ?_
  refine ⟨?_, rfl⟩
  unfold awQ
  rw [if_pos hc14, hc14]; rfl
 have htp := List.length_pos_iff.2 hc14
 obtain ⟨h91, h92⟩ := bjT hd hc14
 have htn : (((Lib.trimRightB s 57).length : Int) - 1).toNat = (Lib.trimRightB s 57).length - 1 := by omega
 rw [← htn] at h91 h92
 iterate 3 refine AX ?_
 refine AWP.draw [(0, true), (1, true), (2, true), (3, true), (4, true), (5, true), (6, true), (7, true), (8, true), (9, true), (10, true), (11, true), (12, true), (13, true), (14, true), (15, true)] rfl (by decide +kernel) ?_
 iterate 10 refine AX ?_
 refine .p rfl rfl (ayH (tm rfl) (yQ 1) (by omega)) (.p rfl rfl (arE U5 U9 (tm rfl) (by omega)) (.p rfl rfl (zU (tm rfl) (tm rfl) (by rw [zT]; simp only [List.length_cons, List.length_nil, List.length_take]; omega)) ?_))
 refine AX ?_
 refine .p rfl rfl (zU (tm rfl) (tm rfl) (by rw [zT]; simp only [List.length_append, List.length_replicate, List.length_cons, List.length_nil, List.length_take]; omega)) ?_
 iterate 5 refine AX ?_
 refine ⟨?_, rfl⟩
 unfold awQ
 rw [if_neg hc14, ← htn]; rfl

theorem azI (neg : Bool) (ds : List UInt8) (e : Int) (n : Nat) (hd : Digs ds) (hn : 0 < n) (hn2 : n < ds.length) (hl : ds.length ≤ 2000) (he : -200000 ≤ e ∧ e ≤ 200000) (H : Heap) : ACall Tryz.prog 237 [dA neg ds e, .int .i64 (n : Int), .int .i64 1] H (fun y H' => y = dT (boG neg ds e n) ∧ H' = H) := by
 have hdn : ds.drop n ≠ [] := by intro h; have := congrArg List.length h; simp at this; omega
 have hil := ajX (ds.take n)
 rw [List.length_take] at hil
 have hml := zT
 refine ACall.of_body Tryz.func237 rfl Tryz.ntmps237 Tryz.results237 rfl ?_
 iterate 3 refine AX ?_
 refine .al zr61 (fun b6 hb6 => ?_)
 iterate 5 refine AX ?_
 refine .p rfl (zA U61 rfl Z3 (tm rfl)) ?_
 refine AX ?_
 refine .p rfl (zA U61 rfl Z9 (tm rfl)) ?_
 iterate 9 refine AX ?_
 refine AWP.draw [(0, true), (1, true), (2, true), (3, true), (5, true), (6, true), (4, false), (7, true), (8, true), (9, true)] rfl (by decide +kernel) ?_
 iterate 4 refine AX ?_
 refine .p rfl rfl (zA U61 rfl Z9 (tm rfl)) ?_
 refine AX ?_
 refine .s rfl rfl (zE C103 (.cons (zM rfl) (evs1 rfl)) (repeatZ 48 _ 0 (by simp only [asQ, arR]; split <;> split <;> omega) (by omega) _)) ?_
 rintro _ _ ⟨rfl, hH⟩
 obtain rfl := hH.symm
 refine .p rfl rfl (zU (tm rfl) (tm rfl) (by rw [zT, List.length_replicate]; omega)) ?_
 iterate 11 refine AX ?_
 refine AWP.cond_true (tm rfl) (by exact decide_eq_true (by omega)) ?_
 refine AWP.draw [(0, true), (1, true), (2, true), (3, true), (4, true), (5, true), (6, true), (7, true), (8, true), (9, true)] rfl (by decide +kernel) ?_
 refine .p rfl rfl (zA U61 rfl Z9 (tm rfl)) ?_
 iterate 3 refine AX ?_
 refine .p rfl rfl (zA U61 rfl Z9 (tm rfl)) ?_
 iterate 7 refine AX ?_
 refine AWP.seqToL [(9, .str (if upB (ds.drop n) = true then awQ (ds.take n) else ds.take n))] [3, 6, 7, 8] ?_ ?_
 ·iterate 2 refine AX ?_
  refine .p rfl (zA U61 rfl Z4 (tm rfl)) ?_
  iterate 4 refine AX ?_
  refine .cl rfl Tryz.call275 (.cons (tm rfl) (evs3 rfl rfl rfl)) (aqD neg _ _ hdn _) ?_
  iterate 2 refine AX ?_
  refine AWP.cx rfl (fun hc42 => ?_) (fun hc42 => ?_)
  ·iterate 2 refine AX ?_
   refine .cl rfl Tryz.call276 (evs1 rfl) (anQ (ds.take n) (hd.take n) (by rw [List.length_take]; omega) _) ?_
   iterate 2 refine AX ?_
   exact ⟨rfl, (yD rfl (by (rw [if_pos (show upB (ds.drop n) = true from hc42)]; done)) sX), rfl⟩
  refine AX ?_
  exact ⟨rfl, (yD rfl (by (rw [if_neg (show ¬ upB (ds.drop n) = true from by first | exact hc42 | (intro q; rw [show upB (ds.drop n) = false from hc42] at q; cases q))]; rfl)) sX), rfl⟩
 refine AWP.sub [(9, _), (3, _), (6, _), (7, _), (8, _)] sX ?_
 iterate 2 refine AX ?_
 refine .p rfl (zA U61 rfl Z4 (tm rfl)) ?_
 iterate 3 refine AX ?_
 refine .cl rfl Tryz.call71 (evs3 rfl rfl rfl) (aiZ neg (if upB (ds.drop n) = true then awQ (ds.take n) else ds.take n) _ (by split; exact ahT (hd.take n); exact hd.take n) (by split; omega; rw [List.length_take]; omega) (by constructor <;> omega) _) ?_
 iterate 6 refine AX ?_
 refine AWP.frz (t := 6) rfl (hb6) ?_
 iterate 2 refine AX ?_
 refine ⟨?_, rfl⟩
 rfl

theorem bfA (neg : Bool) (ds : List UInt8) (e : Int) (n : Nat) (hr : yL ds e = true) (hn : 0 < n) (hn2 : n ≤ 100000) (H : Heap) : ACall Tryz.prog 164 [dA neg ds e, .int .i64 (n : Int), .int .i64 1] H (fun y H' => y = dT (bkP neg ds e n) ∧ H' = H) := by
 have hk1 : (!yL ds e) = false := by rw [hr]; rfl
 have hrl := yX hr
 have hdd := qO hr
 refine ACall.of_body Tryz.func164 rfl Tryz.ntmps164 Tryz.results164 rfl ?_
 iterate 3 refine AX ?_
 refine .al zr61 (fun b6 hb6 => ?_)
 iterate 8 refine AX ?_
 refine .cl rfl C152 (evs1 rfl) (acX neg ds e hdd _) ?_
 iterate 16 refine AX ?_
 refine AWP.cond_false (tm rfl) (by exact decide_eq_false (by omega)) ?_
 iterate 3 refine AX ?_
 refine .p rfl (zA U61 rfl Z9 (tm rfl)) ?_
 iterate 6 refine AX ?_
 refine AWP.cx rfl (fun hc25 => ?_) (fun hc25 => ?_)
 ·iterate 7 refine AX ?_
  refine AWP.frz (t := 6) rfl (hb6) ?_
  iterate 4 refine AX ?_
  refine ⟨?_, rfl⟩
  unfold bkP
  rw [if_pos (by omega)]; rfl
 iterate 8 refine AX ?_
 refine .cl rfl Tryz.call237 (evs3 rfl rfl rfl) (azI neg ds e n hdd hn (by omega) (by omega) (by omega) _) ?_
 iterate 6 refine AX ?_
 refine AWP.frz (t := 6) rfl (hb6) ?_
 iterate 2 refine AX ?_
 refine ⟨?_, rfl⟩
 unfold bkP
 rw [if_neg (by omega)]; rfl

end

end Go.Proofs.YteedncdcbgplfaaGreatDoor
