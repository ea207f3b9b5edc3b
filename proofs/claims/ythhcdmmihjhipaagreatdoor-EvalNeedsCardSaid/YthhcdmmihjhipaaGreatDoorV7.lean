/-
  What a tree needs, in the document.
-/
import Derived.Test.YthhcdmmihjhipaaGreatDoorV6
namespace Go.Proofs.YthhcdmmihjhipaaGreatDoor
open Go Go.RowKit

theorem iptr_eq {xs ys : List AV} (h : xs = ys) : AV.iptr xs = AV.iptr ys := by rw [h]
theorem Heap.kill_live {H : Heap} {t : Nat} (h : H.toks t = false) : (H.live t).kill t = H := by
  cases H with
  | mk objs toks =>
    simp only [Heap.kill, Heap.live, Heap.mk.injEq, true_and]
    funext k
    by_cases e : k = t
    · subst e; rw [if_pos rfl]; exact h.symm
    · rw [if_neg e, if_neg e]
theorem area5 {k : Int} {p q : Pt} (h : k = 5) : areaOf k p q = ⟨⟨imin p.c p.c, imin p.r p.r, false, false⟩, ⟨imax p.c p.c, imax p.r p.r, false, false⟩⟩ := by unfold areaOf; rw [if_pos h]
theorem area6 {k : Int} {p q : Pt} (h : ¬ k = 5) : areaOf k p q = ⟨⟨imin p.c q.c, imin p.r q.r, false, false⟩, ⟨imax p.c q.c, imax p.r q.r, false, false⟩⟩ := by unfold areaOf; rw [if_neg h]

def rn1_J (k0 _ : Int) (_ : List UInt8) (_ : Bool) (_ : Int) (p q : Pt) (_ : List Ex) (l : List Ar) (tl : Tail) (H : Heap) : Nat → Env → Heap → Prop := fun k env H1 => ∃ j : Nat, j ≤ l.length ∧ areaOf k0 p q ∉ l.take j ∧ env = [(1, .slice 8 (l.map Ar.av) tl), (6, .iptr (areaOf k0 p q).cs), (7, .int .i64 (j : Int))] ∧ H = H1 ∧ k = l.length - j

def rn2_J (k0 b : Int) (s : List UInt8) (i : Bool) (f : Int) (p q : Pt) (ks : List Ex) (l : List Ar) (H0 : Heap) : Nat → Env → Heap → Prop := fun k env H1 => ∃ (j tj : Nat), j ≤ ks.length ∧ H0.toks tj = false ∧ env = [(1, .slice 8 ((Ex.needL (ks.take j) l).map Ar.av) (.own tj)), (2, .iptr (Nd.cs ⟨k0, b, s, i, f, p, q, ks.map Ex.av⟩)), (8, .int .i64 (j : Int))] ∧ H1 = H0.live tj ∧ k = ks.length - j

set_option maxRecDepth 100000 in
theorem rneeds_step (k b : Int) (s : List UInt8) (i : Bool) (f : Int) (p q : Pt) (ks : List Ex) (hk : ks.length ≤ maxLen) (l : List Ar) (hl : l.length + (1 + Ex.totL ks) ≤ 100000) (ih : ∀ x, x ∈ ks → ∀ (l : List Ar) (H0 : Heap) (tk : Nat), H0.toks tk = false → l.length + x.tot ≤ 100000 → ACall Tryz.prog 21 [x.av, .slice 8 (l.map Ar.av) (.own tk)] (H0.live tk) (fun y H' => ∃ t, H0.toks t = false ∧ y = .slice 8 ((x.need l).map Ar.av) (.own t) ∧ H' = H0.live t)) (H0 : Heap) (tk : Nat) (hf : H0.toks tk = false) (H : Heap) (hH0 : H = H0.live tk) : ACall Tryz.prog 21 [ndv k b s i f p q ks, .slice 8 (l.map Ar.av) (.own tk)] H (fun y H' => ∃ t, H0.toks t = false ∧ y = .slice 8 ((if k = 5 ∨ k = 6 then addA l (areaOf k p q) else Ex.needL ks l).map Ar.av) (.own t) ∧ H' = H0.live t) := by
  have hml := maxLen_eq
  have hlive : H.toks tk = true := by rw [hH0]; exact Heap.toks_live_same _ _
  refine ACall.of_body Tryz.func21 rfl Tryz.ntmps21 Tryz.results21 rfl ?_
  refine AWP.seq ?_
  -- region 0
  refine AWP.region ?_
  refine AList.s rfl (step_boxI (.tmp _ _ rfl) (.inr ⟨_, rfl⟩)) ?_
  rintro _ _ ⟨rfl, hH⟩
  obtain rfl := hH.symm
  refine AList.p rfl (pure_assign (ev_nil (sz := 8) (tl := .full))) ?_
  refine AList.nil ?_
  refine Next.go ?_
  refine AWP.seq ?_
  refine AWP.seq ?_
  -- region 1
  refine AWP.region ?_
  first | (refine AList.p rfl (pure_fieldI Tryz.underlying27 rfl Tryz.sizeOf3 (.tmp _ _ rfl)) ?_) | (refine AList.p rfl (pure_field Tryz.underlying27 rfl Tryz.sizeOf3 (.tmp _ _ rfl)) ?_)
  first | (refine AList.p rfl (pure_load1 Tryz.isAgg3 (.tmp _ _ rfl)) ?_) | (refine AList.s rfl (step_load1 Tryz.isAgg3 (.tmp _ _ rfl) (by first | assumption | exact (by assumption : Heap.le _ _).objs _ _ (by assumption) | exact Heap.objs_set_same _ _ _ | exact (Heap.objs_set_ne _ _ (by assumption)).trans (Heap.objs_set_same _ _ _) | exact (Heap.objs_set_ne _ _ (by assumption)).trans ((Heap.objs_set_ne _ _ (by assumption)).trans (Heap.objs_set_same _ _ _)) | exact (Heap.objs_set_ne _ _ (by assumption)).trans (by assumption)) rfl) ?_; rintro _ _ ⟨rfl, hH⟩; obtain rfl := hH.symm)
  refine AList.p rfl (pure_eql (.tmp _ _ rfl) ev_int) ?_
  refine AList.p rfl (pure_move (.tmp _ _ rfl)) ?_
  first | (refine AList.lz1 rfl rfl rfl (fun z => pure_fieldI Tryz.underlying27 rfl Tryz.sizeOf3 (.tmp _ _ rfl)) ?_) | (refine AList.lz1 rfl rfl rfl (fun z => pure_field Tryz.underlying27 rfl Tryz.sizeOf3 (.tmp _ _ rfl)) ?_)
  first | (refine AList.lz1 rfl rfl rfl (fun z => pure_load1 Tryz.isAgg3 (.lz rfl z)) ?_) | (refine AList.ls1 rfl rfl rfl (fun z => step_load1 Tryz.isAgg3 (.lz rfl z) (by first | assumption | exact (by assumption : Heap.le _ _).objs _ _ (by assumption) | exact Heap.objs_set_same _ _ _ | exact (Heap.objs_set_ne _ _ (by assumption)).trans (Heap.objs_set_same _ _ _) | exact (Heap.objs_set_ne _ _ (by assumption)).trans ((Heap.objs_set_ne _ _ (by assumption)).trans (Heap.objs_set_same _ _ _)) | exact (Heap.objs_set_ne _ _ (by assumption)).trans (by assumption)) rfl) ?_)
  refine AList.lz1 rfl rfl rfl (fun z => pure_eql (.lz rfl z) ev_int) ?_
  refine AList.p rfl (pure_pickO (.tmp _ _ rfl) rfl) ?_
  refine AList.nil ?_
  refine Next.go ?_
  -- c0
  refine AWP.cond (.tmp _ _ rfl) (fun hc16 => ?_) (fun hc16 => ?_)
  · try simp only at hc16
    have hki : k = 5 ∨ k = 6 := by simp at hc16; omega
    rw [if_pos hki]
    refine AWP.seq ?_
    -- region 2
    refine AWP.region ?_
    first | (refine AList.p rfl (pure_fieldI Tryz.underlying27 rfl Tryz.sizeOf24 (.tmp _ _ rfl)) ?_) | (refine AList.p rfl (pure_field Tryz.underlying27 rfl Tryz.sizeOf24 (.tmp _ _ rfl)) ?_)
    first | (refine AList.p rfl (pure_loadN Tryz.isAgg24 Tryz.sizeOf24 (.tmp _ _ rfl) (Nat.le_of_ble_eq_true rfl)) ?_) | (refine AList.s rfl (step_loadN Tryz.isAgg24 Tryz.sizeOf24 (.tmp _ _ rfl) (by first | assumption | exact (by assumption : Heap.le _ _).objs _ _ (by assumption) | exact Heap.objs_set_same _ _ _ | exact (Heap.objs_set_ne _ _ (by assumption)).trans (Heap.objs_set_same _ _ _) | exact (Heap.objs_set_ne _ _ (by assumption)).trans ((Heap.objs_set_ne _ _ (by assumption)).trans (Heap.objs_set_same _ _ _)) | exact (Heap.objs_set_ne _ _ (by assumption)).trans (by assumption)) (Nat.le_of_ble_eq_true rfl)) ?_; rintro _ _ ⟨rfl, hH⟩; obtain rfl := hH.symm)
    refine AList.s rfl (step_alloc Tryz.zeroValue24 (zr24)) ?_
    rintro _ _ ⟨b5, hb5, rfl, hH⟩
    obtain rfl := hH.symm
    refine AList.s0 (step_store Tryz.sizeOf24 (.tmp _ _ rfl) (.tmp _ _ rfl) rfl rfl (.inr ⟨_, rfl⟩) (by first | assumption | exact (by assumption : Heap.le _ _).objs _ _ (by assumption) | exact Heap.objs_set_same _ _ _ | exact (Heap.objs_set_ne _ _ (by assumption)).trans (Heap.objs_set_same _ _ _) | exact (Heap.objs_set_ne _ _ (by assumption)).trans ((Heap.objs_set_ne _ _ (by assumption)).trans (Heap.objs_set_same _ _ _)) | exact (Heap.objs_set_ne _ _ (by assumption)).trans (by assumption)) (Nat.le_of_ble_eq_true rfl)) ?_
    rintro _ _ ⟨rfl, hH⟩
    obtain rfl := hH.symm
    try first | rw [Heap.set_set] | rw [Heap.set_under (by assumption)]
    refine AList.nil ?_
    refine Next.go ?_
    refine AWP.seq ?_
    refine AWP.seq ?_
    -- region 3
    refine AWP.region ?_
    first | (refine AList.p rfl (pure_fieldI Tryz.underlying27 rfl Tryz.sizeOf3 (.tmp _ _ rfl)) ?_) | (refine AList.p rfl (pure_field Tryz.underlying27 rfl Tryz.sizeOf3 (.tmp _ _ rfl)) ?_)
    first | (refine AList.p rfl (pure_load1 Tryz.isAgg3 (.tmp _ _ rfl)) ?_) | (refine AList.s rfl (step_load1 Tryz.isAgg3 (.tmp _ _ rfl) (by first | assumption | exact (by assumption : Heap.le _ _).objs _ _ (by assumption) | exact Heap.objs_set_same _ _ _ | exact (Heap.objs_set_ne _ _ (by assumption)).trans (Heap.objs_set_same _ _ _) | exact (Heap.objs_set_ne _ _ (by assumption)).trans ((Heap.objs_set_ne _ _ (by assumption)).trans (Heap.objs_set_same _ _ _)) | exact (Heap.objs_set_ne _ _ (by assumption)).trans (by assumption)) rfl) ?_; rintro _ _ ⟨rfl, hH⟩; obtain rfl := hH.symm)
    refine AList.p rfl (pure_eql (.tmp _ _ rfl) ev_int) ?_
    refine AList.nil ?_
    refine Next.go ?_
    -- c1
    refine AWP.cond (.tmp _ _ rfl) (fun hc21 => ?_) (fun hc21 => ?_)
    · try simp only [decide_eq_true_eq] at hc21
      have har := area5 (p := p) (q := q) hc21
      -- region 4
      refine AWP.region ?_
      first | (refine AList.p rfl (pure_fieldI Tryz.underlying27 rfl Tryz.sizeOf24 (.tmp _ _ rfl)) ?_) | (refine AList.p rfl (pure_field Tryz.underlying27 rfl Tryz.sizeOf24 (.tmp _ _ rfl)) ?_)
      first | (refine AList.p rfl (pure_loadN Tryz.isAgg24 Tryz.sizeOf24 (.tmp _ _ rfl) (Nat.le_of_ble_eq_true rfl)) ?_) | (refine AList.s rfl (step_loadN Tryz.isAgg24 Tryz.sizeOf24 (.tmp _ _ rfl) (by first | assumption | exact (by assumption : Heap.le _ _).objs _ _ (by assumption) | exact Heap.objs_set_same _ _ _ | exact (Heap.objs_set_ne _ _ (by assumption)).trans (Heap.objs_set_same _ _ _) | exact (Heap.objs_set_ne _ _ (by assumption)).trans ((Heap.objs_set_ne _ _ (by assumption)).trans (Heap.objs_set_same _ _ _)) | exact (Heap.objs_set_ne _ _ (by assumption)).trans (by assumption)) (Nat.le_of_ble_eq_true rfl)) ?_; rintro _ _ ⟨rfl, hH⟩; obtain rfl := hH.symm)
      refine AList.s0 (step_store Tryz.sizeOf24 (.tmp _ _ rfl) (.tmp _ _ rfl) rfl rfl (.inr ⟨_, rfl⟩) (by first | assumption | exact (by assumption : Heap.le _ _).objs _ _ (by assumption) | exact Heap.objs_set_same _ _ _ | exact (Heap.objs_set_ne _ _ (by assumption)).trans (Heap.objs_set_same _ _ _) | exact (Heap.objs_set_ne _ _ (by assumption)).trans ((Heap.objs_set_ne _ _ (by assumption)).trans (Heap.objs_set_same _ _ _)) | exact (Heap.objs_set_ne _ _ (by assumption)).trans (by assumption)) (Nat.le_of_ble_eq_true rfl)) ?_
      rintro _ _ ⟨rfl, hH⟩
      obtain rfl := hH.symm
      try first | rw [Heap.set_set] | rw [Heap.set_under (by assumption)]
      refine AList.nil ?_
      refine Next.go ?_
      refine AWP.seq ?_
      -- region 5
      refine AWP.region ?_
      first | (refine AList.p rfl (pure_fieldI Tryz.underlying27 rfl Tryz.sizeOf24 (.tmp _ _ rfl)) ?_) | (refine AList.p rfl (pure_field Tryz.underlying27 rfl Tryz.sizeOf24 (.tmp _ _ rfl)) ?_)
      first | (refine AList.p rfl (pure_fieldI Tryz.underlying24 rfl Tryz.sizeOf3 (.tmp _ _ rfl)) ?_) | (refine AList.p rfl (pure_field Tryz.underlying24 rfl Tryz.sizeOf3 (.tmp _ _ rfl)) ?_)
      first | (refine AList.p rfl (pure_load1 Tryz.isAgg3 (.tmp _ _ rfl)) ?_) | (refine AList.s rfl (step_load1 Tryz.isAgg3 (.tmp _ _ rfl) (by first | assumption | exact (by assumption : Heap.le _ _).objs _ _ (by assumption) | exact Heap.objs_set_same _ _ _ | exact (Heap.objs_set_ne _ _ (by assumption)).trans (Heap.objs_set_same _ _ _) | exact (Heap.objs_set_ne _ _ (by assumption)).trans ((Heap.objs_set_ne _ _ (by assumption)).trans (Heap.objs_set_same _ _ _)) | exact (Heap.objs_set_ne _ _ (by assumption)).trans (by assumption)) rfl) ?_; rintro _ _ ⟨rfl, hH⟩; obtain rfl := hH.symm)
      first | (refine AList.p rfl (pure_fieldI Tryz.underlying24 rfl Tryz.sizeOf3 (.tmp _ _ rfl)) ?_) | (refine AList.p rfl (pure_field Tryz.underlying24 rfl Tryz.sizeOf3 (.tmp _ _ rfl)) ?_)
      first | (refine AList.p rfl (pure_load1 Tryz.isAgg3 (.tmp _ _ rfl)) ?_) | (refine AList.s rfl (step_load1 Tryz.isAgg3 (.tmp _ _ rfl) (by first | assumption | exact (by assumption : Heap.le _ _).objs _ _ (by assumption) | exact Heap.objs_set_same _ _ _ | exact (Heap.objs_set_ne _ _ (by assumption)).trans (Heap.objs_set_same _ _ _) | exact (Heap.objs_set_ne _ _ (by assumption)).trans ((Heap.objs_set_ne _ _ (by assumption)).trans (Heap.objs_set_same _ _ _)) | exact (Heap.objs_set_ne _ _ (by assumption)).trans (by assumption)) rfl) ?_; rintro _ _ ⟨rfl, hH⟩; obtain rfl := hH.symm)
      refine AList.p rfl (pure_min2 (.tmp _ _ rfl) (.tmp _ _ rfl)) ?_
      first | (refine AList.p rfl (pure_fieldI Tryz.underlying27 rfl Tryz.sizeOf24 (.tmp _ _ rfl)) ?_) | (refine AList.p rfl (pure_field Tryz.underlying27 rfl Tryz.sizeOf24 (.tmp _ _ rfl)) ?_)
      first | (refine AList.p rfl (pure_fieldI Tryz.underlying24 rfl Tryz.sizeOf3 (.tmp _ _ rfl)) ?_) | (refine AList.p rfl (pure_field Tryz.underlying24 rfl Tryz.sizeOf3 (.tmp _ _ rfl)) ?_)
      first | (refine AList.p rfl (pure_load1 Tryz.isAgg3 (.tmp _ _ rfl)) ?_) | (refine AList.s rfl (step_load1 Tryz.isAgg3 (.tmp _ _ rfl) (by first | assumption | exact (by assumption : Heap.le _ _).objs _ _ (by assumption) | exact Heap.objs_set_same _ _ _ | exact (Heap.objs_set_ne _ _ (by assumption)).trans (Heap.objs_set_same _ _ _) | exact (Heap.objs_set_ne _ _ (by assumption)).trans ((Heap.objs_set_ne _ _ (by assumption)).trans (Heap.objs_set_same _ _ _)) | exact (Heap.objs_set_ne _ _ (by assumption)).trans (by assumption)) rfl) ?_; rintro _ _ ⟨rfl, hH⟩; obtain rfl := hH.symm)
      first | (refine AList.p rfl (pure_fieldI Tryz.underlying24 rfl Tryz.sizeOf3 (.tmp _ _ rfl)) ?_) | (refine AList.p rfl (pure_field Tryz.underlying24 rfl Tryz.sizeOf3 (.tmp _ _ rfl)) ?_)
      first | (refine AList.p rfl (pure_load1 Tryz.isAgg3 (.tmp _ _ rfl)) ?_) | (refine AList.s rfl (step_load1 Tryz.isAgg3 (.tmp _ _ rfl) (by first | assumption | exact (by assumption : Heap.le _ _).objs _ _ (by assumption) | exact Heap.objs_set_same _ _ _ | exact (Heap.objs_set_ne _ _ (by assumption)).trans (Heap.objs_set_same _ _ _) | exact (Heap.objs_set_ne _ _ (by assumption)).trans ((Heap.objs_set_ne _ _ (by assumption)).trans (Heap.objs_set_same _ _ _)) | exact (Heap.objs_set_ne _ _ (by assumption)).trans (by assumption)) rfl) ?_; rintro _ _ ⟨rfl, hH⟩; obtain rfl := hH.symm)
      refine AList.p rfl (pure_min2 (.tmp _ _ rfl) (.tmp _ _ rfl)) ?_
      refine AList.p rfl (pure_build [(0, 1), (1, 1), (2, 1), (3, 1)] Tryz.underlying24 Tryz.zeroValue24 (zr24) rfl (pl24 _ Tryz.underlying24) (.cons (.tmp _ _ rfl) (.inl rfl) (.cons (.tmp _ _ rfl) (.inl rfl) .nil)) rfl) ?_
      first | (refine AList.p rfl (pure_fieldI Tryz.underlying27 rfl Tryz.sizeOf24 (.tmp _ _ rfl)) ?_) | (refine AList.p rfl (pure_field Tryz.underlying27 rfl Tryz.sizeOf24 (.tmp _ _ rfl)) ?_)
      first | (refine AList.p rfl (pure_fieldI Tryz.underlying24 rfl Tryz.sizeOf3 (.tmp _ _ rfl)) ?_) | (refine AList.p rfl (pure_field Tryz.underlying24 rfl Tryz.sizeOf3 (.tmp _ _ rfl)) ?_)
      first | (refine AList.p rfl (pure_load1 Tryz.isAgg3 (.tmp _ _ rfl)) ?_) | (refine AList.s rfl (step_load1 Tryz.isAgg3 (.tmp _ _ rfl) (by first | assumption | exact (by assumption : Heap.le _ _).objs _ _ (by assumption) | exact Heap.objs_set_same _ _ _ | exact (Heap.objs_set_ne _ _ (by assumption)).trans (Heap.objs_set_same _ _ _) | exact (Heap.objs_set_ne _ _ (by assumption)).trans ((Heap.objs_set_ne _ _ (by assumption)).trans (Heap.objs_set_same _ _ _)) | exact (Heap.objs_set_ne _ _ (by assumption)).trans (by assumption)) rfl) ?_; rintro _ _ ⟨rfl, hH⟩; obtain rfl := hH.symm)
      first | (refine AList.p rfl (pure_fieldI Tryz.underlying24 rfl Tryz.sizeOf3 (.tmp _ _ rfl)) ?_) | (refine AList.p rfl (pure_field Tryz.underlying24 rfl Tryz.sizeOf3 (.tmp _ _ rfl)) ?_)
      first | (refine AList.p rfl (pure_load1 Tryz.isAgg3 (.tmp _ _ rfl)) ?_) | (refine AList.s rfl (step_load1 Tryz.isAgg3 (.tmp _ _ rfl) (by first | assumption | exact (by assumption : Heap.le _ _).objs _ _ (by assumption) | exact Heap.objs_set_same _ _ _ | exact (Heap.objs_set_ne _ _ (by assumption)).trans (Heap.objs_set_same _ _ _) | exact (Heap.objs_set_ne _ _ (by assumption)).trans ((Heap.objs_set_ne _ _ (by assumption)).trans (Heap.objs_set_same _ _ _)) | exact (Heap.objs_set_ne _ _ (by assumption)).trans (by assumption)) rfl) ?_; rintro _ _ ⟨rfl, hH⟩; obtain rfl := hH.symm)
      refine AList.p rfl (pure_max2 (.tmp _ _ rfl) (.tmp _ _ rfl)) ?_
      first | (refine AList.p rfl (pure_fieldI Tryz.underlying27 rfl Tryz.sizeOf24 (.tmp _ _ rfl)) ?_) | (refine AList.p rfl (pure_field Tryz.underlying27 rfl Tryz.sizeOf24 (.tmp _ _ rfl)) ?_)
      first | (refine AList.p rfl (pure_fieldI Tryz.underlying24 rfl Tryz.sizeOf3 (.tmp _ _ rfl)) ?_) | (refine AList.p rfl (pure_field Tryz.underlying24 rfl Tryz.sizeOf3 (.tmp _ _ rfl)) ?_)
      first | (refine AList.p rfl (pure_load1 Tryz.isAgg3 (.tmp _ _ rfl)) ?_) | (refine AList.s rfl (step_load1 Tryz.isAgg3 (.tmp _ _ rfl) (by first | assumption | exact (by assumption : Heap.le _ _).objs _ _ (by assumption) | exact Heap.objs_set_same _ _ _ | exact (Heap.objs_set_ne _ _ (by assumption)).trans (Heap.objs_set_same _ _ _) | exact (Heap.objs_set_ne _ _ (by assumption)).trans ((Heap.objs_set_ne _ _ (by assumption)).trans (Heap.objs_set_same _ _ _)) | exact (Heap.objs_set_ne _ _ (by assumption)).trans (by assumption)) rfl) ?_; rintro _ _ ⟨rfl, hH⟩; obtain rfl := hH.symm)
      first | (refine AList.p rfl (pure_fieldI Tryz.underlying24 rfl Tryz.sizeOf3 (.tmp _ _ rfl)) ?_) | (refine AList.p rfl (pure_field Tryz.underlying24 rfl Tryz.sizeOf3 (.tmp _ _ rfl)) ?_)
      first | (refine AList.p rfl (pure_load1 Tryz.isAgg3 (.tmp _ _ rfl)) ?_) | (refine AList.s rfl (step_load1 Tryz.isAgg3 (.tmp _ _ rfl) (by first | assumption | exact (by assumption : Heap.le _ _).objs _ _ (by assumption) | exact Heap.objs_set_same _ _ _ | exact (Heap.objs_set_ne _ _ (by assumption)).trans (Heap.objs_set_same _ _ _) | exact (Heap.objs_set_ne _ _ (by assumption)).trans ((Heap.objs_set_ne _ _ (by assumption)).trans (Heap.objs_set_same _ _ _)) | exact (Heap.objs_set_ne _ _ (by assumption)).trans (by assumption)) rfl) ?_; rintro _ _ ⟨rfl, hH⟩; obtain rfl := hH.symm)
      refine AList.p rfl (pure_max2 (.tmp _ _ rfl) (.tmp _ _ rfl)) ?_
      refine AList.p rfl (pure_build [(0, 1), (1, 1), (2, 1), (3, 1)] Tryz.underlying24 Tryz.zeroValue24 (zr24) rfl (pl24 _ Tryz.underlying24) (.cons (.tmp _ _ rfl) (.inl rfl) (.cons (.tmp _ _ rfl) (.inl rfl) .nil)) rfl) ?_
      refine AList.p rfl (pure_build [(0, 4), (4, 4)] Tryz.underlying36 Tryz.zeroValue36 (zr36) rfl (pl36 _ Tryz.underlying36) (.cons (.tmp _ _ rfl) (.inr ⟨_, rfl⟩) (.cons (.tmp _ _ rfl) (.inr ⟨_, rfl⟩) .nil)) rfl) ?_
      refine AList.s rfl (step_alloc Tryz.zeroValue36 (zr36)) ?_
      rintro _ _ ⟨b6, hb6, rfl, hH⟩
      obtain rfl := hH.symm
      have hn5_6 := Heap.ne_of (b := b5) (by first | assumption | exact (by assumption : Heap.le _ _).objs _ _ (by assumption) | exact Heap.objs_set_same _ _ _ | exact (Heap.objs_set_ne _ _ (by assumption)).trans (Heap.objs_set_same _ _ _) | exact (Heap.objs_set_ne _ _ (by assumption)).trans ((Heap.objs_set_ne _ _ (by assumption)).trans (Heap.objs_set_same _ _ _)) | exact (Heap.objs_set_ne _ _ (by assumption)).trans (by assumption)) hb6
      refine AList.s0 (step_store Tryz.sizeOf36 (.tmp _ _ rfl) (.tmp _ _ rfl) rfl rfl (.inr ⟨_, rfl⟩) (by first | assumption | exact (by assumption : Heap.le _ _).objs _ _ (by assumption) | exact Heap.objs_set_same _ _ _ | exact (Heap.objs_set_ne _ _ (by assumption)).trans (Heap.objs_set_same _ _ _) | exact (Heap.objs_set_ne _ _ (by assumption)).trans ((Heap.objs_set_ne _ _ (by assumption)).trans (Heap.objs_set_same _ _ _)) | exact (Heap.objs_set_ne _ _ (by assumption)).trans (by assumption)) (Nat.le_of_ble_eq_true rfl)) ?_
      rintro _ _ ⟨rfl, hH⟩
      obtain rfl := hH.symm
      try first | rw [Heap.set_set] | rw [Heap.set_under (by assumption)]
      refine AList.nil ?_
      refine Next.go ?_
      refine AWP.frz (t := 6) rfl (by first | exact hb6 | exact Heap.fresh_set hb6 _) ?_
      refine AWP.frz (t := 5) rfl (by first | exact hb5 | exact Heap.fresh_set hb5 _) ?_
      refine AWP.seq ?_
      refine AWP.seq ?_
      -- region 6
      refine AWP.region ?_
      refine AList.p rfl (pure_assign ev_int) ?_
      refine AList.nil ?_
      refine Next.go ?_
      refine AWP.block ?_
      -- L0
      refine AWP.loopW (rn1_J k b s i f p q ks l (.own tk) H) (l.length) ⟨0, Nat.zero_le _, by simp, rfl, rfl, rfl⟩ (sub_c rfl (sub_e rfl (iptr_eq (by rw [har]; rfl)) (sub_c rfl sub_n))) (Heap.le.refl _) ?_
      rintro _ _ _ ⟨j, hj, hno, rfl, rfl, rfl⟩
      refine AWP.seq ?_
      refine AWP.seq ?_
      -- region 7
      refine AWP.region ?_
      refine AList.p rfl (pure_move (.tmp _ _ rfl)) ?_
      refine AList.p rfl (pure_move (.tmp _ _ rfl)) ?_
      first | (refine AList.p rfl (pure_lenL Tryz.underlying32 (.tmp _ _ rfl)) ?_) | (refine AList.p rfl (pure_lenS Tryz.underlying32 (.tmp _ _ rfl)) ?_) | (refine AList.p rfl (pure_lenM Tryz.underlying32 (.tmp _ _ rfl)) ?_)
      refine AList.p rfl (pure_lss (.tmp _ _ rfl) (.tmp _ _ rfl)) ?_
      refine AList.nil ?_
      refine Next.go ?_
      -- c2
      refine AWP.cond (.tmp _ _ rfl) (fun hc54 => ?_) (fun hc54 => ?_)
      · try simp only [decide_eq_true_eq] at hc54
        have hil : j < l.length := by omega
        refine AWP.skip ?_
        refine Next.go ?_
        refine AWP.seq ?_
        refine AWP.block ?_
        refine AWP.seq ?_
        -- region 9
        refine AWP.draw [(0, true), (1, true), (2, true), (3, true), (4, true), (5, true)] rfl (by decide +kernel) ?_
        refine APlan.p rfl rfl (pure_move (.tmp _ _ rfl)) ?_
        refine APlan.p rfl rfl (pure_move (.tmp _ _ rfl)) ?_
        first | (refine APlan.p rfl rfl (pure_indexL Tryz.underlying32 Tryz.sizeOf36 (.tmp _ _ rfl) (.tmp _ _ rfl) (by omega) (by omega)) ?_) | (refine APlan.p rfl rfl (pure_indexM Tryz.underlying32 Tryz.sizeOf36 (.tmp _ _ rfl) (.tmp _ _ rfl) (by omega) (by omega)) ?_)
        first | (refine APlan.p rfl rfl (pure_loadN Tryz.isAgg36 Tryz.sizeOf36 (.tmp _ _ rfl) (Nat.le_of_ble_eq_true rfl)) ?_) | (refine APlan.f rfl rfl (fun _ => step_loadN Tryz.isAgg36 Tryz.sizeOf36 (.tmp _ _ rfl) (by first | assumption | exact (by assumption : Heap.le _ _).objs _ _ (by assumption) | exact Heap.objs_set_same _ _ _ | exact (Heap.objs_set_ne _ _ (by assumption)).trans (Heap.objs_set_same _ _ _) | exact (Heap.objs_set_ne _ _ (by assumption)).trans ((Heap.objs_set_ne _ _ (by assumption)).trans (Heap.objs_set_same _ _ _)) | exact (Heap.objs_set_ne _ _ (by assumption)).trans (by assumption)) (Nat.le_of_ble_eq_true rfl)) ?_)
        first | (refine APlan.p rfl rfl (pure_loadN Tryz.isAgg36 Tryz.sizeOf36 (.tmp _ _ rfl) (Nat.le_of_ble_eq_true rfl)) ?_) | (refine APlan.f rfl rfl (fun _ => step_loadN Tryz.isAgg36 Tryz.sizeOf36 (.tmp _ _ rfl) (by first | assumption | exact (by assumption : Heap.le _ _).objs _ _ (by assumption) | exact Heap.objs_set_same _ _ _ | exact (Heap.objs_set_ne _ _ (by assumption)).trans (Heap.objs_set_same _ _ _) | exact (Heap.objs_set_ne _ _ (by assumption)).trans ((Heap.objs_set_ne _ _ (by assumption)).trans (Heap.objs_set_same _ _ _)) | exact (Heap.objs_set_ne _ _ (by assumption)).trans (by assumption)) (Nat.le_of_ble_eq_true rfl)) ?_)
        refine APlan.p rfl rfl (pure_eqlA Tryz.eqGuardType36 (.tmp _ _ rfl) (.tmp _ _ rfl) (eqAr36 (l[((j : Nat) : Int).toNat]) (areaOf k p q))) ?_
        refine APlan.nil ?_
        refine Next.go ?_
        -- c3
        refine AWP.cond (.tmp _ _ rfl) (fun hc62 => ?_) (fun hc62 => ?_)
        · try simp only [decide_eq_true_eq] at hc62
          have hmem : areaOf k p q ∈ l := by rw [← hc62]; exact List.getElem_mem hil
          refine AWP.seq ?_
          -- region 10
          refine AWP.region ?_
          refine AList.p rfl (pure_move (.tmp _ _ rfl)) ?_
          refine AList.p rfl (pure_assign (.tmp _ _ rfl)) ?_
          refine AList.nil ?_
          refine Next.go ?_
          refine AWP.ret ?_
          refine Block.rt ?_
          refine Next.rt ?_
          refine Next.rt ?_
          refine Block.rt ?_
          refine Next.rt ?_
          refine Next.rt ?_
          -- ret 0
          refine Ret.go (.cons (.tmp _ _ rfl) .nil) _ (Heap.le.refl _) ?_
          exact ⟨tk, hf, by unfold addA; rw [if_pos hmem]; rfl, hH0⟩
        · try simp only [decide_eq_false_iff_not] at hc62
          refine AWP.skip ?_
          refine Block.go ?_
          refine Next.go ?_
          -- region 8
          refine AWP.region ?_
          refine AList.p rfl (pure_move (.tmp _ _ rfl)) ?_
          refine AList.p rfl (pure_add (.tmp _ _ rfl) ev_int (by omega)) ?_
          refine AList.p rfl (pure_assign (.tmp _ _ rfl)) ?_
          refine AList.nil ?_
          refine Next.go ?_
          refine Round.mk (J := rn1_J k b s i f p q ks l (.own tk) H) ⟨j + 1, by omega, notin_next hno hil (fun e => hc62 e.symm), rfl, rfl, rfl⟩ (sub_c rfl (sub_c rfl (sub_c rfl sub_n))) (Heap.le.refl _) (by omega)
      · try simp only [decide_eq_false_iff_not, Int.not_lt] at hc54
        have hil : l.length ≤ j := by omega
        rw [List.take_of_length_le hil] at hno
        refine AWP.exit ?_
        refine Next.ex ?_
        refine Next.ex ?_
        refine Block.hit ?_
        refine Next.go ?_
        refine AWP.seq ?_
        -- region 11
        refine AWP.region ?_
        refine AList.p rfl (pure_move (.tmp _ _ rfl)) ?_
        first | (refine AList.p rfl (pure_loadN Tryz.isAgg36 Tryz.sizeOf36 (.tmp _ _ rfl) (Nat.le_of_ble_eq_true rfl)) ?_) | (refine AList.s rfl (step_loadN Tryz.isAgg36 Tryz.sizeOf36 (.tmp _ _ rfl) (by first | assumption | exact (by assumption : Heap.le _ _).objs _ _ (by assumption) | exact Heap.objs_set_same _ _ _ | exact (Heap.objs_set_ne _ _ (by assumption)).trans (Heap.objs_set_same _ _ _) | exact (Heap.objs_set_ne _ _ (by assumption)).trans ((Heap.objs_set_ne _ _ (by assumption)).trans (Heap.objs_set_same _ _ _)) | exact (Heap.objs_set_ne _ _ (by assumption)).trans (by assumption)) (Nat.le_of_ble_eq_true rfl)) ?_; rintro _ _ ⟨rfl, hH⟩; obtain rfl := hH.symm)
        refine AList.s rfl (step_bs1 Tryz.underlying32 Tryz.sizeOf36 Tryz.zeroValue36 rfl (.tmp _ _ rfl) (.inr ⟨_, rfl⟩) ⟨rfl, rfl⟩) ?_
        rintro _ _ ⟨rfl, hH⟩
        obtain rfl := hH.symm
        refine AList.s rfl (step_append Tryz.underlying32 Tryz.underlying32 Tryz.sizeOf36 Tryz.typeInfo36 Tryz.zeroValue36 rfl (by decide) (.tmp _ _ rfl) (.tmp _ _ rfl) (by exact .own _ hlive) (by show (_ + _) * 48 ≤ _; simp; omega) (by repeat' (first | exact row_int _ | exact row_n | exact row_c ⟨rfl, rfl⟩ row_n | exact row_drop (row_int _) | exact row_take (row_int _) | refine row_app ?_ ?_ | exact row_areas _)) (by repeat' (first | exact row_int _ | exact row_n | exact row_c ⟨rfl, rfl⟩ row_n | exact row_drop (row_int _) | exact row_take (row_int _) | refine row_app ?_ ?_))) ?_
        rintro _ _ ⟨t67, ht67, rfl, hH⟩
        obtain rfl := hH.symm
        refine AList.p rfl (pure_assign (.tmp _ _ rfl)) ?_
        refine AList.nil ?_
        refine Next.go ?_
        refine AWP.ret ?_
        refine Next.rt ?_
        -- ret 1
        refine Ret.go (.cons (.tmp _ _ rfl) .nil) _ (Heap.le.refl _) ?_
        subst hH0
        exact ⟨t67, Heap.fresh_of (Heap.le_live _ _) ht67, by unfold addA; rw [if_neg hno]; rw [List.map_append]; rfl, by rw [Heap.kill_live hf]⟩
    · try simp only [decide_eq_false_iff_not] at hc21
      have har := area6 (p := p) (q := q) hc21
      refine AWP.skip ?_
      refine Next.go ?_
      refine AWP.seq ?_
      -- region 5
      refine AWP.region ?_
      first | (refine AList.p rfl (pure_fieldI Tryz.underlying27 rfl Tryz.sizeOf24 (.tmp _ _ rfl)) ?_) | (refine AList.p rfl (pure_field Tryz.underlying27 rfl Tryz.sizeOf24 (.tmp _ _ rfl)) ?_)
      first | (refine AList.p rfl (pure_fieldI Tryz.underlying24 rfl Tryz.sizeOf3 (.tmp _ _ rfl)) ?_) | (refine AList.p rfl (pure_field Tryz.underlying24 rfl Tryz.sizeOf3 (.tmp _ _ rfl)) ?_)
      first | (refine AList.p rfl (pure_load1 Tryz.isAgg3 (.tmp _ _ rfl)) ?_) | (refine AList.s rfl (step_load1 Tryz.isAgg3 (.tmp _ _ rfl) (by first | assumption | exact (by assumption : Heap.le _ _).objs _ _ (by assumption) | exact Heap.objs_set_same _ _ _ | exact (Heap.objs_set_ne _ _ (by assumption)).trans (Heap.objs_set_same _ _ _) | exact (Heap.objs_set_ne _ _ (by assumption)).trans ((Heap.objs_set_ne _ _ (by assumption)).trans (Heap.objs_set_same _ _ _)) | exact (Heap.objs_set_ne _ _ (by assumption)).trans (by assumption)) rfl) ?_; rintro _ _ ⟨rfl, hH⟩; obtain rfl := hH.symm)
      first | (refine AList.p rfl (pure_fieldI Tryz.underlying24 rfl Tryz.sizeOf3 (.tmp _ _ rfl)) ?_) | (refine AList.p rfl (pure_field Tryz.underlying24 rfl Tryz.sizeOf3 (.tmp _ _ rfl)) ?_)
      first | (refine AList.p rfl (pure_load1 Tryz.isAgg3 (.tmp _ _ rfl)) ?_) | (refine AList.s rfl (step_load1 Tryz.isAgg3 (.tmp _ _ rfl) (by first | assumption | exact (by assumption : Heap.le _ _).objs _ _ (by assumption) | exact Heap.objs_set_same _ _ _ | exact (Heap.objs_set_ne _ _ (by assumption)).trans (Heap.objs_set_same _ _ _) | exact (Heap.objs_set_ne _ _ (by assumption)).trans ((Heap.objs_set_ne _ _ (by assumption)).trans (Heap.objs_set_same _ _ _)) | exact (Heap.objs_set_ne _ _ (by assumption)).trans (by assumption)) rfl) ?_; rintro _ _ ⟨rfl, hH⟩; obtain rfl := hH.symm)
      refine AList.p rfl (pure_min2 (.tmp _ _ rfl) (.tmp _ _ rfl)) ?_
      first | (refine AList.p rfl (pure_fieldI Tryz.underlying27 rfl Tryz.sizeOf24 (.tmp _ _ rfl)) ?_) | (refine AList.p rfl (pure_field Tryz.underlying27 rfl Tryz.sizeOf24 (.tmp _ _ rfl)) ?_)
      first | (refine AList.p rfl (pure_fieldI Tryz.underlying24 rfl Tryz.sizeOf3 (.tmp _ _ rfl)) ?_) | (refine AList.p rfl (pure_field Tryz.underlying24 rfl Tryz.sizeOf3 (.tmp _ _ rfl)) ?_)
      first | (refine AList.p rfl (pure_load1 Tryz.isAgg3 (.tmp _ _ rfl)) ?_) | (refine AList.s rfl (step_load1 Tryz.isAgg3 (.tmp _ _ rfl) (by first | assumption | exact (by assumption : Heap.le _ _).objs _ _ (by assumption) | exact Heap.objs_set_same _ _ _ | exact (Heap.objs_set_ne _ _ (by assumption)).trans (Heap.objs_set_same _ _ _) | exact (Heap.objs_set_ne _ _ (by assumption)).trans ((Heap.objs_set_ne _ _ (by assumption)).trans (Heap.objs_set_same _ _ _)) | exact (Heap.objs_set_ne _ _ (by assumption)).trans (by assumption)) rfl) ?_; rintro _ _ ⟨rfl, hH⟩; obtain rfl := hH.symm)
      first | (refine AList.p rfl (pure_fieldI Tryz.underlying24 rfl Tryz.sizeOf3 (.tmp _ _ rfl)) ?_) | (refine AList.p rfl (pure_field Tryz.underlying24 rfl Tryz.sizeOf3 (.tmp _ _ rfl)) ?_)
      first | (refine AList.p rfl (pure_load1 Tryz.isAgg3 (.tmp _ _ rfl)) ?_) | (refine AList.s rfl (step_load1 Tryz.isAgg3 (.tmp _ _ rfl) (by first | assumption | exact (by assumption : Heap.le _ _).objs _ _ (by assumption) | exact Heap.objs_set_same _ _ _ | exact (Heap.objs_set_ne _ _ (by assumption)).trans (Heap.objs_set_same _ _ _) | exact (Heap.objs_set_ne _ _ (by assumption)).trans ((Heap.objs_set_ne _ _ (by assumption)).trans (Heap.objs_set_same _ _ _)) | exact (Heap.objs_set_ne _ _ (by assumption)).trans (by assumption)) rfl) ?_; rintro _ _ ⟨rfl, hH⟩; obtain rfl := hH.symm)
      refine AList.p rfl (pure_min2 (.tmp _ _ rfl) (.tmp _ _ rfl)) ?_
      refine AList.p rfl (pure_build [(0, 1), (1, 1), (2, 1), (3, 1)] Tryz.underlying24 Tryz.zeroValue24 (zr24) rfl (pl24 _ Tryz.underlying24) (.cons (.tmp _ _ rfl) (.inl rfl) (.cons (.tmp _ _ rfl) (.inl rfl) .nil)) rfl) ?_
      first | (refine AList.p rfl (pure_fieldI Tryz.underlying27 rfl Tryz.sizeOf24 (.tmp _ _ rfl)) ?_) | (refine AList.p rfl (pure_field Tryz.underlying27 rfl Tryz.sizeOf24 (.tmp _ _ rfl)) ?_)
      first | (refine AList.p rfl (pure_fieldI Tryz.underlying24 rfl Tryz.sizeOf3 (.tmp _ _ rfl)) ?_) | (refine AList.p rfl (pure_field Tryz.underlying24 rfl Tryz.sizeOf3 (.tmp _ _ rfl)) ?_)
      first | (refine AList.p rfl (pure_load1 Tryz.isAgg3 (.tmp _ _ rfl)) ?_) | (refine AList.s rfl (step_load1 Tryz.isAgg3 (.tmp _ _ rfl) (by first | assumption | exact (by assumption : Heap.le _ _).objs _ _ (by assumption) | exact Heap.objs_set_same _ _ _ | exact (Heap.objs_set_ne _ _ (by assumption)).trans (Heap.objs_set_same _ _ _) | exact (Heap.objs_set_ne _ _ (by assumption)).trans ((Heap.objs_set_ne _ _ (by assumption)).trans (Heap.objs_set_same _ _ _)) | exact (Heap.objs_set_ne _ _ (by assumption)).trans (by assumption)) rfl) ?_; rintro _ _ ⟨rfl, hH⟩; obtain rfl := hH.symm)
      first | (refine AList.p rfl (pure_fieldI Tryz.underlying24 rfl Tryz.sizeOf3 (.tmp _ _ rfl)) ?_) | (refine AList.p rfl (pure_field Tryz.underlying24 rfl Tryz.sizeOf3 (.tmp _ _ rfl)) ?_)
      first | (refine AList.p rfl (pure_load1 Tryz.isAgg3 (.tmp _ _ rfl)) ?_) | (refine AList.s rfl (step_load1 Tryz.isAgg3 (.tmp _ _ rfl) (by first | assumption | exact (by assumption : Heap.le _ _).objs _ _ (by assumption) | exact Heap.objs_set_same _ _ _ | exact (Heap.objs_set_ne _ _ (by assumption)).trans (Heap.objs_set_same _ _ _) | exact (Heap.objs_set_ne _ _ (by assumption)).trans ((Heap.objs_set_ne _ _ (by assumption)).trans (Heap.objs_set_same _ _ _)) | exact (Heap.objs_set_ne _ _ (by assumption)).trans (by assumption)) rfl) ?_; rintro _ _ ⟨rfl, hH⟩; obtain rfl := hH.symm)
      refine AList.p rfl (pure_max2 (.tmp _ _ rfl) (.tmp _ _ rfl)) ?_
      first | (refine AList.p rfl (pure_fieldI Tryz.underlying27 rfl Tryz.sizeOf24 (.tmp _ _ rfl)) ?_) | (refine AList.p rfl (pure_field Tryz.underlying27 rfl Tryz.sizeOf24 (.tmp _ _ rfl)) ?_)
      first | (refine AList.p rfl (pure_fieldI Tryz.underlying24 rfl Tryz.sizeOf3 (.tmp _ _ rfl)) ?_) | (refine AList.p rfl (pure_field Tryz.underlying24 rfl Tryz.sizeOf3 (.tmp _ _ rfl)) ?_)
      first | (refine AList.p rfl (pure_load1 Tryz.isAgg3 (.tmp _ _ rfl)) ?_) | (refine AList.s rfl (step_load1 Tryz.isAgg3 (.tmp _ _ rfl) (by first | assumption | exact (by assumption : Heap.le _ _).objs _ _ (by assumption) | exact Heap.objs_set_same _ _ _ | exact (Heap.objs_set_ne _ _ (by assumption)).trans (Heap.objs_set_same _ _ _) | exact (Heap.objs_set_ne _ _ (by assumption)).trans ((Heap.objs_set_ne _ _ (by assumption)).trans (Heap.objs_set_same _ _ _)) | exact (Heap.objs_set_ne _ _ (by assumption)).trans (by assumption)) rfl) ?_; rintro _ _ ⟨rfl, hH⟩; obtain rfl := hH.symm)
      first | (refine AList.p rfl (pure_fieldI Tryz.underlying24 rfl Tryz.sizeOf3 (.tmp _ _ rfl)) ?_) | (refine AList.p rfl (pure_field Tryz.underlying24 rfl Tryz.sizeOf3 (.tmp _ _ rfl)) ?_)
      first | (refine AList.p rfl (pure_load1 Tryz.isAgg3 (.tmp _ _ rfl)) ?_) | (refine AList.s rfl (step_load1 Tryz.isAgg3 (.tmp _ _ rfl) (by first | assumption | exact (by assumption : Heap.le _ _).objs _ _ (by assumption) | exact Heap.objs_set_same _ _ _ | exact (Heap.objs_set_ne _ _ (by assumption)).trans (Heap.objs_set_same _ _ _) | exact (Heap.objs_set_ne _ _ (by assumption)).trans ((Heap.objs_set_ne _ _ (by assumption)).trans (Heap.objs_set_same _ _ _)) | exact (Heap.objs_set_ne _ _ (by assumption)).trans (by assumption)) rfl) ?_; rintro _ _ ⟨rfl, hH⟩; obtain rfl := hH.symm)
      refine AList.p rfl (pure_max2 (.tmp _ _ rfl) (.tmp _ _ rfl)) ?_
      refine AList.p rfl (pure_build [(0, 1), (1, 1), (2, 1), (3, 1)] Tryz.underlying24 Tryz.zeroValue24 (zr24) rfl (pl24 _ Tryz.underlying24) (.cons (.tmp _ _ rfl) (.inl rfl) (.cons (.tmp _ _ rfl) (.inl rfl) .nil)) rfl) ?_
      refine AList.p rfl (pure_build [(0, 4), (4, 4)] Tryz.underlying36 Tryz.zeroValue36 (zr36) rfl (pl36 _ Tryz.underlying36) (.cons (.tmp _ _ rfl) (.inr ⟨_, rfl⟩) (.cons (.tmp _ _ rfl) (.inr ⟨_, rfl⟩) .nil)) rfl) ?_
      refine AList.s rfl (step_alloc Tryz.zeroValue36 (zr36)) ?_
      rintro _ _ ⟨b6, hb6, rfl, hH⟩
      obtain rfl := hH.symm
      have hn5_6 := Heap.ne_of (b := b5) (by first | assumption | exact (by assumption : Heap.le _ _).objs _ _ (by assumption) | exact Heap.objs_set_same _ _ _ | exact (Heap.objs_set_ne _ _ (by assumption)).trans (Heap.objs_set_same _ _ _) | exact (Heap.objs_set_ne _ _ (by assumption)).trans ((Heap.objs_set_ne _ _ (by assumption)).trans (Heap.objs_set_same _ _ _)) | exact (Heap.objs_set_ne _ _ (by assumption)).trans (by assumption)) hb6
      refine AList.s0 (step_store Tryz.sizeOf36 (.tmp _ _ rfl) (.tmp _ _ rfl) rfl rfl (.inr ⟨_, rfl⟩) (by first | assumption | exact (by assumption : Heap.le _ _).objs _ _ (by assumption) | exact Heap.objs_set_same _ _ _ | exact (Heap.objs_set_ne _ _ (by assumption)).trans (Heap.objs_set_same _ _ _) | exact (Heap.objs_set_ne _ _ (by assumption)).trans ((Heap.objs_set_ne _ _ (by assumption)).trans (Heap.objs_set_same _ _ _)) | exact (Heap.objs_set_ne _ _ (by assumption)).trans (by assumption)) (Nat.le_of_ble_eq_true rfl)) ?_
      rintro _ _ ⟨rfl, hH⟩
      obtain rfl := hH.symm
      try first | rw [Heap.set_set] | rw [Heap.set_under (by assumption)]
      refine AList.nil ?_
      refine Next.go ?_
      refine AWP.frz (t := 6) rfl (by first | exact hb6 | exact Heap.fresh_set hb6 _) ?_
      refine AWP.frz (t := 5) rfl (by first | exact hb5 | exact Heap.fresh_set hb5 _) ?_
      refine AWP.seq ?_
      refine AWP.seq ?_
      -- region 6
      refine AWP.region ?_
      refine AList.p rfl (pure_assign ev_int) ?_
      refine AList.nil ?_
      refine Next.go ?_
      refine AWP.block ?_
      -- L0
      refine AWP.loopW (rn1_J k b s i f p q ks l (.own tk) H) (l.length) ⟨0, Nat.zero_le _, by simp, rfl, rfl, rfl⟩ (sub_c rfl (sub_e rfl (iptr_eq (by rw [har]; rfl)) (sub_c rfl sub_n))) (Heap.le.refl _) ?_
      rintro _ _ _ ⟨j, hj, hno, rfl, rfl, rfl⟩
      refine AWP.seq ?_
      refine AWP.seq ?_
      -- region 7
      refine AWP.region ?_
      refine AList.p rfl (pure_move (.tmp _ _ rfl)) ?_
      refine AList.p rfl (pure_move (.tmp _ _ rfl)) ?_
      first | (refine AList.p rfl (pure_lenL Tryz.underlying32 (.tmp _ _ rfl)) ?_) | (refine AList.p rfl (pure_lenS Tryz.underlying32 (.tmp _ _ rfl)) ?_) | (refine AList.p rfl (pure_lenM Tryz.underlying32 (.tmp _ _ rfl)) ?_)
      refine AList.p rfl (pure_lss (.tmp _ _ rfl) (.tmp _ _ rfl)) ?_
      refine AList.nil ?_
      refine Next.go ?_
      -- c2
      refine AWP.cond (.tmp _ _ rfl) (fun hc54 => ?_) (fun hc54 => ?_)
      · try simp only [decide_eq_true_eq] at hc54
        have hil : j < l.length := by omega
        refine AWP.skip ?_
        refine Next.go ?_
        refine AWP.seq ?_
        refine AWP.block ?_
        refine AWP.seq ?_
        -- region 9
        refine AWP.draw [(0, true), (1, true), (2, true), (3, true), (4, true), (5, true)] rfl (by decide +kernel) ?_
        refine APlan.p rfl rfl (pure_move (.tmp _ _ rfl)) ?_
        refine APlan.p rfl rfl (pure_move (.tmp _ _ rfl)) ?_
        first | (refine APlan.p rfl rfl (pure_indexL Tryz.underlying32 Tryz.sizeOf36 (.tmp _ _ rfl) (.tmp _ _ rfl) (by omega) (by omega)) ?_) | (refine APlan.p rfl rfl (pure_indexM Tryz.underlying32 Tryz.sizeOf36 (.tmp _ _ rfl) (.tmp _ _ rfl) (by omega) (by omega)) ?_)
        first | (refine APlan.p rfl rfl (pure_loadN Tryz.isAgg36 Tryz.sizeOf36 (.tmp _ _ rfl) (Nat.le_of_ble_eq_true rfl)) ?_) | (refine APlan.f rfl rfl (fun _ => step_loadN Tryz.isAgg36 Tryz.sizeOf36 (.tmp _ _ rfl) (by first | assumption | exact (by assumption : Heap.le _ _).objs _ _ (by assumption) | exact Heap.objs_set_same _ _ _ | exact (Heap.objs_set_ne _ _ (by assumption)).trans (Heap.objs_set_same _ _ _) | exact (Heap.objs_set_ne _ _ (by assumption)).trans ((Heap.objs_set_ne _ _ (by assumption)).trans (Heap.objs_set_same _ _ _)) | exact (Heap.objs_set_ne _ _ (by assumption)).trans (by assumption)) (Nat.le_of_ble_eq_true rfl)) ?_)
        first | (refine APlan.p rfl rfl (pure_loadN Tryz.isAgg36 Tryz.sizeOf36 (.tmp _ _ rfl) (Nat.le_of_ble_eq_true rfl)) ?_) | (refine APlan.f rfl rfl (fun _ => step_loadN Tryz.isAgg36 Tryz.sizeOf36 (.tmp _ _ rfl) (by first | assumption | exact (by assumption : Heap.le _ _).objs _ _ (by assumption) | exact Heap.objs_set_same _ _ _ | exact (Heap.objs_set_ne _ _ (by assumption)).trans (Heap.objs_set_same _ _ _) | exact (Heap.objs_set_ne _ _ (by assumption)).trans ((Heap.objs_set_ne _ _ (by assumption)).trans (Heap.objs_set_same _ _ _)) | exact (Heap.objs_set_ne _ _ (by assumption)).trans (by assumption)) (Nat.le_of_ble_eq_true rfl)) ?_)
        refine APlan.p rfl rfl (pure_eqlA Tryz.eqGuardType36 (.tmp _ _ rfl) (.tmp _ _ rfl) (eqAr36 (l[((j : Nat) : Int).toNat]) (areaOf k p q))) ?_
        refine APlan.nil ?_
        refine Next.go ?_
        -- c3
        refine AWP.cond (.tmp _ _ rfl) (fun hc62 => ?_) (fun hc62 => ?_)
        · try simp only [decide_eq_true_eq] at hc62
          have hmem : areaOf k p q ∈ l := by rw [← hc62]; exact List.getElem_mem hil
          refine AWP.seq ?_
          -- region 10
          refine AWP.region ?_
          refine AList.p rfl (pure_move (.tmp _ _ rfl)) ?_
          refine AList.p rfl (pure_assign (.tmp _ _ rfl)) ?_
          refine AList.nil ?_
          refine Next.go ?_
          refine AWP.ret ?_
          refine Block.rt ?_
          refine Next.rt ?_
          refine Next.rt ?_
          refine Block.rt ?_
          refine Next.rt ?_
          refine Next.rt ?_
          -- ret 2
          refine Ret.go (.cons (.tmp _ _ rfl) .nil) _ (Heap.le.refl _) ?_
          exact ⟨tk, hf, by unfold addA; rw [if_pos hmem]; rfl, hH0⟩
        · try simp only [decide_eq_false_iff_not] at hc62
          refine AWP.skip ?_
          refine Block.go ?_
          refine Next.go ?_
          -- region 8
          refine AWP.region ?_
          refine AList.p rfl (pure_move (.tmp _ _ rfl)) ?_
          refine AList.p rfl (pure_add (.tmp _ _ rfl) ev_int (by omega)) ?_
          refine AList.p rfl (pure_assign (.tmp _ _ rfl)) ?_
          refine AList.nil ?_
          refine Next.go ?_
          refine Round.mk (J := rn1_J k b s i f p q ks l (.own tk) H) ⟨j + 1, by omega, notin_next hno hil (fun e => hc62 e.symm), rfl, rfl, rfl⟩ (sub_c rfl (sub_c rfl (sub_c rfl sub_n))) (Heap.le.refl _) (by omega)
      · try simp only [decide_eq_false_iff_not, Int.not_lt] at hc54
        have hil : l.length ≤ j := by omega
        rw [List.take_of_length_le hil] at hno
        refine AWP.exit ?_
        refine Next.ex ?_
        refine Next.ex ?_
        refine Block.hit ?_
        refine Next.go ?_
        refine AWP.seq ?_
        -- region 11
        refine AWP.region ?_
        refine AList.p rfl (pure_move (.tmp _ _ rfl)) ?_
        first | (refine AList.p rfl (pure_loadN Tryz.isAgg36 Tryz.sizeOf36 (.tmp _ _ rfl) (Nat.le_of_ble_eq_true rfl)) ?_) | (refine AList.s rfl (step_loadN Tryz.isAgg36 Tryz.sizeOf36 (.tmp _ _ rfl) (by first | assumption | exact (by assumption : Heap.le _ _).objs _ _ (by assumption) | exact Heap.objs_set_same _ _ _ | exact (Heap.objs_set_ne _ _ (by assumption)).trans (Heap.objs_set_same _ _ _) | exact (Heap.objs_set_ne _ _ (by assumption)).trans ((Heap.objs_set_ne _ _ (by assumption)).trans (Heap.objs_set_same _ _ _)) | exact (Heap.objs_set_ne _ _ (by assumption)).trans (by assumption)) (Nat.le_of_ble_eq_true rfl)) ?_; rintro _ _ ⟨rfl, hH⟩; obtain rfl := hH.symm)
        refine AList.s rfl (step_bs1 Tryz.underlying32 Tryz.sizeOf36 Tryz.zeroValue36 rfl (.tmp _ _ rfl) (.inr ⟨_, rfl⟩) ⟨rfl, rfl⟩) ?_
        rintro _ _ ⟨rfl, hH⟩
        obtain rfl := hH.symm
        refine AList.s rfl (step_append Tryz.underlying32 Tryz.underlying32 Tryz.sizeOf36 Tryz.typeInfo36 Tryz.zeroValue36 rfl (by decide) (.tmp _ _ rfl) (.tmp _ _ rfl) (by exact .own _ hlive) (by show (_ + _) * 48 ≤ _; simp; omega) (by repeat' (first | exact row_int _ | exact row_n | exact row_c ⟨rfl, rfl⟩ row_n | exact row_drop (row_int _) | exact row_take (row_int _) | refine row_app ?_ ?_ | exact row_areas _)) (by repeat' (first | exact row_int _ | exact row_n | exact row_c ⟨rfl, rfl⟩ row_n | exact row_drop (row_int _) | exact row_take (row_int _) | refine row_app ?_ ?_))) ?_
        rintro _ _ ⟨t67, ht67, rfl, hH⟩
        obtain rfl := hH.symm
        refine AList.p rfl (pure_assign (.tmp _ _ rfl)) ?_
        refine AList.nil ?_
        refine Next.go ?_
        refine AWP.ret ?_
        refine Next.rt ?_
        -- ret 3
        refine Ret.go (.cons (.tmp _ _ rfl) .nil) _ (Heap.le.refl _) ?_
        subst hH0
        exact ⟨t67, Heap.fresh_of (Heap.le_live _ _) ht67, by unfold addA; rw [if_neg hno]; rw [List.map_append]; rfl, by rw [Heap.kill_live hf]⟩
  · try simp only at hc16
    have hki : ¬ (k = 5 ∨ k = 6) := by simp at hc16; omega
    rw [if_neg hki]
    refine AWP.skip ?_
    refine Next.go ?_
    refine AWP.seq ?_
    refine AWP.seq ?_
    -- region 12
    refine AWP.region ?_
    refine AList.p rfl (pure_assign ev_int) ?_
    refine AList.nil ?_
    refine Next.go ?_
    refine AWP.block ?_
    -- L1
    refine AWP.loopW (rn2_J k b s i f p q ks l H0) (ks.length) ⟨0, tk, Nat.zero_le _, hf, rfl, hH0, rfl⟩ (sub_c rfl (sub_c rfl (sub_c rfl sub_n))) (Heap.le.refl _) ?_
    rintro _ _ _ ⟨j, tj, hj, hfj, rfl, rfl, rfl⟩
    refine AWP.seq ?_
    refine AWP.seq ?_
    -- region 13
    refine AWP.region ?_
    refine AList.p rfl (pure_move (.tmp _ _ rfl)) ?_
    first | (refine AList.p rfl (pure_fieldI Tryz.underlying27 rfl Tryz.sizeOf25 (.tmp _ _ rfl)) ?_) | (refine AList.p rfl (pure_field Tryz.underlying27 rfl Tryz.sizeOf25 (.tmp _ _ rfl)) ?_)
    first | (refine AList.p rfl (pure_load1 Tryz.isAgg25 (.tmp _ _ rfl)) ?_) | (refine AList.s rfl (step_load1 Tryz.isAgg25 (.tmp _ _ rfl) (by first | assumption | exact (by assumption : Heap.le _ _).objs _ _ (by assumption) | exact Heap.objs_set_same _ _ _ | exact (Heap.objs_set_ne _ _ (by assumption)).trans (Heap.objs_set_same _ _ _) | exact (Heap.objs_set_ne _ _ (by assumption)).trans ((Heap.objs_set_ne _ _ (by assumption)).trans (Heap.objs_set_same _ _ _)) | exact (Heap.objs_set_ne _ _ (by assumption)).trans (by assumption)) rfl) ?_; rintro _ _ ⟨rfl, hH⟩; obtain rfl := hH.symm)
    first | (refine AList.p rfl (pure_lenL Tryz.underlying25 (.tmp _ _ rfl)) ?_) | (refine AList.p rfl (pure_lenS Tryz.underlying25 (.tmp _ _ rfl)) ?_) | (refine AList.p rfl (pure_lenM Tryz.underlying25 (.tmp _ _ rfl)) ?_)
    refine AList.p rfl (pure_lss (.tmp _ _ rfl) (.tmp _ _ rfl)) ?_
    refine AList.nil ?_
    refine Next.go ?_
    -- c4
    refine AWP.cond (.tmp _ _ rfl) (fun hc72 => ?_) (fun hc72 => ?_)
    · try simp only [decide_eq_true_eq] at hc72
      have hil : j < ks.length := by omega
      refine AWP.skip ?_
      refine Next.go ?_
      refine AWP.seq ?_
      refine AWP.block ?_
      -- region 15
      refine AWP.region ?_
      first | (refine AList.p rfl (pure_fieldI Tryz.underlying27 rfl Tryz.sizeOf25 (.tmp _ _ rfl)) ?_) | (refine AList.p rfl (pure_field Tryz.underlying27 rfl Tryz.sizeOf25 (.tmp _ _ rfl)) ?_)
      first | (refine AList.p rfl (pure_load1 Tryz.isAgg25 (.tmp _ _ rfl)) ?_) | (refine AList.s rfl (step_load1 Tryz.isAgg25 (.tmp _ _ rfl) (by first | assumption | exact (by assumption : Heap.le _ _).objs _ _ (by assumption) | exact Heap.objs_set_same _ _ _ | exact (Heap.objs_set_ne _ _ (by assumption)).trans (Heap.objs_set_same _ _ _) | exact (Heap.objs_set_ne _ _ (by assumption)).trans ((Heap.objs_set_ne _ _ (by assumption)).trans (Heap.objs_set_same _ _ _)) | exact (Heap.objs_set_ne _ _ (by assumption)).trans (by assumption)) rfl) ?_; rintro _ _ ⟨rfl, hH⟩; obtain rfl := hH.symm)
      refine AList.p rfl (pure_move (.tmp _ _ rfl)) ?_
      first | (refine AList.p rfl (pure_indexL Tryz.underlying25 Tryz.sizeOf27 (.tmp _ _ rfl) (.tmp _ _ rfl) (by omega) (by omega)) ?_) | (refine AList.p rfl (pure_indexM Tryz.underlying25 Tryz.sizeOf27 (.tmp _ _ rfl) (.tmp _ _ rfl) (by omega) (by omega)) ?_)
      first | (refine AList.p rfl (pure_loadN Tryz.isAgg27 Tryz.sizeOf27 (.tmp _ _ rfl) (Nat.le_of_ble_eq_true rfl)) ?_) | (refine AList.s rfl (step_loadN Tryz.isAgg27 Tryz.sizeOf27 (.tmp _ _ rfl) (by first | assumption | exact (by assumption : Heap.le _ _).objs _ _ (by assumption) | exact Heap.objs_set_same _ _ _ | exact (Heap.objs_set_ne _ _ (by assumption)).trans (Heap.objs_set_same _ _ _) | exact (Heap.objs_set_ne _ _ (by assumption)).trans ((Heap.objs_set_ne _ _ (by assumption)).trans (Heap.objs_set_same _ _ _)) | exact (Heap.objs_set_ne _ _ (by assumption)).trans (by assumption)) (Nat.le_of_ble_eq_true rfl)) ?_; rintro _ _ ⟨rfl, hH⟩; obtain rfl := hH.symm)
      refine AList.p rfl (pure_move (.tmp _ _ rfl)) ?_
      refine AList.s rfl (step_call0 Tryz.call21 (.cons (.tmp _ _ rfl) (.cons (.tmp _ _ rfl) .nil)) (ih _ (List.getElem_mem hil) _ H0 tj hfj (by have h1 := needL_len (ks.take j) l; have h2 := totL_take hil; have h3 := totL_le (l := ks) (j + 1); omega))) ?_
      rintro _ _ ⟨t81, hf81, rfl, hH⟩
      obtain rfl := hH.symm
      refine AList.p rfl (pure_assign (.tmp _ _ rfl)) ?_
      refine AList.nil ?_
      refine Block.go ?_
      refine Next.go ?_
      -- region 14
      refine AWP.region ?_
      refine AList.p rfl (pure_move (.tmp _ _ rfl)) ?_
      refine AList.p rfl (pure_add (.tmp _ _ rfl) ev_int (by omega)) ?_
      refine AList.p rfl (pure_assign (.tmp _ _ rfl)) ?_
      refine AList.nil ?_
      refine Next.go ?_
      refine Round.mk (J := rn2_J k b s i f p q ks l H0) ⟨j + 1, t81, by omega, hf81, rfl, rfl, rfl⟩ (sub_e rfl (slice_eq (by rw [needL_take hil])) (sub_c rfl (sub_c rfl sub_n))) (Heap.le.refl _) (by omega)
    · try simp only [decide_eq_false_iff_not, Int.not_lt] at hc72
      have hil : ks.length ≤ j := by omega
      have hls : ks.take j = ks := List.take_of_length_le hil
      refine AWP.exit ?_
      refine Next.ex ?_
      refine Next.ex ?_
      refine Block.hit ?_
      refine Next.go ?_
      refine AWP.seq ?_
      -- region 16
      refine AWP.region ?_
      refine AList.p rfl (pure_move (.tmp _ _ rfl)) ?_
      refine AList.p rfl (pure_assign (.tmp _ _ rfl)) ?_
      refine AList.nil ?_
      refine Next.go ?_
      refine AWP.ret ?_
      -- ret 4
      refine Ret.go (.cons (.tmp _ _ rfl) .nil) _ (Heap.le.refl _) ?_
      exact ⟨tj, hfj, by rw [hls]; rfl, rfl⟩

end Go.Proofs.YthhcdmmihjhipaaGreatDoor

namespace Go.Proofs.YthhcdmmihjhipaaGreatDoor
open Go Go.RowKit

theorem rneeds_calls : ∀ e : Ex, e.fits → ∀ (l : List Ar) (H0 : Heap) (tk : Nat), H0.toks tk = false → l.length + e.tot ≤ 100000 → ACall Tryz.prog 21 [e.av, .slice 8 (l.map Ar.av) (.own tk)] (H0.live tk) (fun y H' => ∃ t, H0.toks t = false ∧ y = .slice 8 ((e.need l).map Ar.av) (.own t) ∧ H' = H0.live t) := by
  refine Ex.ind fun k b s i f p q ks ih hf l H0 tk hfr hl => ?_
  obtain ⟨h1, h2, h3⟩ := fits_node hf
  rw [Ex.tot] at hl
  rw [Ex.av_node, Ex.need]
  exact rneeds_step k b s i f p q ks h2 l hl (fun x hx l H0 tk hfr hl => ih x hx (h3 x hx) l H0 tk hfr hl) H0 tk hfr _ rfl

set_option maxRecDepth 100000 in
theorem rNeeds_calls (e : Ex) (hf : e.fits) (H : Heap) : ACall Tryz.prog 7 [e.av] H (fun y H' => y = .slice 8 ((needP e).map Ar.av) .shared ∧ H' = H) := by
  refine ACall.of_body Tryz.func7 rfl Tryz.ntmps7 Tryz.results7 rfl ?_
  refine AWP.seq ?_
  -- region 0
  refine AWP.region ?_
  refine AList.s rfl (step_boxI (.tmp _ _ rfl) (.inr ⟨_, rfl⟩)) ?_
  rintro _ _ ⟨rfl, hH⟩
  obtain rfl := hH.symm
  refine AList.p rfl (pure_assign (ev_nil (sz := 8) (tl := .full))) ?_
  refine AList.nil ?_
  refine Next.go ?_
  refine AWP.seq ?_
  -- region 1
  refine AWP.region ?_
  first | (refine AList.p rfl (pure_loadN Tryz.isAgg27 Tryz.sizeOf27 (.tmp _ _ rfl) (Nat.le_of_ble_eq_true rfl)) ?_) | (refine AList.s rfl (step_loadN Tryz.isAgg27 Tryz.sizeOf27 (.tmp _ _ rfl) (by first | assumption | exact (by assumption : Heap.le _ _).objs _ _ (by assumption) | exact Heap.objs_set_same _ _ _ | exact (Heap.objs_set_ne _ _ (by assumption)).trans (Heap.objs_set_same _ _ _) | exact (Heap.objs_set_ne _ _ (by assumption)).trans ((Heap.objs_set_ne _ _ (by assumption)).trans (Heap.objs_set_same _ _ _)) | exact (Heap.objs_set_ne _ _ (by assumption)).trans (by assumption)) (Nat.le_of_ble_eq_true rfl)) ?_; rintro _ _ ⟨rfl, hH⟩; obtain rfl := hH.symm)
  refine AList.s rfl (step_call0 Tryz.call20 (.cons (.tmp _ _ rfl) .nil) (rRight_calls e hf _)) ?_
  rintro _ _ ⟨rfl, hH⟩
  obtain rfl := hH.symm
  refine AList.p rfl (pure_assign (.tmp _ _ rfl)) ?_
  refine AList.nil ?_
  refine Next.go ?_
  refine AWP.seq ?_
  refine AWP.seq ?_
  -- region 2
  refine AWP.region ?_
  refine AList.p rfl (pure_move (.tmp _ _ rfl)) ?_
  refine AList.p rfl (pure_not (.tmp _ _ rfl)) ?_
  refine AList.nil ?_
  refine Next.go ?_
  -- c0
  refine AWP.cond (.tmp _ _ rfl) (fun hc8 => ?_) (fun hc8 => ?_)
  · try simp only [Bool.not_eq_true'] at hc8
    have hr : e.right = false := by simpa using hc8
    refine AWP.seq ?_
    -- region 3
    refine AWP.region ?_
    refine AList.p rfl (pure_assign (ev_nil (sz := 8) (tl := .full))) ?_
    refine AList.nil ?_
    refine Next.go ?_
    refine AWP.ret ?_
    refine Next.rt ?_
    -- ret 0
    refine Ret.go (.cons (.weak _ _ _ rfl (.slice _ _ _)) .nil) _ (Heap.le.refl _) ?_
    refine ⟨?_, rfl⟩
    unfold needP; rw [hr]; rfl
  · try simp only [Bool.not_eq_false'] at hc8
    have hr : e.right = true := by simpa using hc8
    have hr2 := hr
    unfold Ex.right at hr2
    simp at hr2
    have ht5 := hr2.1
    refine AWP.skip ?_
    refine Next.go ?_
    refine AWP.seq ?_
    -- region 4
    refine AWP.region ?_
    refine AList.p rfl (pure_assign (ev_nil (sz := 8) (tl := .full))) ?_
    refine AList.nil ?_
    refine Next.go ?_
    refine AWP.seq ?_
    refine AWP.tag (t := 4) rfl (fun u4 hu4 => ?_)
    -- region 5
    refine AWP.region ?_
    first | (refine AList.p rfl (pure_loadN Tryz.isAgg27 Tryz.sizeOf27 (.tmp _ _ rfl) (Nat.le_of_ble_eq_true rfl)) ?_) | (refine AList.s rfl (step_loadN Tryz.isAgg27 Tryz.sizeOf27 (.tmp _ _ rfl) (by first | assumption | exact (by assumption : Heap.le _ _).objs _ _ (by assumption) | exact Heap.objs_set_same _ _ _ | exact (Heap.objs_set_ne _ _ (by assumption)).trans (Heap.objs_set_same _ _ _) | exact (Heap.objs_set_ne _ _ (by assumption)).trans ((Heap.objs_set_ne _ _ (by assumption)).trans (Heap.objs_set_same _ _ _)) | exact (Heap.objs_set_ne _ _ (by assumption)).trans (by assumption)) (Nat.le_of_ble_eq_true rfl)) ?_; rintro _ _ ⟨rfl, hH⟩; obtain rfl := hH.symm)
    refine AList.p rfl (pure_move (.tmp _ _ rfl)) ?_
    refine AList.s rfl (step_call0 Tryz.call21 (.cons (.tmp _ _ rfl) (.cons (.tmp _ _ rfl) .nil)) (rneeds_calls e hf [] H u4 hu4 (by simp; omega))) ?_
    rintro _ _ ⟨t11, hf11, rfl, hH⟩
    obtain rfl := hH.symm
    refine AList.p rfl (pure_assign (.tmp _ _ rfl)) ?_
    refine AList.nil ?_
    refine Next.go ?_
    refine AWP.ret ?_
    -- ret 1
    refine Ret.go (.cons (.weak _ _ _ rfl (.slice _ _ _)) .nil) _ (Heap.le_live H t11) ?_
    refine ⟨?_, rfl⟩
    unfold needP; rw [if_pos hr]; rfl

theorem needP_len (e : Ex) : (needP e).length ≤ 1000 := by
  unfold needP
  split
  · rename_i h
    unfold Ex.right at h
    simp at h
    have := need_len e []
    simp at this
    omega
  · simp

def law_J (e : Ex) (H : Heap) : Nat → Env → Heap → Prop := fun k env H1 => ∃ j : Nat, j ≤ (needP e).length ∧ env = [(5, .slice 8 ((needP e).map Ar.av) .shared), (6, .slice 8 ((needP e).map Ar.av) .shared), (7, .int .i64 (j : Int))] ∧ H = H1 ∧ k = (needP e).length - j

set_option maxRecDepth 100000 in
theorem EvalNeeds_step (hshown : ∀ H : Heap, ACall Tryz.prog 4 [] H (fun y H' => y = .bool true ∧ H' = H)) (e : Ex) (hf : e.fits) (H : Heap) : ACall Tryz.prog 3 [e.av] H (fun y H' => y = .bool true ∧ H' = H) := by
  have hml := maxLen_eq
  have hnl := needP_len e
  refine ACall.of_body Tryz.func3 rfl Tryz.ntmps3 Tryz.results3 rfl ?_
  refine AWP.seq ?_
  -- region 0
  refine AWP.region ?_
  refine AList.s rfl (step_boxI (.tmp _ _ rfl) (.inr ⟨_, rfl⟩)) ?_
  rintro _ _ ⟨rfl, hH⟩
  obtain rfl := hH.symm
  refine AList.p rfl (pure_assign ev_bool) ?_
  refine AList.nil ?_
  refine Next.go ?_
  refine AWP.seq ?_
  -- region 1
  refine AWP.region ?_
  refine AList.s rfl (step_call0 Tryz.call4 .nil (hshown _)) ?_
  rintro _ _ ⟨rfl, hH⟩
  obtain rfl := hH.symm
  refine AList.p rfl (pure_assign (.tmp _ _ rfl)) ?_
  refine AList.nil ?_
  refine Next.go ?_
  refine AWP.seq ?_
  -- region 2
  refine AWP.region ?_
  first | (refine AList.p rfl (pure_loadN Tryz.isAgg27 Tryz.sizeOf27 (.tmp _ _ rfl) (Nat.le_of_ble_eq_true rfl)) ?_) | (refine AList.s rfl (step_loadN Tryz.isAgg27 Tryz.sizeOf27 (.tmp _ _ rfl) (by first | assumption | exact (by assumption : Heap.le _ _).objs _ _ (by assumption) | exact Heap.objs_set_same _ _ _ | exact (Heap.objs_set_ne _ _ (by assumption)).trans (Heap.objs_set_same _ _ _) | exact (Heap.objs_set_ne _ _ (by assumption)).trans ((Heap.objs_set_ne _ _ (by assumption)).trans (Heap.objs_set_same _ _ _)) | exact (Heap.objs_set_ne _ _ (by assumption)).trans (by assumption)) (Nat.le_of_ble_eq_true rfl)) ?_; rintro _ _ ⟨rfl, hH⟩; obtain rfl := hH.symm)
  refine AList.s rfl (step_call0 Tryz.call5 (.cons (.tmp _ _ rfl) .nil) (short_calls e hf _)) ?_
  rintro _ _ ⟨rfl, hH⟩
  obtain rfl := hH.symm
  refine AList.p rfl (pure_assign (.tmp _ _ rfl)) ?_
  refine AList.nil ?_
  refine Next.go ?_
  refine AWP.seq ?_
  refine AWP.seq ?_
  -- region 3
  refine AWP.region ?_
  refine AList.p rfl (pure_move (.tmp _ _ rfl)) ?_
  refine AList.p rfl (pure_not (.tmp _ _ rfl)) ?_
  refine AList.p rfl (pure_move (.tmp _ _ rfl)) ?_
  refine AList.lz1 rfl rfl rfl (fun z => pure_move (.tmp _ _ rfl)) ?_
  refine AList.lz1 rfl rfl rfl (fun z => pure_not (.lz rfl z)) ?_
  refine AList.p rfl (pure_pickO (.tmp _ _ rfl) rfl) ?_
  refine AList.nil ?_
  refine Next.go ?_
  -- c0
  refine AWP.cond (.tmp _ _ rfl) (fun hc16 => ?_) (fun hc16 => ?_)
  · try simp only [decide_eq_true_eq, decide_eq_false_iff_not, Bool.not_eq_true', Bool.not_eq_false', Int.not_lt, Int.not_le, ne_eq, Decidable.not_not] at hc16
    refine AWP.seq ?_
    -- region 4
    refine AWP.region ?_
    refine AList.p rfl (pure_move (.tmp _ _ rfl)) ?_
    refine AList.p rfl (pure_assign (.tmp _ _ rfl)) ?_
    refine AList.nil ?_
    refine Next.go ?_
    refine AWP.ret ?_
    refine Next.rt ?_
    -- ret 0
    refine Ret.go (.cons (.tmp _ _ rfl) .nil) _ (Heap.le.refl _) ?_
    exact ⟨rfl, rfl⟩
  · try simp only [decide_eq_true_eq, decide_eq_false_iff_not, Bool.not_eq_true', Bool.not_eq_false', Int.not_lt, Int.not_le, ne_eq, Decidable.not_not] at hc16
    refine AWP.skip ?_
    refine Next.go ?_
    refine AWP.seq ?_
    -- region 5
    refine AWP.region ?_
    first | (refine AList.p rfl (pure_loadN Tryz.isAgg27 Tryz.sizeOf27 (.tmp _ _ rfl) (Nat.le_of_ble_eq_true rfl)) ?_) | (refine AList.s rfl (step_loadN Tryz.isAgg27 Tryz.sizeOf27 (.tmp _ _ rfl) (by first | assumption | exact (by assumption : Heap.le _ _).objs _ _ (by assumption) | exact Heap.objs_set_same _ _ _ | exact (Heap.objs_set_ne _ _ (by assumption)).trans (Heap.objs_set_same _ _ _) | exact (Heap.objs_set_ne _ _ (by assumption)).trans ((Heap.objs_set_ne _ _ (by assumption)).trans (Heap.objs_set_same _ _ _)) | exact (Heap.objs_set_ne _ _ (by assumption)).trans (by assumption)) (Nat.le_of_ble_eq_true rfl)) ?_; rintro _ _ ⟨rfl, hH⟩; obtain rfl := hH.symm)
    refine AList.s rfl (step_call0 Tryz.call6 (.cons (.tmp _ _ rfl) .nil) (Needs_calls e hf _)) ?_
    rintro _ _ ⟨rfl, hH⟩
    obtain rfl := hH.symm
    refine AList.p rfl (pure_assign (.tmp _ _ rfl)) ?_
    refine AList.nil ?_
    refine Next.go ?_
    refine AWP.seq ?_
    -- region 6
    refine AWP.region ?_
    first | (refine AList.p rfl (pure_loadN Tryz.isAgg27 Tryz.sizeOf27 (.tmp _ _ rfl) (Nat.le_of_ble_eq_true rfl)) ?_) | (refine AList.s rfl (step_loadN Tryz.isAgg27 Tryz.sizeOf27 (.tmp _ _ rfl) (by first | assumption | exact (by assumption : Heap.le _ _).objs _ _ (by assumption) | exact Heap.objs_set_same _ _ _ | exact (Heap.objs_set_ne _ _ (by assumption)).trans (Heap.objs_set_same _ _ _) | exact (Heap.objs_set_ne _ _ (by assumption)).trans ((Heap.objs_set_ne _ _ (by assumption)).trans (Heap.objs_set_same _ _ _)) | exact (Heap.objs_set_ne _ _ (by assumption)).trans (by assumption)) (Nat.le_of_ble_eq_true rfl)) ?_; rintro _ _ ⟨rfl, hH⟩; obtain rfl := hH.symm)
    refine AList.s rfl (step_call0 Tryz.call7 (.cons (.tmp _ _ rfl) .nil) (rNeeds_calls e hf _)) ?_
    rintro _ _ ⟨rfl, hH⟩
    obtain rfl := hH.symm
    refine AList.p rfl (pure_assign (.tmp _ _ rfl)) ?_
    refine AList.nil ?_
    refine Next.go ?_
    refine AWP.seq ?_
    refine AWP.seq ?_
    -- region 7
    refine AWP.region ?_
    refine AList.p rfl (pure_move (.tmp _ _ rfl)) ?_
    first | (refine AList.p rfl (pure_lenL Tryz.underlying30 (.tmp _ _ rfl)) ?_) | (refine AList.p rfl (pure_lenS Tryz.underlying30 (.tmp _ _ rfl)) ?_) | (refine AList.p rfl (pure_lenM Tryz.underlying30 (.tmp _ _ rfl)) ?_)
    refine AList.p rfl (pure_move (.tmp _ _ rfl)) ?_
    first | (refine AList.p rfl (pure_lenL Tryz.underlying32 (.tmp _ _ rfl)) ?_) | (refine AList.p rfl (pure_lenS Tryz.underlying32 (.tmp _ _ rfl)) ?_) | (refine AList.p rfl (pure_lenM Tryz.underlying32 (.tmp _ _ rfl)) ?_)
    refine AList.p rfl (pure_neq (.tmp _ _ rfl) (.tmp _ _ rfl)) ?_
    refine AList.nil ?_
    refine Next.go ?_
    -- c1
    refine AWP.cond_false (.tmp _ _ rfl) (by simp) ?_
    refine AWP.skip ?_
    refine Next.go ?_
    refine AWP.seq ?_
    refine AWP.seq ?_
    -- region 9
    refine AWP.region ?_
    refine AList.p rfl (pure_assign ev_int) ?_
    refine AList.nil ?_
    refine Next.go ?_
    refine AWP.block ?_
    -- L0
    refine AWP.loopW (law_J e H) ((needP e).length) ⟨0, Nat.zero_le _, rfl, rfl, rfl⟩ (sub_c rfl (sub_c rfl (sub_c rfl sub_n))) (Heap.le.refl _) ?_
    rintro _ _ _ ⟨j, hj, rfl, rfl, rfl⟩
    refine AWP.seq ?_
    refine AWP.seq ?_
    -- region 10
    refine AWP.region ?_
    refine AList.p rfl (pure_move (.tmp _ _ rfl)) ?_
    refine AList.p rfl (pure_move (.tmp _ _ rfl)) ?_
    first | (refine AList.p rfl (pure_lenL Tryz.underlying30 (.tmp _ _ rfl)) ?_) | (refine AList.p rfl (pure_lenS Tryz.underlying30 (.tmp _ _ rfl)) ?_) | (refine AList.p rfl (pure_lenM Tryz.underlying30 (.tmp _ _ rfl)) ?_)
    refine AList.p rfl (pure_lss (.tmp _ _ rfl) (.tmp _ _ rfl)) ?_
    refine AList.nil ?_
    refine Next.go ?_
    -- c2
    refine AWP.cond (.tmp _ _ rfl) (fun hc30 => ?_) (fun hc30 => ?_)
    · try simp only [decide_eq_true_eq] at hc30
      have hil : j < (needP e).length := by omega
      refine AWP.skip ?_
      refine Next.go ?_
      refine AWP.seq ?_
      refine AWP.block ?_
      refine AWP.seq ?_
      -- region 12
      refine AWP.draw [(0, true), (1, true), (2, true), (3, true), (4, true), (5, true), (6, true), (7, true), (8, true), (9, true), (10, true), (11, true), (12, true), (13, true), (14, true), (15, true), (16, true), (17, true), (18, true), (19, true), (20, true), (21, true), (22, true), (23, true)] rfl (by decide +kernel) ?_
      refine APlan.p rfl rfl (pure_move (.tmp _ _ rfl)) ?_
      refine APlan.p rfl rfl (pure_move (.tmp _ _ rfl)) ?_
      first | (refine APlan.p rfl rfl (pure_indexL Tryz.underlying30 Tryz.sizeOf35 (.tmp _ _ rfl) (.tmp _ _ rfl) (by omega) (by omega)) ?_) | (refine APlan.p rfl rfl (pure_indexM Tryz.underlying30 Tryz.sizeOf35 (.tmp _ _ rfl) (.tmp _ _ rfl) (by omega) (by omega)) ?_)
      first | (refine APlan.p rfl rfl (pure_fieldI Tryz.underlying35 rfl Tryz.sizeOf24 (.tmp _ _ rfl)) ?_) | (refine APlan.p rfl rfl (pure_field Tryz.underlying35 rfl Tryz.sizeOf24 (.tmp _ _ rfl)) ?_)
      first | (refine APlan.p rfl rfl (pure_loadN Tryz.isAgg24 Tryz.sizeOf24 (.tmp _ _ rfl) (Nat.le_of_ble_eq_true rfl)) ?_) | (refine APlan.f rfl rfl (fun _ => step_loadN Tryz.isAgg24 Tryz.sizeOf24 (.tmp _ _ rfl) (by first | assumption | exact (by assumption : Heap.le _ _).objs _ _ (by assumption) | exact Heap.objs_set_same _ _ _ | exact (Heap.objs_set_ne _ _ (by assumption)).trans (Heap.objs_set_same _ _ _) | exact (Heap.objs_set_ne _ _ (by assumption)).trans ((Heap.objs_set_ne _ _ (by assumption)).trans (Heap.objs_set_same _ _ _)) | exact (Heap.objs_set_ne _ _ (by assumption)).trans (by assumption)) (Nat.le_of_ble_eq_true rfl)) ?_)
      refine APlan.p rfl rfl (pure_move (.tmp _ _ rfl)) ?_
      refine APlan.p rfl rfl (pure_move (.tmp _ _ rfl)) ?_
      first | (refine APlan.p rfl rfl (pure_indexL Tryz.underlying32 Tryz.sizeOf36 (.tmp _ _ rfl) (.tmp _ _ rfl) (by omega) (by omega)) ?_) | (refine APlan.p rfl rfl (pure_indexM Tryz.underlying32 Tryz.sizeOf36 (.tmp _ _ rfl) (.tmp _ _ rfl) (by omega) (by omega)) ?_)
      first | (refine APlan.p rfl rfl (pure_fieldI Tryz.underlying36 rfl Tryz.sizeOf24 (.tmp _ _ rfl)) ?_) | (refine APlan.p rfl rfl (pure_field Tryz.underlying36 rfl Tryz.sizeOf24 (.tmp _ _ rfl)) ?_)
      first | (refine APlan.p rfl rfl (pure_loadN Tryz.isAgg24 Tryz.sizeOf24 (.tmp _ _ rfl) (Nat.le_of_ble_eq_true rfl)) ?_) | (refine APlan.f rfl rfl (fun _ => step_loadN Tryz.isAgg24 Tryz.sizeOf24 (.tmp _ _ rfl) (by first | assumption | exact (by assumption : Heap.le _ _).objs _ _ (by assumption) | exact Heap.objs_set_same _ _ _ | exact (Heap.objs_set_ne _ _ (by assumption)).trans (Heap.objs_set_same _ _ _) | exact (Heap.objs_set_ne _ _ (by assumption)).trans ((Heap.objs_set_ne _ _ (by assumption)).trans (Heap.objs_set_same _ _ _)) | exact (Heap.objs_set_ne _ _ (by assumption)).trans (by assumption)) (Nat.le_of_ble_eq_true rfl)) ?_)
      refine APlan.p rfl rfl (.as (b := .bool false) (by simp) (pure_neqA Tryz.eqGuardType24 (.tmp _ _ rfl) (.tmp _ _ rfl) (eqPt ((needP e)[((j : Nat) : Int).toNat]).a ((needP e)[((j : Nat) : Int).toNat]).a))) ?_
      refine APlan.p rfl rfl (pure_move (.tmp _ _ rfl)) ?_
      refine APlan.gp rfl rfl rfl rfl (by first | rfl | assumption) (pure_move (.tmp _ _ rfl)) ?_
      refine APlan.gp rfl rfl rfl rfl (by first | rfl | assumption) (pure_move (.tmp _ _ rfl)) ?_
      first | (refine APlan.gp rfl rfl rfl rfl (by first | rfl | assumption) (pure_indexL Tryz.underlying30 Tryz.sizeOf35 (.tmp _ _ rfl) (.tmp _ _ rfl) (by omega) (by omega)) ?_) | (refine APlan.gp rfl rfl rfl rfl (by first | rfl | assumption) (pure_indexM Tryz.underlying30 Tryz.sizeOf35 (.tmp _ _ rfl) (.tmp _ _ rfl) (by omega) (by omega)) ?_)
      first | (refine APlan.gp rfl rfl rfl rfl (by first | rfl | assumption) (pure_fieldI Tryz.underlying35 rfl Tryz.sizeOf24 (.tmp _ _ rfl)) ?_) | (refine APlan.gp rfl rfl rfl rfl (by first | rfl | assumption) (pure_field Tryz.underlying35 rfl Tryz.sizeOf24 (.tmp _ _ rfl)) ?_)
      first | (refine APlan.gp rfl rfl rfl rfl (by first | rfl | assumption) (pure_loadN Tryz.isAgg24 Tryz.sizeOf24 (.tmp _ _ rfl) (Nat.le_of_ble_eq_true rfl)) ?_) | (refine APlan.gf rfl rfl rfl rfl (by first | rfl | assumption) (fun _ => step_loadN Tryz.isAgg24 Tryz.sizeOf24 (.tmp _ _ rfl) (by first | assumption | exact (by assumption : Heap.le _ _).objs _ _ (by assumption) | exact Heap.objs_set_same _ _ _ | exact (Heap.objs_set_ne _ _ (by assumption)).trans (Heap.objs_set_same _ _ _) | exact (Heap.objs_set_ne _ _ (by assumption)).trans ((Heap.objs_set_ne _ _ (by assumption)).trans (Heap.objs_set_same _ _ _)) | exact (Heap.objs_set_ne _ _ (by assumption)).trans (by assumption)) (Nat.le_of_ble_eq_true rfl)) ?_)
      refine APlan.gp rfl rfl rfl rfl (by first | rfl | assumption) (pure_move (.tmp _ _ rfl)) ?_
      refine APlan.gp rfl rfl rfl rfl (by first | rfl | assumption) (pure_move (.tmp _ _ rfl)) ?_
      first | (refine APlan.gp rfl rfl rfl rfl (by first | rfl | assumption) (pure_indexL Tryz.underlying32 Tryz.sizeOf36 (.tmp _ _ rfl) (.tmp _ _ rfl) (by omega) (by omega)) ?_) | (refine APlan.gp rfl rfl rfl rfl (by first | rfl | assumption) (pure_indexM Tryz.underlying32 Tryz.sizeOf36 (.tmp _ _ rfl) (.tmp _ _ rfl) (by omega) (by omega)) ?_)
      first | (refine APlan.gp rfl rfl rfl rfl (by first | rfl | assumption) (pure_fieldI Tryz.underlying36 rfl Tryz.sizeOf24 (.tmp _ _ rfl)) ?_) | (refine APlan.gp rfl rfl rfl rfl (by first | rfl | assumption) (pure_field Tryz.underlying36 rfl Tryz.sizeOf24 (.tmp _ _ rfl)) ?_)
      first | (refine APlan.gp rfl rfl rfl rfl (by first | rfl | assumption) (pure_loadN Tryz.isAgg24 Tryz.sizeOf24 (.tmp _ _ rfl) (Nat.le_of_ble_eq_true rfl)) ?_) | (refine APlan.gf rfl rfl rfl rfl (by first | rfl | assumption) (fun _ => step_loadN Tryz.isAgg24 Tryz.sizeOf24 (.tmp _ _ rfl) (by first | assumption | exact (by assumption : Heap.le _ _).objs _ _ (by assumption) | exact Heap.objs_set_same _ _ _ | exact (Heap.objs_set_ne _ _ (by assumption)).trans (Heap.objs_set_same _ _ _) | exact (Heap.objs_set_ne _ _ (by assumption)).trans ((Heap.objs_set_ne _ _ (by assumption)).trans (Heap.objs_set_same _ _ _)) | exact (Heap.objs_set_ne _ _ (by assumption)).trans (by assumption)) (Nat.le_of_ble_eq_true rfl)) ?_)
      refine APlan.gp rfl rfl rfl rfl (by first | rfl | assumption) (.as (b := .bool false) (by simp) (pure_neqA Tryz.eqGuardType24 (.tmp _ _ rfl) (.tmp _ _ rfl) (eqPt ((needP e)[((j : Nat) : Int).toNat]).b ((needP e)[((j : Nat) : Int).toNat]).b))) ?_
      refine APlan.p rfl rfl (pure_pickF (.tmp _ _ rfl) (by first | rfl | assumption) (.tmp _ _ rfl)) ?_
      refine APlan.nil ?_
      refine Next.go ?_
      -- c3
      refine AWP.cond_false (.tmp _ _ rfl) (by first | rfl | assumption | exact decide_eq_false (by assumption)) ?_
      refine AWP.skip ?_
      refine Block.go ?_
      refine Next.go ?_
      -- region 11
      refine AWP.region ?_
      refine AList.p rfl (pure_move (.tmp _ _ rfl)) ?_
      refine AList.p rfl (pure_add (.tmp _ _ rfl) ev_int (by omega)) ?_
      refine AList.p rfl (pure_assign (.tmp _ _ rfl)) ?_
      refine AList.nil ?_
      refine Next.go ?_
      refine Round.mk (J := law_J e H) ⟨j + 1, by omega, rfl, rfl, rfl⟩ (sub_c rfl (sub_c rfl (sub_c rfl sub_n))) (Heap.le.refl _) (by omega)
    · try simp only [decide_eq_false_iff_not, Int.not_lt] at hc30
      refine AWP.exit ?_
      refine Next.ex ?_
      refine Next.ex ?_
      refine Block.hit ?_
      refine Next.go ?_
      refine AWP.seq ?_
      -- region 14
      refine AWP.region ?_
      refine AList.p rfl (pure_assign ev_bool) ?_
      refine AList.nil ?_
      refine Next.go ?_
      refine AWP.ret ?_
      -- ret 1
      refine Ret.go (.cons (.tmp _ _ rfl) .nil) _ (Heap.le.refl _) ?_
      exact ⟨rfl, rfl⟩

end Go.Proofs.YthhcdmmihjhipaaGreatDoor
