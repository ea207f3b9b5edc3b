/-
  Trees: how deep, how great, which are right, which are short.
-/
import Derived.Test.YthhcdmmihjhipaaGreatDoorV3
namespace Go.Proofs.YthhcdmmihjhipaaGreatDoor
open Go Go.RowKit

theorem APure.as {P : Program} {o : Oper} {env : Env} {a b : AV} (e : a = b) (h : APure P o env a) : APure P o env b := e ▸ h
theorem max_as {ks : List Ex} {j : Nat} (h : j < ks.length) : AV.int .i64 (imax ((Ex.depL (ks.take j) : Nat) : Int) ((ks[j].dep : Nat) : Int)) = AV.int .i64 ((Ex.depL (ks.take (j + 1)) : Nat) : Int) := by
  rw [depL_take h]
  unfold imax
  congr 1
  split <;> omega

def deep_J (ks : List Ex) (H : Heap) : Nat → Env → Heap → Prop := fun k env H1 => ∃ j : Nat, j ≤ ks.length ∧ env = [(3, .int .i64 ((Ex.depL (ks.take j) : Nat) : Int)), (7, .slice 14 (ks.map Ex.av) .shared), (8, .int .i64 (ks.length : Int)), (9, .int .i64 (j : Int))] ∧ H = H1 ∧ k = ks.length - j

set_option maxRecDepth 100000 in
theorem deep_step (k b : Int) (s : List UInt8) (i : Bool) (f : Int) (p q : Pt) (ks : List Ex) (hk : ks.length ≤ maxLen) (hd : Ex.depL ks ≤ 100000) (ih : ∀ x, x ∈ ks → ∀ H : Heap, ACall Tryz.prog 53 [x.av] H (fun y H' => y = .int .i64 ((x.dep : Nat) : Int) ∧ H' = H)) (H : Heap) : ACall Tryz.prog 53 [ndv k b s i f p q ks] H (fun y H' => y = .int .i64 ((Ex.depL ks + 1 : Nat) : Int) ∧ H' = H) := by
  have hml := maxLen_eq
  refine ACall.of_body Tryz.func53 rfl Tryz.ntmps53 Tryz.results53 rfl ?_
  refine AWP.seq ?_
  -- region 0
  refine AWP.region ?_
  refine AList.s rfl (step_boxI (.tmp _ _ rfl) (.inr ⟨_, rfl⟩)) ?_
  rintro _ _ ⟨rfl, hH⟩
  obtain rfl := hH.symm
  refine AList.p rfl (pure_assign ev_int) ?_
  refine AList.nil ?_
  refine Next.go ?_
  refine AWP.seq ?_
  -- region 1
  refine AWP.region ?_
  refine AList.p rfl (pure_assign ev_int) ?_
  refine AList.nil ?_
  refine Next.go ?_
  refine AWP.seq ?_
  refine AWP.seq ?_
  -- region 2
  refine AWP.region ?_
  first | (refine AList.p rfl (pure_fieldI Tryz.underlying27 rfl Tryz.sizeOf25 (.tmp _ _ rfl)) ?_) | (refine AList.p rfl (pure_field Tryz.underlying27 rfl Tryz.sizeOf25 (.tmp _ _ rfl)) ?_)
  first | (refine AList.p rfl (pure_load1 Tryz.isAgg25 (.tmp _ _ rfl)) ?_) | (refine AList.s rfl (step_load1 Tryz.isAgg25 (.tmp _ _ rfl) (by first | assumption | exact (by assumption : Heap.le _ _).objs _ _ (by assumption) | exact Heap.objs_set_same _ _ _ | exact (Heap.objs_set_ne _ _ (by assumption)).trans (Heap.objs_set_same _ _ _) | exact (Heap.objs_set_ne _ _ (by assumption)).trans ((Heap.objs_set_ne _ _ (by assumption)).trans (Heap.objs_set_same _ _ _)) | exact (Heap.objs_set_ne _ _ (by assumption)).trans (by assumption)) rfl) ?_; rintro _ _ ⟨rfl, hH⟩; obtain rfl := hH.symm)
  first | (refine AList.p rfl (pure_lenL Tryz.underlying25 (.tmp _ _ rfl)) ?_) | (refine AList.p rfl (pure_lenS Tryz.underlying25 (.tmp _ _ rfl)) ?_) | (refine AList.p rfl (pure_lenM Tryz.underlying25 (.tmp _ _ rfl)) ?_)
  refine AList.p rfl (pure_move ev_int) ?_
  refine AList.nil ?_
  refine Next.go ?_
  refine AWP.block ?_
  -- L0
  refine AWP.loopW (deep_J ks H) (ks.length) ⟨0, Nat.zero_le _, rfl, rfl, rfl⟩ (sub_c rfl (sub_c rfl (sub_c rfl (sub_c rfl sub_n)))) (Heap.le.refl _) ?_
  rintro _ _ _ ⟨j, hj, rfl, rfl, rfl⟩
  refine AWP.seq ?_
  -- region 3
  refine AWP.region ?_
  refine AList.p rfl (pure_lss (.tmp _ _ rfl) (.tmp _ _ rfl)) ?_
  refine AList.nil ?_
  refine Next.go ?_
  refine AWP.seq ?_
  -- c0
  refine AWP.cond (.tmp _ _ rfl) (fun hc10 => ?_) (fun hc10 => ?_)
  · try simp only [decide_eq_true_eq] at hc10
    have hil : j < ks.length := by omega
    refine AWP.skip ?_
    refine Next.go ?_
    refine AWP.seq ?_
    refine AWP.block ?_
    refine AWP.seq ?_
    -- region 4
    refine AWP.region ?_
    first | (refine AList.p rfl (pure_indexL Tryz.underlying25 Tryz.sizeOf27 (.tmp _ _ rfl) (.tmp _ _ rfl) (by omega) (by omega)) ?_) | (refine AList.p rfl (pure_indexM Tryz.underlying25 Tryz.sizeOf27 (.tmp _ _ rfl) (.tmp _ _ rfl) (by omega) (by omega)) ?_)
    first | (refine AList.p rfl (pure_loadN Tryz.isAgg27 Tryz.sizeOf27 (.tmp _ _ rfl) (Nat.le_of_ble_eq_true rfl)) ?_) | (refine AList.s rfl (step_loadN Tryz.isAgg27 Tryz.sizeOf27 (.tmp _ _ rfl) (by first | assumption | exact (by assumption : Heap.le _ _).objs _ _ (by assumption) | exact Heap.objs_set_same _ _ _ | exact (Heap.objs_set_ne _ _ (by assumption)).trans (Heap.objs_set_same _ _ _) | exact (Heap.objs_set_ne _ _ (by assumption)).trans ((Heap.objs_set_ne _ _ (by assumption)).trans (Heap.objs_set_same _ _ _)) | exact (Heap.objs_set_ne _ _ (by assumption)).trans (by assumption)) (Nat.le_of_ble_eq_true rfl)) ?_; rintro _ _ ⟨rfl, hH⟩; obtain rfl := hH.symm)
    refine AList.s rfl (step_alloc Tryz.zeroValue27 (zr27)) ?_
    rintro _ _ ⟨b5, hb5, rfl, hH⟩
    obtain rfl := hH.symm
    refine AList.s0 (step_store Tryz.sizeOf27 (.tmp _ _ rfl) (.tmp _ _ rfl) rfl rfl (.inr ⟨_, rfl⟩) (by first | assumption | exact (by assumption : Heap.le _ _).objs _ _ (by assumption) | exact Heap.objs_set_same _ _ _ | exact (Heap.objs_set_ne _ _ (by assumption)).trans (Heap.objs_set_same _ _ _) | exact (Heap.objs_set_ne _ _ (by assumption)).trans ((Heap.objs_set_ne _ _ (by assumption)).trans (Heap.objs_set_same _ _ _)) | exact (Heap.objs_set_ne _ _ (by assumption)).trans (by assumption)) (Nat.le_of_ble_eq_true rfl)) ?_
    rintro _ _ ⟨rfl, hH⟩
    obtain rfl := hH.symm
    try first | rw [Heap.set_set] | rw [Heap.set_under (by assumption)]
    refine AList.nil ?_
    refine Next.go ?_
    refine AWP.frz (t := 5) rfl (by first | exact hb5 | exact Heap.fresh_set hb5 _) ?_
    -- region 5
    refine AWP.region ?_
    refine AList.p rfl (pure_move (.tmp _ _ rfl)) ?_
    first | (refine AList.p rfl (pure_loadN Tryz.isAgg27 Tryz.sizeOf27 (.tmp _ _ rfl) (Nat.le_of_ble_eq_true rfl)) ?_) | (refine AList.s rfl (step_loadN Tryz.isAgg27 Tryz.sizeOf27 (.tmp _ _ rfl) (by first | assumption | exact (by assumption : Heap.le _ _).objs _ _ (by assumption) | exact Heap.objs_set_same _ _ _ | exact (Heap.objs_set_ne _ _ (by assumption)).trans (Heap.objs_set_same _ _ _) | exact (Heap.objs_set_ne _ _ (by assumption)).trans ((Heap.objs_set_ne _ _ (by assumption)).trans (Heap.objs_set_same _ _ _)) | exact (Heap.objs_set_ne _ _ (by assumption)).trans (by assumption)) (Nat.le_of_ble_eq_true rfl)) ?_; rintro _ _ ⟨rfl, hH⟩; obtain rfl := hH.symm)
    refine AList.s rfl (step_call0 Tryz.call53 (.cons (.tmp _ _ rfl) .nil) (ih _ (List.getElem_mem hil) _)) ?_
    rintro _ _ ⟨rfl, hH⟩
    obtain rfl := hH.symm
    refine AList.p rfl (.as (max_as hil) (pure_max2 (.tmp _ _ rfl) (.tmp _ _ rfl))) ?_
    refine AList.p rfl (pure_assign (.tmp _ _ rfl)) ?_
    refine AList.nil ?_
    refine Block.go ?_
    refine Next.go ?_
    -- region 6
    refine AWP.region ?_
    refine AList.p rfl (pure_add (.tmp _ _ rfl) ev_int (by omega)) ?_
    refine AList.p rfl (pure_move (.tmp _ _ rfl)) ?_
    refine AList.nil ?_
    refine Next.go ?_
    refine Round.mk (J := deep_J ks H) ⟨j + 1, by omega, rfl, rfl, rfl⟩ (sub_c rfl (sub_c rfl (sub_c rfl (sub_c rfl sub_n)))) (Heap.le.refl _) (by omega)
  · try simp only [decide_eq_false_iff_not, Int.not_lt] at hc10
    have hil : ks.length ≤ j := by omega
    have hdt : Ex.depL (ks.take j) = Ex.depL ks := by rw [List.take_of_length_le hil]
    refine AWP.exit ?_
    refine Next.ex ?_
    refine Next.ex ?_
    refine Block.hit ?_
    refine Next.go ?_
    refine AWP.seq ?_
    -- region 7
    refine AWP.region ?_
    refine AList.p rfl (pure_move (.tmp _ _ rfl)) ?_
    refine AList.p rfl (pure_add (.tmp _ _ rfl) ev_int (by omega)) ?_
    refine AList.p rfl (pure_assign (.tmp _ _ rfl)) ?_
    refine AList.nil ?_
    refine Next.go ?_
    refine AWP.ret ?_
    -- ret 0
    refine Ret.go (.cons (.tmp _ _ rfl) .nil) _ (Heap.le.refl _) ?_
    refine ⟨?_, rfl⟩
    rw [hdt]; rfl

theorem allE_next {g : Ex → Bool} {ks : List Ex} {j : Nat} (h : (ks.take j).all g = true) (hj : j < ks.length) (hb : g ks[j] = true) : (ks.take (j + 1)).all g = true := by
  rw [List.take_succ_eq_append_getElem hj, List.all_append, h]; simpa using hb
theorem allE_no {g : Ex → Bool} {ks : List Ex} {j : Nat} (hj : j < ks.length) (hb : g ks[j] = false) : ks.all g = false :=
  List.all_eq_false.2 ⟨ks[j], List.getElem_mem hj, by simpa using hb⟩
theorem allE_yes {g : Ex → Bool} {ks : List Ex} {j : Nat} (h : (ks.take j).all g = true) (hj : ks.length ≤ j) : ks.all g = true := by rwa [List.take_of_length_le hj] at h
theorem allE_sub {g : Ex → Bool} {ks : List Ex} {j : Nat} (h : (ks.take j).all g = false) : ks.all g = false := by
  obtain ⟨x, hx, hb⟩ := List.all_eq_false.1 h
  exact List.all_eq_false.2 ⟨x, List.mem_of_mem_take hx, hb⟩
theorem cnt_end {ks : List Ex} {j n m : Nat} (_ : j ≤ ks.length) (hn : n = min (1 + Ex.totL (ks.take j)) (m + 1)) (h : ¬ (j < ks.length ∧ n ≤ m)) : n = min (1 + Ex.totL ks) (m + 1) := by
  have h1 := totL_le (l := ks) j
  rcases Nat.lt_or_ge j ks.length with h2 | h2
  · have : ¬ n ≤ m := fun q => h ⟨h2, q⟩
    omega
  · rw [List.take_of_length_le h2] at hn; exact hn
theorem allE_snoc {g : Ex → Bool} {ks : List Ex} {j : Nat} (hj : j < ks.length) : (ks.take (j + 1)).all g = ((ks.take j).all g && g ks[j]) := by
  rw [List.take_succ_eq_append_getElem hj, List.all_append]; simp

def rdeep_J (k0 b : Int) (s : List UInt8) (i : Bool) (f : Int) (p q : Pt) (ks : List Ex) (H : Heap) : Nat → Env → Heap → Prop := fun k env H1 => ∃ j : Nat, j ≤ ks.length ∧ env = [(1, .iptr (Nd.cs ⟨k0, b, s, i, f, p, q, ks.map Ex.av⟩)), (3, .int .i64 ((Ex.depL (ks.take j) : Nat) : Int)), (4, .int .i64 (j : Int))] ∧ H = H1 ∧ k = ks.length - j

set_option maxRecDepth 100000 in
theorem rdeep_step (k b : Int) (s : List UInt8) (i : Bool) (f : Int) (p q : Pt) (ks : List Ex) (hk : ks.length ≤ maxLen) (hd : Ex.depL ks ≤ 100000) (ih : ∀ x, x ∈ ks → ∀ H : Heap, ACall Tryz.prog 64 [x.av] H (fun y H' => y = .int .i64 ((x.dep : Nat) : Int) ∧ H' = H)) (H : Heap) : ACall Tryz.prog 64 [ndv k b s i f p q ks] H (fun y H' => y = .int .i64 ((Ex.depL ks + 1 : Nat) : Int) ∧ H' = H) := by
  have hml := maxLen_eq
  refine ACall.of_body Tryz.func64 rfl Tryz.ntmps64 Tryz.results64 rfl ?_
  refine AWP.seq ?_
  -- region 0
  refine AWP.region ?_
  refine AList.s rfl (step_boxI (.tmp _ _ rfl) (.inr ⟨_, rfl⟩)) ?_
  rintro _ _ ⟨rfl, hH⟩
  obtain rfl := hH.symm
  refine AList.p rfl (pure_assign ev_int) ?_
  refine AList.nil ?_
  refine Next.go ?_
  refine AWP.seq ?_
  -- region 1
  refine AWP.region ?_
  refine AList.p rfl (pure_assign ev_int) ?_
  refine AList.nil ?_
  refine Next.go ?_
  refine AWP.seq ?_
  refine AWP.seq ?_
  -- region 2
  refine AWP.region ?_
  refine AList.p rfl (pure_assign ev_int) ?_
  refine AList.nil ?_
  refine Next.go ?_
  refine AWP.block ?_
  -- L0
  refine AWP.loopW (rdeep_J k b s i f p q ks H) (ks.length) ⟨0, Nat.zero_le _, rfl, rfl, rfl⟩ (sub_c rfl (sub_c rfl (sub_c rfl sub_n))) (Heap.le.refl _) ?_
  rintro _ _ _ ⟨j, hj, rfl, rfl, rfl⟩
  refine AWP.seq ?_
  refine AWP.seq ?_
  -- region 3
  refine AWP.region ?_
  refine AList.p rfl (pure_move (.tmp _ _ rfl)) ?_
  first | (refine AList.p rfl (pure_fieldI Tryz.underlying27 rfl Tryz.sizeOf25 (.tmp _ _ rfl)) ?_) | (refine AList.p rfl (pure_field Tryz.underlying27 rfl Tryz.sizeOf25 (.tmp _ _ rfl)) ?_)
  first | (refine AList.p rfl (pure_load1 Tryz.isAgg25 (.tmp _ _ rfl)) ?_) | (refine AList.s rfl (step_load1 Tryz.isAgg25 (.tmp _ _ rfl) (by first | assumption | exact (by assumption : Heap.le _ _).objs _ _ (by assumption) | exact Heap.objs_set_same _ _ _ | exact (Heap.objs_set_ne _ _ (by assumption)).trans (Heap.objs_set_same _ _ _) | exact (Heap.objs_set_ne _ _ (by assumption)).trans ((Heap.objs_set_ne _ _ (by assumption)).trans (Heap.objs_set_same _ _ _)) | exact (Heap.objs_set_ne _ _ (by assumption)).trans (by assumption)) rfl) ?_; rintro _ _ ⟨rfl, hH⟩; obtain rfl := hH.symm)
  first | (refine AList.p rfl (pure_lenL Tryz.underlying25 (.tmp _ _ rfl)) ?_) | (refine AList.p rfl (pure_lenS Tryz.underlying25 (.tmp _ _ rfl)) ?_) | (refine AList.p rfl (pure_lenM Tryz.underlying25 (.tmp _ _ rfl)) ?_)
  refine AList.p rfl (pure_lss (.tmp _ _ rfl) (.tmp _ _ rfl)) ?_
  refine AList.nil ?_
  refine Next.go ?_
  -- c0
  refine AWP.cond (.tmp _ _ rfl) (fun hc9 => ?_) (fun hc9 => ?_)
  · try simp only [decide_eq_true_eq] at hc9
    have hil : j < ks.length := by omega
    refine AWP.skip ?_
    refine Next.go ?_
    refine AWP.seq ?_
    refine AWP.block ?_
    -- region 5
    refine AWP.region ?_
    refine AList.p rfl (pure_move (.tmp _ _ rfl)) ?_
    first | (refine AList.p rfl (pure_fieldI Tryz.underlying27 rfl Tryz.sizeOf25 (.tmp _ _ rfl)) ?_) | (refine AList.p rfl (pure_field Tryz.underlying27 rfl Tryz.sizeOf25 (.tmp _ _ rfl)) ?_)
    first | (refine AList.p rfl (pure_load1 Tryz.isAgg25 (.tmp _ _ rfl)) ?_) | (refine AList.s rfl (step_load1 Tryz.isAgg25 (.tmp _ _ rfl) (by first | assumption | exact (by assumption : Heap.le _ _).objs _ _ (by assumption) | exact Heap.objs_set_same _ _ _ | exact (Heap.objs_set_ne _ _ (by assumption)).trans (Heap.objs_set_same _ _ _) | exact (Heap.objs_set_ne _ _ (by assumption)).trans ((Heap.objs_set_ne _ _ (by assumption)).trans (Heap.objs_set_same _ _ _)) | exact (Heap.objs_set_ne _ _ (by assumption)).trans (by assumption)) rfl) ?_; rintro _ _ ⟨rfl, hH⟩; obtain rfl := hH.symm)
    refine AList.p rfl (pure_move (.tmp _ _ rfl)) ?_
    first | (refine AList.p rfl (pure_indexL Tryz.underlying25 Tryz.sizeOf27 (.tmp _ _ rfl) (.tmp _ _ rfl) (by omega) (by omega)) ?_) | (refine AList.p rfl (pure_indexM Tryz.underlying25 Tryz.sizeOf27 (.tmp _ _ rfl) (.tmp _ _ rfl) (by omega) (by omega)) ?_)
    first | (refine AList.p rfl (pure_loadN Tryz.isAgg27 Tryz.sizeOf27 (.tmp _ _ rfl) (Nat.le_of_ble_eq_true rfl)) ?_) | (refine AList.s rfl (step_loadN Tryz.isAgg27 Tryz.sizeOf27 (.tmp _ _ rfl) (by first | assumption | exact (by assumption : Heap.le _ _).objs _ _ (by assumption) | exact Heap.objs_set_same _ _ _ | exact (Heap.objs_set_ne _ _ (by assumption)).trans (Heap.objs_set_same _ _ _) | exact (Heap.objs_set_ne _ _ (by assumption)).trans ((Heap.objs_set_ne _ _ (by assumption)).trans (Heap.objs_set_same _ _ _)) | exact (Heap.objs_set_ne _ _ (by assumption)).trans (by assumption)) (Nat.le_of_ble_eq_true rfl)) ?_; rintro _ _ ⟨rfl, hH⟩; obtain rfl := hH.symm)
    refine AList.s rfl (step_call0 Tryz.call64 (.cons (.tmp _ _ rfl) .nil) (ih _ (List.getElem_mem hil) _)) ?_
    rintro _ _ ⟨rfl, hH⟩
    obtain rfl := hH.symm
    refine AList.p rfl (.as (max_as hil) (pure_max2 (.tmp _ _ rfl) (.tmp _ _ rfl))) ?_
    refine AList.p rfl (pure_assign (.tmp _ _ rfl)) ?_
    refine AList.nil ?_
    refine Block.go ?_
    refine Next.go ?_
    -- region 4
    refine AWP.region ?_
    refine AList.p rfl (pure_move (.tmp _ _ rfl)) ?_
    refine AList.p rfl (pure_add (.tmp _ _ rfl) ev_int (by omega)) ?_
    refine AList.p rfl (pure_assign (.tmp _ _ rfl)) ?_
    refine AList.nil ?_
    refine Next.go ?_
    refine Round.mk (J := rdeep_J k b s i f p q ks H) ⟨j + 1, by omega, rfl, rfl, rfl⟩ (sub_c rfl (sub_c rfl (sub_c rfl sub_n))) (Heap.le.refl _) (by omega)
  · try simp only [decide_eq_false_iff_not, Int.not_lt] at hc9
    have hil : ks.length ≤ j := by omega
    have hdt : Ex.depL (ks.take j) = Ex.depL ks := by rw [List.take_of_length_le hil]
    refine AWP.exit ?_
    refine Next.ex ?_
    refine Next.ex ?_
    refine Block.hit ?_
    refine Next.go ?_
    refine AWP.seq ?_
    -- region 6
    refine AWP.region ?_
    refine AList.p rfl (pure_move (.tmp _ _ rfl)) ?_
    refine AList.p rfl (pure_add (.tmp _ _ rfl) ev_int (by omega)) ?_
    refine AList.p rfl (pure_assign (.tmp _ _ rfl)) ?_
    refine AList.nil ?_
    refine Next.go ?_
    refine AWP.ret ?_
    -- ret 0
    refine Ret.go (.cons (.tmp _ _ rfl) .nil) _ (Heap.le.refl _) ?_
    refine ⟨?_, rfl⟩
    rw [hdt]; rfl

def count_J (ks : List Ex) (m : Nat) (H : Heap) : Nat → Env → Heap → Prop := fun k env H1 => ∃ j n : Nat, j ≤ ks.length ∧ n = min (1 + Ex.totL (ks.take j)) (m + 1) ∧ env = [(1, .int .i64 (m : Int)), (5, .int .i64 (n : Int)), (9, .slice 14 (ks.map Ex.av) .shared), (10, .int .i64 (ks.length : Int)), (11, .int .i64 (j : Int))] ∧ H = H1 ∧ k = ks.length - j

set_option maxRecDepth 100000 in
theorem count_step (k b : Int) (s : List UInt8) (i : Bool) (f : Int) (p q : Pt) (ks : List Ex) (hk : ks.length ≤ maxLen) (m : Nat) (hm : m ≤ 100000) (ih : ∀ x, x ∈ ks → ∀ (m : Nat) (H : Heap), m ≤ 100000 → ACall Tryz.prog 52 [x.av, .int .i64 (m : Int)] H (fun y H' => y = .int .i64 ((min x.tot (m + 1) : Nat) : Int) ∧ H' = H)) (H : Heap) : ACall Tryz.prog 52 [ndv k b s i f p q ks, .int .i64 (m : Int)] H (fun y H' => y = .int .i64 ((min (1 + Ex.totL ks) (m + 1) : Nat) : Int) ∧ H' = H) := by
  have hml := maxLen_eq
  refine ACall.of_body Tryz.func52 rfl Tryz.ntmps52 Tryz.results52 rfl ?_
  refine AWP.seq ?_
  -- region 0
  refine AWP.region ?_
  refine AList.s rfl (step_boxI (.tmp _ _ rfl) (.inr ⟨_, rfl⟩)) ?_
  rintro _ _ ⟨rfl, hH⟩
  obtain rfl := hH.symm
  refine AList.p rfl (pure_assign ev_int) ?_
  refine AList.nil ?_
  refine Next.go ?_
  refine AWP.seq ?_
  -- region 1
  refine AWP.region ?_
  refine AList.p rfl (pure_assign ev_int) ?_
  refine AList.nil ?_
  refine Next.go ?_
  refine AWP.seq ?_
  refine AWP.seq ?_
  -- region 2
  refine AWP.region ?_
  first | (refine AList.p rfl (pure_fieldI Tryz.underlying27 rfl Tryz.sizeOf25 (.tmp _ _ rfl)) ?_) | (refine AList.p rfl (pure_field Tryz.underlying27 rfl Tryz.sizeOf25 (.tmp _ _ rfl)) ?_)
  first | (refine AList.p rfl (pure_load1 Tryz.isAgg25 (.tmp _ _ rfl)) ?_) | (refine AList.s rfl (step_load1 Tryz.isAgg25 (.tmp _ _ rfl) (by first | assumption | exact (by assumption : Heap.le _ _).objs _ _ (by assumption) | exact Heap.objs_set_same _ _ _ | exact (Heap.objs_set_ne _ _ (by assumption)).trans (Heap.objs_set_same _ _ _) | exact (Heap.objs_set_ne _ _ (by assumption)).trans ((Heap.objs_set_ne _ _ (by assumption)).trans (Heap.objs_set_same _ _ _)) | exact (Heap.objs_set_ne _ _ (by assumption)).trans (by assumption)) rfl) ?_; rintro _ _ ⟨rfl, hH⟩; obtain rfl := hH.symm)
  first | (refine AList.p rfl (pure_lenL Tryz.underlying25 (.tmp _ _ rfl)) ?_) | (refine AList.p rfl (pure_lenS Tryz.underlying25 (.tmp _ _ rfl)) ?_) | (refine AList.p rfl (pure_lenM Tryz.underlying25 (.tmp _ _ rfl)) ?_)
  refine AList.p rfl (pure_move ev_int) ?_
  refine AList.nil ?_
  refine Next.go ?_
  refine AWP.block ?_
  -- L0
  refine AWP.loopW (count_J ks m H) (ks.length) ⟨0, 1, Nat.zero_le _, by simp [Ex.totL], rfl, rfl, rfl⟩ (sub_c rfl (sub_c rfl (sub_c rfl (sub_c rfl (sub_c rfl sub_n))))) (Heap.le.refl _) ?_
  rintro _ _ _ ⟨j, n, hj, hn, rfl, rfl, rfl⟩
  refine AWP.seq ?_
  -- region 3
  refine AWP.region ?_
  refine AList.p rfl (pure_lss (.tmp _ _ rfl) (.tmp _ _ rfl)) ?_
  refine AList.nil ?_
  refine Next.go ?_
  refine AWP.seq ?_
  -- c0
  refine AWP.cond (.tmp _ _ rfl) (fun hc12 => ?_) (fun hc12 => ?_)
  · try simp only [decide_eq_true_eq] at hc12
    have hil : j < ks.length := by omega
    refine AWP.skip ?_
    refine Next.go ?_
    refine AWP.seq ?_
    refine AWP.block ?_
    refine AWP.seq ?_
    -- region 4
    refine AWP.region ?_
    first | (refine AList.p rfl (pure_indexL Tryz.underlying25 Tryz.sizeOf27 (.tmp _ _ rfl) (.tmp _ _ rfl) (by omega) (by omega)) ?_) | (refine AList.p rfl (pure_indexM Tryz.underlying25 Tryz.sizeOf27 (.tmp _ _ rfl) (.tmp _ _ rfl) (by omega) (by omega)) ?_)
    first | (refine AList.p rfl (pure_loadN Tryz.isAgg27 Tryz.sizeOf27 (.tmp _ _ rfl) (Nat.le_of_ble_eq_true rfl)) ?_) | (refine AList.s rfl (step_loadN Tryz.isAgg27 Tryz.sizeOf27 (.tmp _ _ rfl) (by first | assumption | exact (by assumption : Heap.le _ _).objs _ _ (by assumption) | exact Heap.objs_set_same _ _ _ | exact (Heap.objs_set_ne _ _ (by assumption)).trans (Heap.objs_set_same _ _ _) | exact (Heap.objs_set_ne _ _ (by assumption)).trans ((Heap.objs_set_ne _ _ (by assumption)).trans (Heap.objs_set_same _ _ _)) | exact (Heap.objs_set_ne _ _ (by assumption)).trans (by assumption)) (Nat.le_of_ble_eq_true rfl)) ?_; rintro _ _ ⟨rfl, hH⟩; obtain rfl := hH.symm)
    refine AList.s rfl (step_alloc Tryz.zeroValue27 (zr27)) ?_
    rintro _ _ ⟨b7, hb7, rfl, hH⟩
    obtain rfl := hH.symm
    refine AList.s0 (step_store Tryz.sizeOf27 (.tmp _ _ rfl) (.tmp _ _ rfl) rfl rfl (.inr ⟨_, rfl⟩) (by first | assumption | exact (by assumption : Heap.le _ _).objs _ _ (by assumption) | exact Heap.objs_set_same _ _ _ | exact (Heap.objs_set_ne _ _ (by assumption)).trans (Heap.objs_set_same _ _ _) | exact (Heap.objs_set_ne _ _ (by assumption)).trans ((Heap.objs_set_ne _ _ (by assumption)).trans (Heap.objs_set_same _ _ _)) | exact (Heap.objs_set_ne _ _ (by assumption)).trans (by assumption)) (Nat.le_of_ble_eq_true rfl)) ?_
    rintro _ _ ⟨rfl, hH⟩
    obtain rfl := hH.symm
    try first | rw [Heap.set_set] | rw [Heap.set_under (by assumption)]
    refine AList.nil ?_
    refine Next.go ?_
    refine AWP.frz (t := 7) rfl (by first | exact hb7 | exact Heap.fresh_set hb7 _) ?_
    refine AWP.seq ?_
    refine AWP.seq ?_
    -- region 5
    refine AWP.region ?_
    refine AList.p rfl (pure_move (.tmp _ _ rfl)) ?_
    refine AList.p rfl (pure_move (.tmp _ _ rfl)) ?_
    refine AList.p rfl (pure_gtr (.tmp _ _ rfl) (.tmp _ _ rfl)) ?_
    refine AList.nil ?_
    refine Next.go ?_
    -- c1
    refine AWP.cond (.tmp _ _ rfl) (fun hc17 => ?_) (fun hc17 => ?_)
    · try simp only [decide_eq_true_eq] at hc17
      have hn2 : n = min (1 + Ex.totL ks) (m + 1) := by have := totL_le (l := ks) j; omega
      refine AWP.exit ?_
      refine Next.ex ?_
      refine Block.miss rfl ?_
      refine Next.ex ?_
      refine Next.ex ?_
      refine Block.hit ?_
      refine Next.go ?_
      refine AWP.seq ?_
      -- region 8
      refine AWP.region ?_
      refine AList.p rfl (pure_move (.tmp _ _ rfl)) ?_
      refine AList.p rfl (pure_assign (.tmp _ _ rfl)) ?_
      refine AList.nil ?_
      refine Next.go ?_
      refine AWP.ret ?_
      -- ret 0
      refine Ret.go (.cons (.tmp _ _ rfl) .nil) _ (Heap.le.refl _) ?_
      refine ⟨?_, rfl⟩
      rw [← hn2]; rfl
    · try simp only [decide_eq_false_iff_not, Int.not_lt] at hc17
      refine AWP.skip ?_
      refine Next.go ?_
      -- region 6
      refine AWP.region ?_
      refine AList.p rfl (pure_move (.tmp _ _ rfl)) ?_
      first | (refine AList.p rfl (pure_loadN Tryz.isAgg27 Tryz.sizeOf27 (.tmp _ _ rfl) (Nat.le_of_ble_eq_true rfl)) ?_) | (refine AList.s rfl (step_loadN Tryz.isAgg27 Tryz.sizeOf27 (.tmp _ _ rfl) (by first | assumption | exact (by assumption : Heap.le _ _).objs _ _ (by assumption) | exact Heap.objs_set_same _ _ _ | exact (Heap.objs_set_ne _ _ (by assumption)).trans (Heap.objs_set_same _ _ _) | exact (Heap.objs_set_ne _ _ (by assumption)).trans ((Heap.objs_set_ne _ _ (by assumption)).trans (Heap.objs_set_same _ _ _)) | exact (Heap.objs_set_ne _ _ (by assumption)).trans (by assumption)) (Nat.le_of_ble_eq_true rfl)) ?_; rintro _ _ ⟨rfl, hH⟩; obtain rfl := hH.symm)
      refine AList.p rfl (pure_move (.tmp _ _ rfl)) ?_
      refine AList.p rfl (pure_move (.tmp _ _ rfl)) ?_
      refine AList.p rfl (.as (b := .int .i64 ((m - n : Nat) : Int)) (by first | rfl | (congr 1; omega)) (pure_sub (.tmp _ _ rfl) (.tmp _ _ rfl) (by omega))) ?_
      refine AList.s rfl (step_call0 Tryz.call52 (.cons (.tmp _ _ rfl) (.cons (.tmp _ _ rfl) .nil)) (ih _ (List.getElem_mem hil) (m - n) _ (by omega))) ?_
      rintro _ _ ⟨rfl, hH⟩
      obtain rfl := hH.symm
      refine AList.p rfl (.as (b := .int .i64 ((n + min ks[j].tot (m - n + 1) : Nat) : Int)) (by first | rfl | (congr 1; omega)) (pure_add (.tmp _ _ rfl) (.tmp _ _ rfl) (by omega))) ?_
      refine AList.p rfl (pure_assign (.tmp _ _ rfl)) ?_
      refine AList.nil ?_
      refine Block.go ?_
      refine Next.go ?_
      -- region 7
      refine AWP.region ?_
      refine AList.p rfl (pure_add (.tmp _ _ rfl) ev_int (by omega)) ?_
      refine AList.p rfl (pure_move (.tmp _ _ rfl)) ?_
      refine AList.nil ?_
      refine Next.go ?_
      refine Round.mk (J := count_J ks m H) ⟨j + 1, n + min ks[j].tot (m - n + 1), by omega, by have := totL_take hil; omega, rfl, rfl, rfl⟩ (sub_c rfl (sub_c rfl (sub_c rfl (sub_c rfl (sub_c rfl sub_n))))) (Heap.le.refl _) (by omega)
  · try simp only [decide_eq_false_iff_not, Int.not_lt] at hc12
    have hil : ks.length ≤ j := by omega
    have hn2 : n = min (1 + Ex.totL ks) (m + 1) := by rw [List.take_of_length_le hil] at hn; exact hn
    refine AWP.exit ?_
    refine Next.ex ?_
    refine Next.ex ?_
    refine Block.hit ?_
    refine Next.go ?_
    refine AWP.seq ?_
    -- region 8
    refine AWP.region ?_
    refine AList.p rfl (pure_move (.tmp _ _ rfl)) ?_
    refine AList.p rfl (pure_assign (.tmp _ _ rfl)) ?_
    refine AList.nil ?_
    refine Next.go ?_
    refine AWP.ret ?_
    -- ret 1
    refine Ret.go (.cons (.tmp _ _ rfl) .nil) _ (Heap.le.refl _) ?_
    refine ⟨?_, rfl⟩
    rw [← hn2]; rfl

def rcount_J (k0 b : Int) (s : List UInt8) (i : Bool) (f : Int) (p q : Pt) (ks : List Ex) (m : Nat) (H : Heap) : Nat → Env → Heap → Prop := fun k env H1 => ∃ j n : Nat, j ≤ ks.length ∧ n = min (1 + Ex.totL (ks.take j)) (m + 1) ∧ env = [(1, .int .i64 (m : Int)), (2, .iptr (Nd.cs ⟨k0, b, s, i, f, p, q, ks.map Ex.av⟩)), (5, .int .i64 (n : Int)), (6, .int .i64 (j : Int))] ∧ H = H1 ∧ k = ks.length - j

set_option maxRecDepth 100000 in
theorem rcount_step (k b : Int) (s : List UInt8) (i : Bool) (f : Int) (p q : Pt) (ks : List Ex) (hk : ks.length ≤ maxLen) (m : Nat) (hm : m ≤ 100000) (ih : ∀ x, x ∈ ks → ∀ (m : Nat) (H : Heap), m ≤ 100000 → ACall Tryz.prog 63 [x.av, .int .i64 (m : Int)] H (fun y H' => y = .int .i64 ((min x.tot (m + 1) : Nat) : Int) ∧ H' = H)) (H : Heap) : ACall Tryz.prog 63 [ndv k b s i f p q ks, .int .i64 (m : Int)] H (fun y H' => y = .int .i64 ((min (1 + Ex.totL ks) (m + 1) : Nat) : Int) ∧ H' = H) := by
  have hml := maxLen_eq
  refine ACall.of_body Tryz.func63 rfl Tryz.ntmps63 Tryz.results63 rfl ?_
  refine AWP.seq ?_
  -- region 0
  refine AWP.region ?_
  refine AList.s rfl (step_boxI (.tmp _ _ rfl) (.inr ⟨_, rfl⟩)) ?_
  rintro _ _ ⟨rfl, hH⟩
  obtain rfl := hH.symm
  refine AList.p rfl (pure_assign ev_int) ?_
  refine AList.nil ?_
  refine Next.go ?_
  refine AWP.seq ?_
  -- region 1
  refine AWP.region ?_
  refine AList.p rfl (pure_assign ev_int) ?_
  refine AList.nil ?_
  refine Next.go ?_
  refine AWP.seq ?_
  refine AWP.seq ?_
  -- region 2
  refine AWP.region ?_
  refine AList.p rfl (pure_assign ev_int) ?_
  refine AList.nil ?_
  refine Next.go ?_
  refine AWP.block ?_
  -- L0
  refine AWP.loopW (rcount_J k b s i f p q ks m H) (ks.length) ⟨0, 1, Nat.zero_le _, by simp [Ex.totL], rfl, rfl, rfl⟩ (sub_c rfl (sub_c rfl (sub_c rfl (sub_c rfl sub_n)))) (Heap.le.refl _) ?_
  rintro _ _ _ ⟨j, n, hj, hn, rfl, rfl, rfl⟩
  refine AWP.seq ?_
  refine AWP.seq ?_
  -- region 3
  refine AWP.region ?_
  refine AList.p rfl (pure_move (.tmp _ _ rfl)) ?_
  first | (refine AList.p rfl (pure_fieldI Tryz.underlying27 rfl Tryz.sizeOf25 (.tmp _ _ rfl)) ?_) | (refine AList.p rfl (pure_field Tryz.underlying27 rfl Tryz.sizeOf25 (.tmp _ _ rfl)) ?_)
  first | (refine AList.p rfl (pure_load1 Tryz.isAgg25 (.tmp _ _ rfl)) ?_) | (refine AList.s rfl (step_load1 Tryz.isAgg25 (.tmp _ _ rfl) (by first | assumption | exact (by assumption : Heap.le _ _).objs _ _ (by assumption) | exact Heap.objs_set_same _ _ _ | exact (Heap.objs_set_ne _ _ (by assumption)).trans (Heap.objs_set_same _ _ _) | exact (Heap.objs_set_ne _ _ (by assumption)).trans ((Heap.objs_set_ne _ _ (by assumption)).trans (Heap.objs_set_same _ _ _)) | exact (Heap.objs_set_ne _ _ (by assumption)).trans (by assumption)) rfl) ?_; rintro _ _ ⟨rfl, hH⟩; obtain rfl := hH.symm)
  first | (refine AList.p rfl (pure_lenL Tryz.underlying25 (.tmp _ _ rfl)) ?_) | (refine AList.p rfl (pure_lenS Tryz.underlying25 (.tmp _ _ rfl)) ?_) | (refine AList.p rfl (pure_lenM Tryz.underlying25 (.tmp _ _ rfl)) ?_)
  refine AList.p rfl (pure_lss (.tmp _ _ rfl) (.tmp _ _ rfl)) ?_
  refine AList.p rfl (pure_move (.tmp _ _ rfl)) ?_
  refine AList.lz1 rfl rfl rfl (fun z => pure_move (.tmp _ _ rfl)) ?_
  refine AList.lz1 rfl rfl rfl (fun z => pure_move (.tmp _ _ rfl)) ?_
  refine AList.lz1 rfl rfl rfl (fun z => pure_leq (.lz rfl z) (.lz rfl z)) ?_
  refine AList.p rfl (pure_pickA (.tmp _ _ rfl) rfl) ?_
  refine AList.nil ?_
  refine Next.go ?_
  -- c0
  refine AWP.cond (.tmp _ _ rfl) (fun hc16 => ?_) (fun hc16 => ?_)
  · try simp only [decide_eq_true_eq, decide_eq_false_iff_not, Bool.not_eq_true', Bool.not_eq_false', Int.not_lt, Int.not_le, ne_eq, Decidable.not_not] at hc16
    have hcc := hc16
    simp at hcc
    obtain ⟨hil, hnm⟩ := hcc
    refine AWP.skip ?_
    refine Next.go ?_
    refine AWP.seq ?_
    refine AWP.block ?_
    -- region 5
    refine AWP.region ?_
    refine AList.p rfl (pure_move (.tmp _ _ rfl)) ?_
    first | (refine AList.p rfl (pure_fieldI Tryz.underlying27 rfl Tryz.sizeOf25 (.tmp _ _ rfl)) ?_) | (refine AList.p rfl (pure_field Tryz.underlying27 rfl Tryz.sizeOf25 (.tmp _ _ rfl)) ?_)
    first | (refine AList.p rfl (pure_load1 Tryz.isAgg25 (.tmp _ _ rfl)) ?_) | (refine AList.s rfl (step_load1 Tryz.isAgg25 (.tmp _ _ rfl) (by first | assumption | exact (by assumption : Heap.le _ _).objs _ _ (by assumption) | exact Heap.objs_set_same _ _ _ | exact (Heap.objs_set_ne _ _ (by assumption)).trans (Heap.objs_set_same _ _ _) | exact (Heap.objs_set_ne _ _ (by assumption)).trans ((Heap.objs_set_ne _ _ (by assumption)).trans (Heap.objs_set_same _ _ _)) | exact (Heap.objs_set_ne _ _ (by assumption)).trans (by assumption)) rfl) ?_; rintro _ _ ⟨rfl, hH⟩; obtain rfl := hH.symm)
    refine AList.p rfl (pure_move (.tmp _ _ rfl)) ?_
    first | (refine AList.p rfl (pure_indexL Tryz.underlying25 Tryz.sizeOf27 (.tmp _ _ rfl) (.tmp _ _ rfl) (by omega) (by omega)) ?_) | (refine AList.p rfl (pure_indexM Tryz.underlying25 Tryz.sizeOf27 (.tmp _ _ rfl) (.tmp _ _ rfl) (by omega) (by omega)) ?_)
    first | (refine AList.p rfl (pure_loadN Tryz.isAgg27 Tryz.sizeOf27 (.tmp _ _ rfl) (Nat.le_of_ble_eq_true rfl)) ?_) | (refine AList.s rfl (step_loadN Tryz.isAgg27 Tryz.sizeOf27 (.tmp _ _ rfl) (by first | assumption | exact (by assumption : Heap.le _ _).objs _ _ (by assumption) | exact Heap.objs_set_same _ _ _ | exact (Heap.objs_set_ne _ _ (by assumption)).trans (Heap.objs_set_same _ _ _) | exact (Heap.objs_set_ne _ _ (by assumption)).trans ((Heap.objs_set_ne _ _ (by assumption)).trans (Heap.objs_set_same _ _ _)) | exact (Heap.objs_set_ne _ _ (by assumption)).trans (by assumption)) (Nat.le_of_ble_eq_true rfl)) ?_; rintro _ _ ⟨rfl, hH⟩; obtain rfl := hH.symm)
    refine AList.p rfl (pure_move (.tmp _ _ rfl)) ?_
    refine AList.p rfl (pure_move (.tmp _ _ rfl)) ?_
    refine AList.p rfl (.as (b := .int .i64 ((m - n : Nat) : Int)) (by first | rfl | (congr 1; omega)) (pure_sub (.tmp _ _ rfl) (.tmp _ _ rfl) (by omega))) ?_
    refine AList.s rfl (step_call0 Tryz.call63 (.cons (.tmp _ _ rfl) (.cons (.tmp _ _ rfl) .nil)) (ih _ (List.getElem_mem hil) (m - n) _ (by omega))) ?_
    rintro _ _ ⟨rfl, hH⟩
    obtain rfl := hH.symm
    refine AList.p rfl (.as (b := .int .i64 ((n + min ks[j].tot (m - n + 1) : Nat) : Int)) (by first | rfl | (congr 1; omega)) (pure_add (.tmp _ _ rfl) (.tmp _ _ rfl) (by omega))) ?_
    refine AList.p rfl (pure_assign (.tmp _ _ rfl)) ?_
    refine AList.nil ?_
    refine Block.go ?_
    refine Next.go ?_
    -- region 4
    refine AWP.region ?_
    refine AList.p rfl (pure_move (.tmp _ _ rfl)) ?_
    refine AList.p rfl (pure_add (.tmp _ _ rfl) ev_int (by omega)) ?_
    refine AList.p rfl (pure_assign (.tmp _ _ rfl)) ?_
    refine AList.nil ?_
    refine Next.go ?_
    refine Round.mk (J := rcount_J k b s i f p q ks m H) ⟨j + 1, n + min ks[j].tot (m - n + 1), by omega, by have := totL_take hil; omega, rfl, rfl, rfl⟩ (sub_c rfl (sub_c rfl (sub_c rfl (sub_c rfl sub_n)))) (Heap.le.refl _) (by omega)
  · try simp only [decide_eq_true_eq, decide_eq_false_iff_not, Bool.not_eq_true', Bool.not_eq_false', Int.not_lt, Int.not_le, ne_eq, Decidable.not_not] at hc16
    have hn2 := cnt_end hj hn (by simp at hc16; omega)
    refine AWP.exit ?_
    refine Next.ex ?_
    refine Next.ex ?_
    refine Block.hit ?_
    refine Next.go ?_
    refine AWP.seq ?_
    -- region 6
    refine AWP.region ?_
    refine AList.p rfl (pure_move (.tmp _ _ rfl)) ?_
    refine AList.p rfl (pure_move (.tmp _ _ rfl)) ?_
    refine AList.p rfl (pure_add (.tmp _ _ rfl) ev_int (by omega)) ?_
    refine AList.p rfl (pure_min2 (.tmp _ _ rfl) (.tmp _ _ rfl)) ?_
    refine AList.p rfl (pure_assign (.tmp _ _ rfl)) ?_
    refine AList.nil ?_
    refine Next.go ?_
    refine AWP.ret ?_
    -- ret 0
    refine Ret.go (.cons (.tmp _ _ rfl) .nil) _ (Heap.le.refl _) ?_
    refine ⟨?_, rfl⟩
    rw [← hn2]; show AV.int .i64 (imin _ _) = _; unfold imin; congr 1; split <;> omega

def nodes_J (k0 b : Int) (s : List UInt8) (i : Bool) (f : Int) (p q : Pt) (ks : List Ex) (H : Heap) : Nat → Env → Heap → Prop := fun k env H1 => ∃ j : Nat, j ≤ ks.length ∧ (ks.take j).all Ex.ok = true ∧ env = [(1, .iptr (Nd.cs ⟨k0, b, s, i, f, p, q, ks.map Ex.av⟩)), (6, .slice 14 (ks.map Ex.av) .shared), (7, .int .i64 (ks.length : Int)), (8, .int .i64 (j : Int))] ∧ H = H1 ∧ k = ks.length - j

set_option maxRecDepth 100000 in
theorem nodes_step (k b : Int) (s : List UInt8) (i : Bool) (f : Int) (p q : Pt) (ks : List Ex) (hs : s.length ≤ maxLen) (hk : ks.length ≤ maxLen) (ih : ∀ x, x ∈ ks → ∀ H : Heap, ACall Tryz.prog 33 [x.av] H (fun y H' => y = .bool x.ok ∧ H' = H)) (H : Heap) : ACall Tryz.prog 33 [ndv k b s i f p q ks] H (fun y H' => y = .bool (nodeOK k b s i f p q ks.length && ks.all Ex.ok) ∧ H' = H) := by
  have hml := maxLen_eq
  refine ACall.of_body Tryz.func33 rfl Tryz.ntmps33 Tryz.results33 rfl ?_
  refine AWP.seq ?_
  -- region 0
  refine AWP.region ?_
  refine AList.s rfl (step_boxI (.tmp _ _ rfl) (.inr ⟨_, rfl⟩)) ?_
  rintro _ _ ⟨rfl, hH⟩
  obtain rfl := hH.symm
  refine AList.p rfl (pure_assign ev_bool) ?_
  refine AList.nil ?_
  refine Next.go ?_
  refine AWP.seq ?_
  refine AWP.seq ?_
  -- region 1
  refine AWP.region ?_
  first | (refine AList.p rfl (pure_fieldI Tryz.underlying27 rfl Tryz.sizeOf25 (.tmp _ _ rfl)) ?_) | (refine AList.p rfl (pure_field Tryz.underlying27 rfl Tryz.sizeOf25 (.tmp _ _ rfl)) ?_)
  first | (refine AList.p rfl (pure_load1 Tryz.isAgg25 (.tmp _ _ rfl)) ?_) | (refine AList.s rfl (step_load1 Tryz.isAgg25 (.tmp _ _ rfl) (by first | assumption | exact (by assumption : Heap.le _ _).objs _ _ (by assumption) | exact Heap.objs_set_same _ _ _ | exact (Heap.objs_set_ne _ _ (by assumption)).trans (Heap.objs_set_same _ _ _) | exact (Heap.objs_set_ne _ _ (by assumption)).trans ((Heap.objs_set_ne _ _ (by assumption)).trans (Heap.objs_set_same _ _ _)) | exact (Heap.objs_set_ne _ _ (by assumption)).trans (by assumption)) rfl) ?_; rintro _ _ ⟨rfl, hH⟩; obtain rfl := hH.symm)
  first | (refine AList.p rfl (pure_lenL Tryz.underlying25 (.tmp _ _ rfl)) ?_) | (refine AList.p rfl (pure_lenS Tryz.underlying25 (.tmp _ _ rfl)) ?_) | (refine AList.p rfl (pure_lenM Tryz.underlying25 (.tmp _ _ rfl)) ?_)
  refine AList.p rfl (pure_move ev_int) ?_
  refine AList.nil ?_
  refine Next.go ?_
  refine AWP.block ?_
  -- L0
  refine AWP.loopW (nodes_J k b s i f p q ks H) (ks.length) ⟨0, Nat.zero_le _, rfl, rfl, rfl, rfl⟩ (sub_c rfl (sub_c rfl (sub_c rfl (sub_c rfl sub_n)))) (Heap.le.refl _) ?_
  rintro _ _ _ ⟨j, hj, hno, rfl, rfl, rfl⟩
  refine AWP.seq ?_
  -- region 2
  refine AWP.region ?_
  refine AList.p rfl (pure_lss (.tmp _ _ rfl) (.tmp _ _ rfl)) ?_
  refine AList.nil ?_
  refine Next.go ?_
  refine AWP.seq ?_
  -- c0
  refine AWP.cond (.tmp _ _ rfl) (fun hc9 => ?_) (fun hc9 => ?_)
  · try simp only [decide_eq_true_eq] at hc9
    have hil : j < ks.length := by omega
    refine AWP.skip ?_
    refine Next.go ?_
    refine AWP.seq ?_
    refine AWP.block ?_
    refine AWP.seq ?_
    -- region 3
    refine AWP.region ?_
    first | (refine AList.p rfl (pure_indexL Tryz.underlying25 Tryz.sizeOf27 (.tmp _ _ rfl) (.tmp _ _ rfl) (by omega) (by omega)) ?_) | (refine AList.p rfl (pure_indexM Tryz.underlying25 Tryz.sizeOf27 (.tmp _ _ rfl) (.tmp _ _ rfl) (by omega) (by omega)) ?_)
    first | (refine AList.p rfl (pure_loadN Tryz.isAgg27 Tryz.sizeOf27 (.tmp _ _ rfl) (Nat.le_of_ble_eq_true rfl)) ?_) | (refine AList.s rfl (step_loadN Tryz.isAgg27 Tryz.sizeOf27 (.tmp _ _ rfl) (by first | assumption | exact (by assumption : Heap.le _ _).objs _ _ (by assumption) | exact Heap.objs_set_same _ _ _ | exact (Heap.objs_set_ne _ _ (by assumption)).trans (Heap.objs_set_same _ _ _) | exact (Heap.objs_set_ne _ _ (by assumption)).trans ((Heap.objs_set_ne _ _ (by assumption)).trans (Heap.objs_set_same _ _ _)) | exact (Heap.objs_set_ne _ _ (by assumption)).trans (by assumption)) (Nat.le_of_ble_eq_true rfl)) ?_; rintro _ _ ⟨rfl, hH⟩; obtain rfl := hH.symm)
    refine AList.s rfl (step_alloc Tryz.zeroValue27 (zr27)) ?_
    rintro _ _ ⟨b4, hb4, rfl, hH⟩
    obtain rfl := hH.symm
    refine AList.s0 (step_store Tryz.sizeOf27 (.tmp _ _ rfl) (.tmp _ _ rfl) rfl rfl (.inr ⟨_, rfl⟩) (by first | assumption | exact (by assumption : Heap.le _ _).objs _ _ (by assumption) | exact Heap.objs_set_same _ _ _ | exact (Heap.objs_set_ne _ _ (by assumption)).trans (Heap.objs_set_same _ _ _) | exact (Heap.objs_set_ne _ _ (by assumption)).trans ((Heap.objs_set_ne _ _ (by assumption)).trans (Heap.objs_set_same _ _ _)) | exact (Heap.objs_set_ne _ _ (by assumption)).trans (by assumption)) (Nat.le_of_ble_eq_true rfl)) ?_
    rintro _ _ ⟨rfl, hH⟩
    obtain rfl := hH.symm
    try first | rw [Heap.set_set] | rw [Heap.set_under (by assumption)]
    refine AList.nil ?_
    refine Next.go ?_
    refine AWP.frz (t := 4) rfl (by first | exact hb4 | exact Heap.fresh_set hb4 _) ?_
    refine AWP.seq ?_
    -- region 4
    refine AWP.region ?_
    first | (refine AList.p rfl (pure_loadN Tryz.isAgg27 Tryz.sizeOf27 (.tmp _ _ rfl) (Nat.le_of_ble_eq_true rfl)) ?_) | (refine AList.s rfl (step_loadN Tryz.isAgg27 Tryz.sizeOf27 (.tmp _ _ rfl) (by first | assumption | exact (by assumption : Heap.le _ _).objs _ _ (by assumption) | exact Heap.objs_set_same _ _ _ | exact (Heap.objs_set_ne _ _ (by assumption)).trans (Heap.objs_set_same _ _ _) | exact (Heap.objs_set_ne _ _ (by assumption)).trans ((Heap.objs_set_ne _ _ (by assumption)).trans (Heap.objs_set_same _ _ _)) | exact (Heap.objs_set_ne _ _ (by assumption)).trans (by assumption)) (Nat.le_of_ble_eq_true rfl)) ?_; rintro _ _ ⟨rfl, hH⟩; obtain rfl := hH.symm)
    refine AList.s rfl (step_call0 Tryz.call33 (.cons (.tmp _ _ rfl) .nil) (ih _ (List.getElem_mem hil) _)) ?_
    rintro _ _ ⟨rfl, hH⟩
    obtain rfl := hH.symm
    refine AList.p rfl (pure_not (.tmp _ _ rfl)) ?_
    refine AList.nil ?_
    refine Next.go ?_
    -- c1
    refine AWP.cond (.tmp _ _ rfl) (fun hc14 => ?_) (fun hc14 => ?_)
    · try simp only [Bool.not_eq_true'] at hc14
      have hall := allE_no hil hc14
      refine AWP.seq ?_
      -- region 5
      refine AWP.region ?_
      refine AList.p rfl (pure_assign ev_bool) ?_
      refine AList.nil ?_
      refine Next.go ?_
      refine AWP.ret ?_
      refine Block.rt ?_
      refine Next.rt ?_
      refine Next.rt ?_
      refine Block.rt ?_
      refine Next.rt ?_
      -- ret 0
      refine Ret.go (.cons (.tmp _ _ rfl) .nil) _ (Heap.le.refl _) ?_
      refine ⟨?_, rfl⟩
      rw [hall]; simp [packed]
    · try simp only [Bool.not_eq_false'] at hc14
      refine AWP.skip ?_
      refine Block.go ?_
      refine Next.go ?_
      -- region 6
      refine AWP.region ?_
      refine AList.p rfl (pure_add (.tmp _ _ rfl) ev_int (by omega)) ?_
      refine AList.p rfl (pure_move (.tmp _ _ rfl)) ?_
      refine AList.nil ?_
      refine Next.go ?_
      refine Round.mk (J := nodes_J k b s i f p q ks H) ⟨j + 1, by omega, allE_next hno hil hc14, rfl, rfl, rfl⟩ (sub_c rfl (sub_c rfl (sub_c rfl (sub_c rfl sub_n)))) (Heap.le.refl _) (by omega)
  · try simp only [decide_eq_false_iff_not, Int.not_lt] at hc9
    have hil : ks.length ≤ j := by omega
    have hall := allE_yes hno hil
    refine AWP.exit ?_
    refine Next.ex ?_
    refine Next.ex ?_
    refine Block.hit ?_
    refine Next.go ?_
    refine AWP.seq ?_
    -- region 7
    refine AWP.region ?_
    first | (refine AList.p rfl (pure_loadN Tryz.isAgg27 Tryz.sizeOf27 (.tmp _ _ rfl) (Nat.le_of_ble_eq_true rfl)) ?_) | (refine AList.s rfl (step_loadN Tryz.isAgg27 Tryz.sizeOf27 (.tmp _ _ rfl) (by first | assumption | exact (by assumption : Heap.le _ _).objs _ _ (by assumption) | exact Heap.objs_set_same _ _ _ | exact (Heap.objs_set_ne _ _ (by assumption)).trans (Heap.objs_set_same _ _ _) | exact (Heap.objs_set_ne _ _ (by assumption)).trans ((Heap.objs_set_ne _ _ (by assumption)).trans (Heap.objs_set_same _ _ _)) | exact (Heap.objs_set_ne _ _ (by assumption)).trans (by assumption)) (Nat.le_of_ble_eq_true rfl)) ?_; rintro _ _ ⟨rfl, hH⟩; obtain rfl := hH.symm)
    refine AList.s rfl (step_call0 Tryz.call62 (.cons (.tmp _ _ rfl) .nil) (node_calls _ _ _ _ _ _ _ _ (by assumption) (by assumption) _)) ?_
    rintro _ _ ⟨rfl, hH⟩
    obtain rfl := hH.symm
    refine AList.p rfl (pure_assign (.tmp _ _ rfl)) ?_
    refine AList.nil ?_
    refine Next.go ?_
    refine AWP.ret ?_
    -- ret 1
    refine Ret.go (.cons (.tmp _ _ rfl) .nil) _ (Heap.le.refl _) ?_
    refine ⟨?_, rfl⟩
    rw [hall]; simp [packed]

end Go.Proofs.YthhcdmmihjhipaaGreatDoor

namespace Go.Proofs.YthhcdmmihjhipaaGreatDoor
open Go Go.RowKit

theorem rn_end {N : Bool} {g : Ex → Bool} {ks : List Ex} {j : Nat} {r : Bool} (hr : r = (N && (ks.take j).all g)) (h : ¬ (j < ks.length ∧ r = true)) : r = (N && ks.all g) := by
  rcases Nat.lt_or_ge j ks.length with h2 | h2
  · cases r with
    | true => exact absurd ⟨h2, rfl⟩ h
    | false =>
      cases N with
      | false => rfl
      | true => rw [Bool.true_and] at hr ⊢; exact (allE_sub hr.symm).symm
  · rw [List.take_of_length_le h2] at hr; exact hr
theorem rn_next {N : Bool} {g : Ex → Bool} {ks : List Ex} {j : Nat} {r : Bool} (hr : r = (N && (ks.take j).all g)) (hj : j < ks.length) (h : r = true) : g ks[j] = (N && (ks.take (j + 1)).all g) := by
  rw [allE_snoc hj, ← Bool.and_assoc, ← hr, h, Bool.true_and]

def rnodes_J (k0 b : Int) (s : List UInt8) (i : Bool) (f : Int) (p q : Pt) (ks : List Ex) (H : Heap) : Nat → Env → Heap → Prop := fun k env H1 => ∃ (j : Nat) (r : Bool), j ≤ ks.length ∧ r = (nodeOK k0 b s i f p q ks.length && (ks.take j).all Ex.ok) ∧ env = [(1, .iptr (Nd.cs ⟨k0, b, s, i, f, p, q, ks.map Ex.av⟩)), (3, .bool r), (4, .int .i64 (j : Int))] ∧ H = H1 ∧ k = ks.length - j

set_option maxRecDepth 100000 in
theorem rnodes_step (k b : Int) (s : List UInt8) (i : Bool) (f : Int) (p q : Pt) (ks : List Ex) (hs : s.length ≤ maxLen) (hk : ks.length ≤ maxLen) (ih : ∀ x, x ∈ ks → ∀ H : Heap, ACall Tryz.prog 37 [x.av] H (fun y H' => y = .bool x.ok ∧ H' = H)) (H : Heap) : ACall Tryz.prog 37 [ndv k b s i f p q ks] H (fun y H' => y = .bool (nodeOK k b s i f p q ks.length && ks.all Ex.ok) ∧ H' = H) := by
  have hml := maxLen_eq
  refine ACall.of_body Tryz.func37 rfl Tryz.ntmps37 Tryz.results37 rfl ?_
  refine AWP.seq ?_
  -- region 0
  refine AWP.region ?_
  refine AList.s rfl (step_boxI (.tmp _ _ rfl) (.inr ⟨_, rfl⟩)) ?_
  rintro _ _ ⟨rfl, hH⟩
  obtain rfl := hH.symm
  refine AList.p rfl (pure_assign ev_bool) ?_
  refine AList.nil ?_
  refine Next.go ?_
  refine AWP.seq ?_
  -- region 1
  refine AWP.region ?_
  first | (refine AList.p rfl (pure_loadN Tryz.isAgg27 Tryz.sizeOf27 (.tmp _ _ rfl) (Nat.le_of_ble_eq_true rfl)) ?_) | (refine AList.s rfl (step_loadN Tryz.isAgg27 Tryz.sizeOf27 (.tmp _ _ rfl) (by first | assumption | exact (by assumption : Heap.le _ _).objs _ _ (by assumption) | exact Heap.objs_set_same _ _ _ | exact (Heap.objs_set_ne _ _ (by assumption)).trans (Heap.objs_set_same _ _ _) | exact (Heap.objs_set_ne _ _ (by assumption)).trans ((Heap.objs_set_ne _ _ (by assumption)).trans (Heap.objs_set_same _ _ _)) | exact (Heap.objs_set_ne _ _ (by assumption)).trans (by assumption)) (Nat.le_of_ble_eq_true rfl)) ?_; rintro _ _ ⟨rfl, hH⟩; obtain rfl := hH.symm)
  refine AList.s rfl (step_call0 Tryz.call65 (.cons (.tmp _ _ rfl) .nil) (rnode_calls _ _ _ _ _ _ _ _ (by assumption) (by assumption) _)) ?_
  rintro _ _ ⟨rfl, hH⟩
  obtain rfl := hH.symm
  refine AList.p rfl (pure_assign (.tmp _ _ rfl)) ?_
  refine AList.nil ?_
  refine Next.go ?_
  refine AWP.seq ?_
  refine AWP.seq ?_
  -- region 2
  refine AWP.region ?_
  refine AList.p rfl (pure_assign ev_int) ?_
  refine AList.nil ?_
  refine Next.go ?_
  refine AWP.block ?_
  -- L0
  refine AWP.loopW (rnodes_J k b s i f p q ks H) (ks.length) ⟨0, _, Nat.zero_le _, by simp, rfl, rfl, rfl⟩ (sub_c rfl (sub_c rfl (sub_c rfl sub_n))) (Heap.le.refl _) ?_
  rintro _ _ _ ⟨j, r, hj, hr, rfl, rfl, rfl⟩
  refine AWP.seq ?_
  refine AWP.seq ?_
  -- region 3
  refine AWP.region ?_
  refine AList.p rfl (pure_move (.tmp _ _ rfl)) ?_
  first | (refine AList.p rfl (pure_fieldI Tryz.underlying27 rfl Tryz.sizeOf25 (.tmp _ _ rfl)) ?_) | (refine AList.p rfl (pure_field Tryz.underlying27 rfl Tryz.sizeOf25 (.tmp _ _ rfl)) ?_)
  first | (refine AList.p rfl (pure_load1 Tryz.isAgg25 (.tmp _ _ rfl)) ?_) | (refine AList.s rfl (step_load1 Tryz.isAgg25 (.tmp _ _ rfl) (by first | assumption | exact (by assumption : Heap.le _ _).objs _ _ (by assumption) | exact Heap.objs_set_same _ _ _ | exact (Heap.objs_set_ne _ _ (by assumption)).trans (Heap.objs_set_same _ _ _) | exact (Heap.objs_set_ne _ _ (by assumption)).trans ((Heap.objs_set_ne _ _ (by assumption)).trans (Heap.objs_set_same _ _ _)) | exact (Heap.objs_set_ne _ _ (by assumption)).trans (by assumption)) rfl) ?_; rintro _ _ ⟨rfl, hH⟩; obtain rfl := hH.symm)
  first | (refine AList.p rfl (pure_lenL Tryz.underlying25 (.tmp _ _ rfl)) ?_) | (refine AList.p rfl (pure_lenS Tryz.underlying25 (.tmp _ _ rfl)) ?_) | (refine AList.p rfl (pure_lenM Tryz.underlying25 (.tmp _ _ rfl)) ?_)
  refine AList.p rfl (pure_lss (.tmp _ _ rfl) (.tmp _ _ rfl)) ?_
  refine AList.p rfl (pure_move (.tmp _ _ rfl)) ?_
  refine AList.lz1 rfl rfl rfl (fun z => pure_move (.tmp _ _ rfl)) ?_
  refine AList.p rfl (pure_pickA (.tmp _ _ rfl) rfl) ?_
  refine AList.nil ?_
  refine Next.go ?_
  -- c0
  refine AWP.cond (.tmp _ _ rfl) (fun hc14 => ?_) (fun hc14 => ?_)
  · try simp only [decide_eq_true_eq, decide_eq_false_iff_not, Bool.not_eq_true', Bool.not_eq_false', Int.not_lt, Int.not_le, ne_eq, Decidable.not_not] at hc14
    have hcc := hc14
    simp at hcc
    obtain ⟨hil, hrt⟩ := hcc
    refine AWP.skip ?_
    refine Next.go ?_
    refine AWP.seq ?_
    refine AWP.block ?_
    -- region 5
    refine AWP.region ?_
    first | (refine AList.p rfl (pure_fieldI Tryz.underlying27 rfl Tryz.sizeOf25 (.tmp _ _ rfl)) ?_) | (refine AList.p rfl (pure_field Tryz.underlying27 rfl Tryz.sizeOf25 (.tmp _ _ rfl)) ?_)
    first | (refine AList.p rfl (pure_load1 Tryz.isAgg25 (.tmp _ _ rfl)) ?_) | (refine AList.s rfl (step_load1 Tryz.isAgg25 (.tmp _ _ rfl) (by first | assumption | exact (by assumption : Heap.le _ _).objs _ _ (by assumption) | exact Heap.objs_set_same _ _ _ | exact (Heap.objs_set_ne _ _ (by assumption)).trans (Heap.objs_set_same _ _ _) | exact (Heap.objs_set_ne _ _ (by assumption)).trans ((Heap.objs_set_ne _ _ (by assumption)).trans (Heap.objs_set_same _ _ _)) | exact (Heap.objs_set_ne _ _ (by assumption)).trans (by assumption)) rfl) ?_; rintro _ _ ⟨rfl, hH⟩; obtain rfl := hH.symm)
    refine AList.p rfl (pure_move (.tmp _ _ rfl)) ?_
    first | (refine AList.p rfl (pure_indexL Tryz.underlying25 Tryz.sizeOf27 (.tmp _ _ rfl) (.tmp _ _ rfl) (by omega) (by omega)) ?_) | (refine AList.p rfl (pure_indexM Tryz.underlying25 Tryz.sizeOf27 (.tmp _ _ rfl) (.tmp _ _ rfl) (by omega) (by omega)) ?_)
    first | (refine AList.p rfl (pure_loadN Tryz.isAgg27 Tryz.sizeOf27 (.tmp _ _ rfl) (Nat.le_of_ble_eq_true rfl)) ?_) | (refine AList.s rfl (step_loadN Tryz.isAgg27 Tryz.sizeOf27 (.tmp _ _ rfl) (by first | assumption | exact (by assumption : Heap.le _ _).objs _ _ (by assumption) | exact Heap.objs_set_same _ _ _ | exact (Heap.objs_set_ne _ _ (by assumption)).trans (Heap.objs_set_same _ _ _) | exact (Heap.objs_set_ne _ _ (by assumption)).trans ((Heap.objs_set_ne _ _ (by assumption)).trans (Heap.objs_set_same _ _ _)) | exact (Heap.objs_set_ne _ _ (by assumption)).trans (by assumption)) (Nat.le_of_ble_eq_true rfl)) ?_; rintro _ _ ⟨rfl, hH⟩; obtain rfl := hH.symm)
    refine AList.s rfl (step_call0 Tryz.call37 (.cons (.tmp _ _ rfl) .nil) (ih _ (List.getElem_mem hil) _)) ?_
    rintro _ _ ⟨rfl, hH⟩
    obtain rfl := hH.symm
    refine AList.p rfl (pure_assign (.tmp _ _ rfl)) ?_
    refine AList.nil ?_
    refine Block.go ?_
    refine Next.go ?_
    -- region 4
    refine AWP.region ?_
    refine AList.p rfl (pure_move (.tmp _ _ rfl)) ?_
    refine AList.p rfl (pure_add (.tmp _ _ rfl) ev_int (by omega)) ?_
    refine AList.p rfl (pure_assign (.tmp _ _ rfl)) ?_
    refine AList.nil ?_
    refine Next.go ?_
    refine Round.mk (J := rnodes_J k b s i f p q ks H) ⟨j + 1, _, by omega, rn_next hr hil hrt, rfl, rfl, rfl⟩ (sub_c rfl (sub_c rfl (sub_c rfl sub_n))) (Heap.le.refl _) (by omega)
  · try simp only [decide_eq_true_eq, decide_eq_false_iff_not, Bool.not_eq_true', Bool.not_eq_false', Int.not_lt, Int.not_le, ne_eq, Decidable.not_not] at hc14
    have hend := rn_end hr (fun q => by have := q.1; have := q.2; simp_all)
    refine AWP.exit ?_
    refine Next.ex ?_
    refine Next.ex ?_
    refine Block.hit ?_
    refine Next.go ?_
    refine AWP.seq ?_
    -- region 6
    refine AWP.region ?_
    refine AList.p rfl (pure_move (.tmp _ _ rfl)) ?_
    refine AList.p rfl (pure_assign (.tmp _ _ rfl)) ?_
    refine AList.nil ?_
    refine Next.go ?_
    refine AWP.ret ?_
    -- ret 0
    refine Ret.go (.cons (.tmp _ _ rfl) .nil) _ (Heap.le.refl _) ?_
    exact ⟨congrArg AV.bool hend, rfl⟩

def short_J (k0 b : Int) (s : List UInt8) (i : Bool) (f : Int) (p q : Pt) (ks : List Ex) (H : Heap) : Nat → Env → Heap → Prop := fun k env H1 => ∃ j : Nat, j ≤ ks.length ∧ (ks.take j).all Ex.short = true ∧ env = [(1, .iptr (Nd.cs ⟨k0, b, s, i, f, p, q, ks.map Ex.av⟩)), (3, .int .i64 (j : Int))] ∧ H = H1 ∧ k = ks.length - j

set_option maxRecDepth 100000 in
theorem short_step (k b : Int) (s : List UInt8) (i : Bool) (f : Int) (p q : Pt) (ks : List Ex) (hs : s.length ≤ maxLen) (hk : ks.length ≤ maxLen) (ih : ∀ x, x ∈ ks → ∀ H : Heap, ACall Tryz.prog 5 [x.av] H (fun y H' => y = .bool x.short ∧ H' = H)) (H : Heap) : ACall Tryz.prog 5 [ndv k b s i f p q ks] H (fun y H' => y = .bool (decide (s.length ≤ 2000) && (decide (ks.length ≤ 600) && ks.all Ex.short)) ∧ H' = H) := by
  have hml := maxLen_eq
  refine ACall.of_body Tryz.func5 rfl Tryz.ntmps5 Tryz.results5 rfl ?_
  refine AWP.seq ?_
  -- region 0
  refine AWP.region ?_
  refine AList.s rfl (step_boxI (.tmp _ _ rfl) (.inr ⟨_, rfl⟩)) ?_
  rintro _ _ ⟨rfl, hH⟩
  obtain rfl := hH.symm
  refine AList.p rfl (pure_assign ev_bool) ?_
  refine AList.nil ?_
  refine Next.go ?_
  refine AWP.seq ?_
  refine AWP.seq ?_
  -- region 1
  refine AWP.region ?_
  first | (refine AList.p rfl (pure_fieldI Tryz.underlying27 rfl Tryz.sizeOf9 (.tmp _ _ rfl)) ?_) | (refine AList.p rfl (pure_field Tryz.underlying27 rfl Tryz.sizeOf9 (.tmp _ _ rfl)) ?_)
  first | (refine AList.p rfl (pure_load1 Tryz.isAgg9 (.tmp _ _ rfl)) ?_) | (refine AList.s rfl (step_load1 Tryz.isAgg9 (.tmp _ _ rfl) (by first | assumption | exact (by assumption : Heap.le _ _).objs _ _ (by assumption) | exact Heap.objs_set_same _ _ _ | exact (Heap.objs_set_ne _ _ (by assumption)).trans (Heap.objs_set_same _ _ _) | exact (Heap.objs_set_ne _ _ (by assumption)).trans ((Heap.objs_set_ne _ _ (by assumption)).trans (Heap.objs_set_same _ _ _)) | exact (Heap.objs_set_ne _ _ (by assumption)).trans (by assumption)) rfl) ?_; rintro _ _ ⟨rfl, hH⟩; obtain rfl := hH.symm)
  refine AList.p rfl (pure_lenStr Tryz.underlying9 (.tmp _ _ rfl)) ?_
  refine AList.p rfl (pure_gtr (.tmp _ _ rfl) ev_int) ?_
  refine AList.p rfl (pure_move (.tmp _ _ rfl)) ?_
  first | (refine AList.lz1 rfl rfl rfl (fun z => pure_fieldI Tryz.underlying27 rfl Tryz.sizeOf25 (.tmp _ _ rfl)) ?_) | (refine AList.lz1 rfl rfl rfl (fun z => pure_field Tryz.underlying27 rfl Tryz.sizeOf25 (.tmp _ _ rfl)) ?_)
  first | (refine AList.lz1 rfl rfl rfl (fun z => pure_load1 Tryz.isAgg25 (.lz rfl z)) ?_) | (refine AList.ls1 rfl rfl rfl (fun z => step_load1 Tryz.isAgg25 (.lz rfl z) (by first | assumption | exact (by assumption : Heap.le _ _).objs _ _ (by assumption) | exact Heap.objs_set_same _ _ _ | exact (Heap.objs_set_ne _ _ (by assumption)).trans (Heap.objs_set_same _ _ _) | exact (Heap.objs_set_ne _ _ (by assumption)).trans ((Heap.objs_set_ne _ _ (by assumption)).trans (Heap.objs_set_same _ _ _)) | exact (Heap.objs_set_ne _ _ (by assumption)).trans (by assumption)) rfl) ?_)
  first | (refine AList.lz1 rfl rfl rfl (fun z => pure_lenL Tryz.underlying25 (.lz rfl z)) ?_) | (refine AList.lz1 rfl rfl rfl (fun z => pure_lenS Tryz.underlying25 (.lz rfl z)) ?_) | (refine AList.lz1 rfl rfl rfl (fun z => pure_lenM Tryz.underlying25 (.lz rfl z)) ?_)
  refine AList.lz1 rfl rfl rfl (fun z => pure_gtr (.lz rfl z) ev_int) ?_
  refine AList.p rfl (pure_pickO (.tmp _ _ rfl) rfl) ?_
  refine AList.nil ?_
  refine Next.go ?_
  -- c0
  refine AWP.cond (.tmp _ _ rfl) (fun hc14 => ?_) (fun hc14 => ?_)
  · try simp only at hc14
    have hno : ¬ (s.length ≤ 2000 ∧ ks.length ≤ 600) := by simp at hc14; omega
    refine AWP.seq ?_
    -- region 2
    refine AWP.region ?_
    refine AList.p rfl (pure_assign ev_bool) ?_
    refine AList.nil ?_
    refine Next.go ?_
    refine AWP.ret ?_
    refine Next.rt ?_
    -- ret 0
    refine Ret.go (.cons (.tmp _ _ rfl) .nil) _ (Heap.le.refl _) ?_
    refine ⟨?_, rfl⟩
    show AV.bool false = _
    congr 1
    simp only [← Bool.and_assoc, ← Bool.decide_and]
    rw [decide_eq_false hno]; rfl
  · try simp only at hc14
    have hyes : s.length ≤ 2000 ∧ ks.length ≤ 600 := by simp at hc14; omega
    refine AWP.skip ?_
    refine Next.go ?_
    refine AWP.seq ?_
    refine AWP.seq ?_
    -- region 3
    refine AWP.region ?_
    refine AList.p rfl (pure_assign ev_int) ?_
    refine AList.nil ?_
    refine Next.go ?_
    refine AWP.block ?_
    -- L0
    refine AWP.loopW (short_J k b s i f p q ks H) (ks.length) ⟨0, Nat.zero_le _, rfl, rfl, rfl, rfl⟩ (sub_c rfl (sub_c rfl sub_n)) (Heap.le.refl _) ?_
    rintro _ _ _ ⟨j, hj, hok, rfl, rfl, rfl⟩
    refine AWP.seq ?_
    refine AWP.seq ?_
    -- region 4
    refine AWP.region ?_
    refine AList.p rfl (pure_move (.tmp _ _ rfl)) ?_
    first | (refine AList.p rfl (pure_fieldI Tryz.underlying27 rfl Tryz.sizeOf25 (.tmp _ _ rfl)) ?_) | (refine AList.p rfl (pure_field Tryz.underlying27 rfl Tryz.sizeOf25 (.tmp _ _ rfl)) ?_)
    first | (refine AList.p rfl (pure_load1 Tryz.isAgg25 (.tmp _ _ rfl)) ?_) | (refine AList.s rfl (step_load1 Tryz.isAgg25 (.tmp _ _ rfl) (by first | assumption | exact (by assumption : Heap.le _ _).objs _ _ (by assumption) | exact Heap.objs_set_same _ _ _ | exact (Heap.objs_set_ne _ _ (by assumption)).trans (Heap.objs_set_same _ _ _) | exact (Heap.objs_set_ne _ _ (by assumption)).trans ((Heap.objs_set_ne _ _ (by assumption)).trans (Heap.objs_set_same _ _ _)) | exact (Heap.objs_set_ne _ _ (by assumption)).trans (by assumption)) rfl) ?_; rintro _ _ ⟨rfl, hH⟩; obtain rfl := hH.symm)
    first | (refine AList.p rfl (pure_lenL Tryz.underlying25 (.tmp _ _ rfl)) ?_) | (refine AList.p rfl (pure_lenS Tryz.underlying25 (.tmp _ _ rfl)) ?_) | (refine AList.p rfl (pure_lenM Tryz.underlying25 (.tmp _ _ rfl)) ?_)
    refine AList.p rfl (pure_lss (.tmp _ _ rfl) (.tmp _ _ rfl)) ?_
    refine AList.nil ?_
    refine Next.go ?_
    -- c1
    refine AWP.cond (.tmp _ _ rfl) (fun hc19 => ?_) (fun hc19 => ?_)
    · try simp only [decide_eq_true_eq] at hc19
      have hil : j < ks.length := by simp at hc19; omega
      refine AWP.skip ?_
      refine Next.go ?_
      refine AWP.seq ?_
      refine AWP.block ?_
      refine AWP.seq ?_
      -- region 6
      refine AWP.region ?_
      first | (refine AList.p rfl (pure_fieldI Tryz.underlying27 rfl Tryz.sizeOf25 (.tmp _ _ rfl)) ?_) | (refine AList.p rfl (pure_field Tryz.underlying27 rfl Tryz.sizeOf25 (.tmp _ _ rfl)) ?_)
      first | (refine AList.p rfl (pure_load1 Tryz.isAgg25 (.tmp _ _ rfl)) ?_) | (refine AList.s rfl (step_load1 Tryz.isAgg25 (.tmp _ _ rfl) (by first | assumption | exact (by assumption : Heap.le _ _).objs _ _ (by assumption) | exact Heap.objs_set_same _ _ _ | exact (Heap.objs_set_ne _ _ (by assumption)).trans (Heap.objs_set_same _ _ _) | exact (Heap.objs_set_ne _ _ (by assumption)).trans ((Heap.objs_set_ne _ _ (by assumption)).trans (Heap.objs_set_same _ _ _)) | exact (Heap.objs_set_ne _ _ (by assumption)).trans (by assumption)) rfl) ?_; rintro _ _ ⟨rfl, hH⟩; obtain rfl := hH.symm)
      refine AList.p rfl (pure_move (.tmp _ _ rfl)) ?_
      first | (refine AList.p rfl (pure_indexL Tryz.underlying25 Tryz.sizeOf27 (.tmp _ _ rfl) (.tmp _ _ rfl) (by omega) (by omega)) ?_) | (refine AList.p rfl (pure_indexM Tryz.underlying25 Tryz.sizeOf27 (.tmp _ _ rfl) (.tmp _ _ rfl) (by omega) (by omega)) ?_)
      first | (refine AList.p rfl (pure_loadN Tryz.isAgg27 Tryz.sizeOf27 (.tmp _ _ rfl) (Nat.le_of_ble_eq_true rfl)) ?_) | (refine AList.s rfl (step_loadN Tryz.isAgg27 Tryz.sizeOf27 (.tmp _ _ rfl) (by first | assumption | exact (by assumption : Heap.le _ _).objs _ _ (by assumption) | exact Heap.objs_set_same _ _ _ | exact (Heap.objs_set_ne _ _ (by assumption)).trans (Heap.objs_set_same _ _ _) | exact (Heap.objs_set_ne _ _ (by assumption)).trans ((Heap.objs_set_ne _ _ (by assumption)).trans (Heap.objs_set_same _ _ _)) | exact (Heap.objs_set_ne _ _ (by assumption)).trans (by assumption)) (Nat.le_of_ble_eq_true rfl)) ?_; rintro _ _ ⟨rfl, hH⟩; obtain rfl := hH.symm)
      refine AList.s rfl (step_call0 Tryz.call5 (.cons (.tmp _ _ rfl) .nil) (ih _ (List.getElem_mem hil) _)) ?_
      rintro _ _ ⟨rfl, hH⟩
      obtain rfl := hH.symm
      refine AList.p rfl (pure_assign (.tmp _ _ rfl)) ?_
      refine AList.nil ?_
      refine Next.go ?_
      refine AWP.seq ?_
      -- region 7
      refine AWP.region ?_
      refine AList.p rfl (pure_move (.tmp _ _ rfl)) ?_
      refine AList.p rfl (pure_not (.tmp _ _ rfl)) ?_
      refine AList.nil ?_
      refine Next.go ?_
      -- c2
      refine AWP.cond (.tmp _ _ rfl) (fun hc29 => ?_) (fun hc29 => ?_)
      · try simp only [Bool.not_eq_true'] at hc29
        have hall := allE_no hil (by simpa using hc29)
        refine AWP.seq ?_
        -- region 8
        refine AWP.region ?_
        refine AList.p rfl (pure_assign ev_bool) ?_
        refine AList.nil ?_
        refine Next.go ?_
        refine AWP.ret ?_
        refine Block.rt ?_
        refine Next.rt ?_
        refine Next.rt ?_
        refine Block.rt ?_
        refine Next.rt ?_
        -- ret 1
        refine Ret.go (.cons (.tmp _ _ rfl) .nil) _ (Heap.le.refl _) ?_
        refine ⟨?_, rfl⟩
        rw [hall, decide_eq_true hyes.1, decide_eq_true hyes.2]; rfl
      · try simp only [Bool.not_eq_false'] at hc29
        have hb : ks[j].short = true := by simpa using hc29
        refine AWP.skip ?_
        refine Block.go ?_
        refine Next.go ?_
        -- region 5
        refine AWP.region ?_
        refine AList.p rfl (pure_move (.tmp _ _ rfl)) ?_
        refine AList.p rfl (pure_add (.tmp _ _ rfl) ev_int (by omega)) ?_
        refine AList.p rfl (pure_assign (.tmp _ _ rfl)) ?_
        refine AList.nil ?_
        refine Next.go ?_
        refine Round.mk (J := short_J k b s i f p q ks H) ⟨j + 1, by omega, allE_next hok hil hb, rfl, rfl, rfl⟩ (sub_c rfl (sub_c rfl sub_n)) (Heap.le.refl _) (by omega)
    · try simp only [decide_eq_false_iff_not, Int.not_lt] at hc19
      have hil : ks.length ≤ j := by simp at hc19; omega
      have hall := allE_yes hok hil
      refine AWP.exit ?_
      refine Next.ex ?_
      refine Next.ex ?_
      refine Block.hit ?_
      refine Next.go ?_
      refine AWP.seq ?_
      -- region 9
      refine AWP.region ?_
      refine AList.p rfl (pure_assign ev_bool) ?_
      refine AList.nil ?_
      refine Next.go ?_
      refine AWP.ret ?_
      -- ret 2
      refine Ret.go (.cons (.tmp _ _ rfl) .nil) _ (Heap.le.refl _) ?_
      refine ⟨?_, rfl⟩
      rw [hall, decide_eq_true hyes.1, decide_eq_true hyes.2]; rfl

theorem fits_node {k b : Int} {s : List UInt8} {i : Bool} {f : Int} {p q : Pt} {ks : List Ex} (h : (Ex.node k b s i f p q ks).fits) : s.length ≤ maxLen ∧ ks.length ≤ maxLen ∧ ∀ x, x ∈ ks → x.fits := by
  rw [Ex.fits] at h
  exact ⟨h.1, h.2.1, fitsL_mem h.2.2⟩
theorem short_calls : ∀ e : Ex, e.fits → ∀ H : Heap, ACall Tryz.prog 5 [e.av] H (fun y H' => y = .bool e.short ∧ H' = H) := by
  refine Ex.ind fun k b s i f p q ks ih hf H => ?_
  obtain ⟨h1, h2, h3⟩ := fits_node hf
  rw [Ex.av_node]
  refine (short_step k b s i f p q ks h1 h2 (fun x hx H => ih x hx (h3 x hx) H) H).mono ?_
  rintro y H' ⟨rfl, rfl⟩
  rw [Ex.short, shortL_all]; exact ⟨rfl, rfl⟩

theorem deep_calls : ∀ e : Ex, e.fits → e.tot ≤ 100000 → ∀ H : Heap, ACall Tryz.prog 53 [e.av] H (fun y H' => y = .int .i64 ((e.dep : Nat) : Int) ∧ H' = H) := by
  refine Ex.ind fun k b s i f p q ks ih hf ht H => ?_
  obtain ⟨h1, h2, h3⟩ := fits_node hf
  have hd := dep_tot (.node k b s i f p q ks)
  rw [Ex.dep] at hd
  rw [Ex.tot] at ht
  rw [Ex.av_node]
  exact (deep_step k b s i f p q ks h2 (by rw [Ex.tot] at hd; omega) (fun x hx H => ih x hx (h3 x hx) (by have := tot_mem hx; omega) H) H).mono fun y H' ⟨e1, e2⟩ => ⟨by rw [e1, Ex.dep], e2⟩

theorem rdeep_calls : ∀ e : Ex, e.fits → e.tot ≤ 100000 → ∀ H : Heap, ACall Tryz.prog 64 [e.av] H (fun y H' => y = .int .i64 ((e.dep : Nat) : Int) ∧ H' = H) := by
  refine Ex.ind fun k b s i f p q ks ih hf ht H => ?_
  obtain ⟨h1, h2, h3⟩ := fits_node hf
  have hd := dep_tot (.node k b s i f p q ks)
  rw [Ex.dep] at hd
  rw [Ex.tot] at ht
  rw [Ex.av_node]
  exact (rdeep_step k b s i f p q ks h2 (by rw [Ex.tot] at hd; omega) (fun x hx H => ih x hx (h3 x hx) (by have := tot_mem hx; omega) H) H).mono fun y H' ⟨e1, e2⟩ => ⟨by rw [e1, Ex.dep], e2⟩

theorem count_calls : ∀ e : Ex, e.fits → ∀ (m : Nat) (H : Heap), m ≤ 100000 → ACall Tryz.prog 52 [e.av, .int .i64 (m : Int)] H (fun y H' => y = .int .i64 ((min e.tot (m + 1) : Nat) : Int) ∧ H' = H) := by
  refine Ex.ind fun k b s i f p q ks ih hf m H hm => ?_
  obtain ⟨h1, h2, h3⟩ := fits_node hf
  rw [Ex.av_node]
  exact (count_step k b s i f p q ks h2 m hm (fun x hx m H hm => ih x hx (h3 x hx) m H hm) H).mono fun y H' ⟨e1, e2⟩ => ⟨by rw [e1, Ex.tot], e2⟩

theorem rcount_calls : ∀ e : Ex, e.fits → ∀ (m : Nat) (H : Heap), m ≤ 100000 → ACall Tryz.prog 63 [e.av, .int .i64 (m : Int)] H (fun y H' => y = .int .i64 ((min e.tot (m + 1) : Nat) : Int) ∧ H' = H) := by
  refine Ex.ind fun k b s i f p q ks ih hf m H hm => ?_
  obtain ⟨h1, h2, h3⟩ := fits_node hf
  rw [Ex.av_node]
  exact (rcount_step k b s i f p q ks h2 m hm (fun x hx m H hm => ih x hx (h3 x hx) m H hm) H).mono fun y H' ⟨e1, e2⟩ => ⟨by rw [e1, Ex.tot], e2⟩

theorem nodes_calls : ∀ e : Ex, e.fits → ∀ H : Heap, ACall Tryz.prog 33 [e.av] H (fun y H' => y = .bool e.ok ∧ H' = H) := by
  refine Ex.ind fun k b s i f p q ks ih hf H => ?_
  obtain ⟨h1, h2, h3⟩ := fits_node hf
  rw [Ex.av_node]
  exact (nodes_step k b s i f p q ks h1 h2 (fun x hx H => ih x hx (h3 x hx) H) H).mono fun y H' ⟨e1, e2⟩ => ⟨by rw [e1, Ex.ok, okL_all], e2⟩

theorem rnodes_calls : ∀ e : Ex, e.fits → ∀ H : Heap, ACall Tryz.prog 37 [e.av] H (fun y H' => y = .bool e.ok ∧ H' = H) := by
  refine Ex.ind fun k b s i f p q ks ih hf H => ?_
  obtain ⟨h1, h2, h3⟩ := fits_node hf
  rw [Ex.av_node]
  exact (rnodes_step k b s i f p q ks h1 h2 (fun x hx H => ih x hx (h3 x hx) H) H).mono fun y H' ⟨e1, e2⟩ => ⟨by rw [e1, Ex.ok, okL_all], e2⟩

end Go.Proofs.YthhcdmmihjhipaaGreatDoor
