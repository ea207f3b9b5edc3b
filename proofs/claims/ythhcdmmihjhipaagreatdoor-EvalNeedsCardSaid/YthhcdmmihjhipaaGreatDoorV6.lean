/-
  Areas searched; what a tree needs, in the program.
-/
import Derived.Test.YthhcdmmihjhipaaGreatDoorV5
namespace Go.Proofs.YthhcdmmihjhipaaGreatDoor
open Go Go.RowKit

theorem notin_next {l : List Ar} {x : Ar} {j : Nat} (h : x ∉ l.take j) (hj : j < l.length) (hb : ¬ x = l[j]) : x ∉ l.take (j + 1) := by
  rw [List.take_succ_eq_append_getElem hj, List.mem_append]
  simp [h, hb]
theorem ok_kids {k b : Int} {s : List UInt8} {i : Bool} {f : Int} {p q : Pt} {ks : List Ex} (h : (Ex.node k b s i f p q ks).ok = true) : ∀ x, x ∈ ks → x.ok = true := by
  rw [Ex.ok, okL_all, Bool.and_eq_true] at h
  exact List.all_eq_true.1 h.2
theorem ok_leaf {k b : Int} {s : List UInt8} {i : Bool} {f : Int} {p q : Pt} {ks : List Ex} (h : (Ex.node k b s i f p q ks).ok = true) (hk : k = 5 ∨ k = 6) : ks = [] := by
  rw [Ex.ok, Bool.and_eq_true] at h
  have h1 := h.1
  unfold nodeOK at h1
  rcases hk with rfl | rfl <;> simp at h1
  · exact h1.2.1
  · exact h1.2.2.1
theorem catE_two (a b : List Ex) (ta tb : Tail) : catE [(a, ta), (b, tb)] = a ++ b := by simp [catE]
theorem need_inner {k b : Int} {s : List UInt8} {i : Bool} {f : Int} {p q : Pt} {ks rest : List Ex} (h : ¬ (k = 5 ∨ k = 6)) (out : List Ar) : Ex.needL (Ex.node k b s i f p q ks :: rest) out = Ex.needL (ks ++ rest) out := by
  rw [Ex.needL, Ex.need, if_neg h, needL_app]
theorem need_leaf {k b : Int} {s : List UInt8} {i : Bool} {f : Int} {p q : Pt} {ks rest : List Ex} (h : k = 5 ∨ k = 6) (hk : ks = []) (out : List Ar) : Ex.needL (Ex.node k b s i f p q ks :: rest) out = Ex.needL (ks ++ rest) (addA out (areaOf k p q)) := by
  subst hk
  rw [Ex.needL, Ex.need, if_pos h]; rfl
theorem todo_next {k b : Int} {s : List UInt8} {i : Bool} {f : Int} {p q : Pt} {ks rest : List Ex} (h : ∀ x, x ∈ Ex.node k b s i f p q ks :: rest → x.fits ∧ x.ok = true) : ∀ x, x ∈ ks ++ rest → x.fits ∧ x.ok = true := by
  have h1 := h (.node k b s i f p q ks) (by simp)
  intro x hx
  rcases List.mem_append.1 hx with hx | hx
  · exact ⟨(fits_node h1.1).2.2 x hx, ok_kids h1.2 x hx⟩
  · exact h x (by simp [hx])
theorem todo_tot {k b : Int} {s : List UInt8} {i : Bool} {f : Int} {p q : Pt} {ks rest : List Ex} : Ex.totL (Ex.node k b s i f p q ks :: rest) = 1 + Ex.totL (ks ++ rest) := by
  rw [Ex.totL, Ex.tot, totL_app]; omega
def needP (e : Ex) : List Ar := if e.right = true then e.need [] else []

def index_J (l : List Ar) (x : Ar) (tl : Tail) (H : Heap) : Nat → Env → Heap → Prop := fun k env H1 => ∃ j : Nat, j ≤ l.length ∧ x ∉ l.take j ∧ env = [(0, .slice 8 (l.map Ar.av) tl), (3, .iptr x.cs), (6, .slice 8 (l.map Ar.av) tl), (7, .int .i64 (l.length : Int)), (8, .int .i64 (j : Int))] ∧ H = H1 ∧ k = l.length - j

set_option maxRecDepth 100000 in
theorem index_calls (l : List Ar) (tl : Tail) (hl : l.length ≤ 100000) (x : Ar) (H : Heap) : ACall Tryz.prog 35 [.slice 8 (l.map Ar.av) tl, x.av] H (fun y H' => ∃ r : Int, y = .int .i64 r ∧ (0 ≤ r ↔ x ∈ l) ∧ H' = H) := by
  have hml := maxLen_eq
  refine ACall.of_body Tryz.func35 rfl Tryz.ntmps35 Tryz.results35 rfl ?_
  refine AWP.seq ?_
  -- region 0
  refine AWP.region ?_
  refine AList.s rfl (step_boxI (.tmp _ _ rfl) (.inr ⟨_, rfl⟩)) ?_
  rintro _ _ ⟨rfl, hH⟩
  obtain rfl := hH.symm
  refine AList.p rfl (pure_assign ev_int) ?_
  refine AList.nil ?_
  refine Next.go ?_
  refine AWP.seq ?_
  refine AWP.seq ?_
  -- region 1
  refine AWP.region ?_
  refine AList.p rfl (pure_move (.tmp _ _ rfl)) ?_
  first | (refine AList.p rfl (pure_lenL Tryz.underlying30 (.tmp _ _ rfl)) ?_) | (refine AList.p rfl (pure_lenS Tryz.underlying30 (.tmp _ _ rfl)) ?_) | (refine AList.p rfl (pure_lenM Tryz.underlying30 (.tmp _ _ rfl)) ?_)
  refine AList.p rfl (pure_move ev_int) ?_
  refine AList.nil ?_
  refine Next.go ?_
  refine AWP.block ?_
  -- L0
  refine AWP.loopW (index_J l x tl H) (l.length) ⟨0, Nat.zero_le _, by simp, rfl, rfl, rfl⟩ (sub_c rfl (sub_c rfl (sub_c rfl (sub_c rfl (sub_c rfl sub_n))))) (Heap.le.refl _) ?_
  rintro _ _ _ ⟨j, hj, hno, rfl, rfl, rfl⟩
  refine AWP.seq ?_
  -- region 2
  refine AWP.region ?_
  refine AList.p rfl (pure_lss (.tmp _ _ rfl) (.tmp _ _ rfl)) ?_
  refine AList.nil ?_
  refine Next.go ?_
  refine AWP.seq ?_
  -- c0
  refine AWP.cond (.tmp _ _ rfl) (fun hc9 => ?_) (fun hc9 => ?_)
  · try simp only [decide_eq_true_eq] at hc9
    have hil : j < l.length := by omega
    refine AWP.skip ?_
    refine Next.go ?_
    refine AWP.seq ?_
    refine AWP.block ?_
    refine AWP.seq ?_
    -- region 3
    refine AWP.region ?_
    refine AList.p rfl (pure_move (.tmp _ _ rfl)) ?_
    refine AList.p rfl (pure_assign (.tmp _ _ rfl)) ?_
    refine AList.nil ?_
    refine Next.go ?_
    refine AWP.seq ?_
    -- region 4
    refine AWP.draw [(0, true), (1, true), (2, true), (3, true), (4, true), (5, true)] rfl (by decide +kernel) ?_
    first | (refine APlan.p rfl rfl (pure_loadN Tryz.isAgg35 Tryz.sizeOf35 (.tmp _ _ rfl) (Nat.le_of_ble_eq_true rfl)) ?_) | (refine APlan.f rfl rfl (fun _ => step_loadN Tryz.isAgg35 Tryz.sizeOf35 (.tmp _ _ rfl) (by first | assumption | exact (by assumption : Heap.le _ _).objs _ _ (by assumption) | exact Heap.objs_set_same _ _ _ | exact (Heap.objs_set_ne _ _ (by assumption)).trans (Heap.objs_set_same _ _ _) | exact (Heap.objs_set_ne _ _ (by assumption)).trans ((Heap.objs_set_ne _ _ (by assumption)).trans (Heap.objs_set_same _ _ _)) | exact (Heap.objs_set_ne _ _ (by assumption)).trans (by assumption)) (Nat.le_of_ble_eq_true rfl)) ?_)
    refine APlan.p rfl rfl (pure_move (.tmp _ _ rfl)) ?_
    refine APlan.p rfl rfl (pure_move (.tmp _ _ rfl)) ?_
    first | (refine APlan.p rfl rfl (pure_indexL Tryz.underlying30 Tryz.sizeOf35 (.tmp _ _ rfl) (.tmp _ _ rfl) (by omega) (by omega)) ?_) | (refine APlan.p rfl rfl (pure_indexM Tryz.underlying30 Tryz.sizeOf35 (.tmp _ _ rfl) (.tmp _ _ rfl) (by omega) (by omega)) ?_)
    first | (refine APlan.p rfl rfl (pure_loadN Tryz.isAgg35 Tryz.sizeOf35 (.tmp _ _ rfl) (Nat.le_of_ble_eq_true rfl)) ?_) | (refine APlan.f rfl rfl (fun _ => step_loadN Tryz.isAgg35 Tryz.sizeOf35 (.tmp _ _ rfl) (by first | assumption | exact (by assumption : Heap.le _ _).objs _ _ (by assumption) | exact Heap.objs_set_same _ _ _ | exact (Heap.objs_set_ne _ _ (by assumption)).trans (Heap.objs_set_same _ _ _) | exact (Heap.objs_set_ne _ _ (by assumption)).trans ((Heap.objs_set_ne _ _ (by assumption)).trans (Heap.objs_set_same _ _ _)) | exact (Heap.objs_set_ne _ _ (by assumption)).trans (by assumption)) (Nat.le_of_ble_eq_true rfl)) ?_)
    refine APlan.p rfl rfl (pure_eqlA Tryz.eqGuardType35 (.tmp _ _ rfl) (.tmp _ _ rfl) (eqAr35 x (l[((j : Nat) : Int).toNat]))) ?_
    refine APlan.nil ?_
    refine Next.go ?_
    -- c1
    refine AWP.cond (.tmp _ _ rfl) (fun hc16 => ?_) (fun hc16 => ?_)
    · try simp only [decide_eq_true_eq] at hc16
      have hmem : x ∈ l := by rw [hc16]; exact List.getElem_mem hil
      refine AWP.seq ?_
      -- region 5
      refine AWP.region ?_
      refine AList.p rfl (pure_move (.tmp _ _ rfl)) ?_
      refine AList.p rfl (pure_assign (.tmp _ _ rfl)) ?_
      refine AList.nil ?_
      refine Next.go ?_
      refine AWP.ret ?_
      refine Block.rt ?_
      refine Next.rt ?_
      refine Next.rt ?_
      refine Block.rt ?_
      refine Next.rt ?_
      -- ret 0
      refine Ret.go (.cons (.tmp _ _ rfl) .nil) _ (Heap.le.refl _) ?_
      exact ⟨_, rfl, ⟨fun _ => hmem, fun _ => by omega⟩, rfl⟩
    · try simp only [decide_eq_false_iff_not] at hc16
      refine AWP.skip ?_
      refine Block.go ?_
      refine Next.go ?_
      -- region 6
      refine AWP.region ?_
      refine AList.p rfl (pure_add (.tmp _ _ rfl) ev_int (by omega)) ?_
      refine AList.p rfl (pure_move (.tmp _ _ rfl)) ?_
      refine AList.nil ?_
      refine Next.go ?_
      refine Round.mk (J := index_J l x tl H) ⟨j + 1, by omega, notin_next hno hil hc16, rfl, rfl, rfl⟩ (sub_c rfl (sub_c rfl (sub_c rfl (sub_c rfl (sub_c rfl sub_n))))) (Heap.le.refl _) (by omega)
  · try simp only [decide_eq_false_iff_not, Int.not_lt] at hc9
    have hil : l.length ≤ j := by omega
    rw [List.take_of_length_le hil] at hno
    refine AWP.exit ?_
    refine Next.ex ?_
    refine Next.ex ?_
    refine Block.hit ?_
    refine Next.go ?_
    refine AWP.seq ?_
    -- region 7
    refine AWP.region ?_
    refine AList.p rfl (pure_assign ev_int) ?_
    refine AList.nil ?_
    refine Next.go ?_
    refine AWP.ret ?_
    -- ret 1
    refine Ret.go (.cons (.tmp _ _ rfl) .nil) _ (Heap.le.refl _) ?_
    exact ⟨_, rfl, ⟨fun h => by omega, fun h => absurd h hno⟩, rfl⟩

set_option maxRecDepth 100000 in
theorem contains_calls (l : List Ar) (tl : Tail) (hl : l.length ≤ 100000) (x : Ar) (H : Heap) : ACall Tryz.prog 19 [.slice 8 (l.map Ar.av) tl, x.av] H (fun y H' => y = .bool (decide (x ∈ l)) ∧ H' = H) := by
  refine ACall.of_body Tryz.func19 rfl Tryz.ntmps19 Tryz.results19 rfl ?_
  refine AWP.seq ?_
  -- region 0
  refine AWP.region ?_
  refine AList.s rfl (step_boxI (.tmp _ _ rfl) (.inr ⟨_, rfl⟩)) ?_
  rintro _ _ ⟨rfl, hH⟩
  obtain rfl := hH.symm
  refine AList.p rfl (pure_assign ev_bool) ?_
  refine AList.nil ?_
  refine Next.go ?_
  refine AWP.seq ?_
  -- region 1
  refine AWP.region ?_
  refine AList.p rfl (pure_move (.tmp _ _ rfl)) ?_
  first | (refine AList.p rfl (pure_loadN Tryz.isAgg35 Tryz.sizeOf35 (.tmp _ _ rfl) (Nat.le_of_ble_eq_true rfl)) ?_) | (refine AList.s rfl (step_loadN Tryz.isAgg35 Tryz.sizeOf35 (.tmp _ _ rfl) (by first | assumption | exact (by assumption : Heap.le _ _).objs _ _ (by assumption) | exact Heap.objs_set_same _ _ _ | exact (Heap.objs_set_ne _ _ (by assumption)).trans (Heap.objs_set_same _ _ _) | exact (Heap.objs_set_ne _ _ (by assumption)).trans ((Heap.objs_set_ne _ _ (by assumption)).trans (Heap.objs_set_same _ _ _)) | exact (Heap.objs_set_ne _ _ (by assumption)).trans (by assumption)) (Nat.le_of_ble_eq_true rfl)) ?_; rintro _ _ ⟨rfl, hH⟩; obtain rfl := hH.symm)
  refine AList.s rfl (step_call0 Tryz.call35 (.cons (.tmp _ _ rfl) (.cons (.tmp _ _ rfl) .nil)) (index_calls _ _ (by assumption) _ _)) ?_
  rintro _ _ ⟨r, rfl, hr, hH⟩
  obtain rfl := hH.symm
  refine AList.p rfl (pure_geq (.tmp _ _ rfl) ev_int) ?_
  refine AList.p rfl (pure_assign (.tmp _ _ rfl)) ?_
  refine AList.nil ?_
  refine Next.go ?_
  refine AWP.ret ?_
  -- ret 0
  refine Ret.go (.cons (.tmp _ _ rfl) .nil) _ (Heap.le.refl _) ?_
  refine ⟨?_, rfl⟩
  show AV.bool (decide (0 ≤ r)) = _
  congr 1
  exact decide_eq_decide.2 hr

end Go.Proofs.YthhcdmmihjhipaaGreatDoor

namespace Go.Proofs.YthhcdmmihjhipaaGreatDoor
open Go Go.RowKit

theorem list_cons {l : List Ex} (h : (0 : Int) < (l.length : Int)) : ∃ x r, l = x :: r := by
  cases l with
  | nil => simp at h
  | cons x r => exact ⟨x, r, rfl⟩
theorem need_add {k b : Int} {s : List UInt8} {i : Bool} {f : Int} {p q : Pt} {ks rest : List Ex} {out : List Ar} (h : k = 5 ∨ k = 6) (hk : ks = []) (hm : areaOf k p q ∉ out) : Ex.needL (Ex.node k b s i f p q ks :: rest) out = Ex.needL (ks ++ rest) (out ++ [areaOf k p q]) := by
  rw [need_leaf h hk, addA, if_neg hm]
theorem need_old {k b : Int} {s : List UInt8} {i : Bool} {f : Int} {p q : Pt} {ks rest : List Ex} {out : List Ar} (h : k = 5 ∨ k = 6) (hk : ks = []) (hm : areaOf k p q ∈ out) : Ex.needL (Ex.node k b s i f p q ks :: rest) out = Ex.needL (ks ++ rest) out := by
  rw [need_leaf h hk, addA, if_pos hm]
theorem lenS_two (a b : List Ex) (ta tb : Tail) : lenS [(a, ta), (b, tb)] = a.length + b.length := by simp [lenS]
theorem list_nil {l : List Ex} (h : (l.length : Int) ≤ 0) : l = [] := by
  cases l with
  | nil => rfl
  | cons x r => simp at h; omega

def needs_J (e : Ex) (H : Heap) : Nat → Env → Heap → Prop := fun k env H1 => ∃ (todo : List Ex) (out : List Ar) (tl : Tail) (tk : Nat), (∀ x, x ∈ todo → x.fits ∧ x.ok = true) ∧ out.length + Ex.totL todo ≤ 1000 ∧ Ex.needL todo out = e.need [] ∧ env = [(3, .slice 8 (out.map Ar.av) (.own tk)), (4, .slice 14 (todo.map Ex.av) tl)] ∧ H.le H1 ∧ H1.toks tk = true ∧ H.toks tk = false ∧ k = Ex.totL todo

set_option maxRecDepth 100000 in
theorem Needs_calls (e : Ex) (hf : e.fits) (H : Heap) : ACall Tryz.prog 6 [e.av] H (fun y H' => y = .slice 8 ((needP e).map Ar.av) .shared ∧ H' = H) := by
  have hle0 := Heap.le.refl H
  have hml := maxLen_eq
  refine ACall.of_body Tryz.func6 rfl Tryz.ntmps6 Tryz.results6 rfl ?_
  refine AWP.seq ?_
  -- region 0
  refine AWP.region ?_
  refine AList.s rfl (step_boxI (.tmp _ _ rfl) (.inr ⟨_, rfl⟩)) ?_
  rintro _ _ ⟨rfl, hH⟩
  obtain rfl := hH.symm
  refine AList.p rfl (pure_assign (ev_nil (sz := 8) (tl := .full))) ?_
  refine AList.nil ?_
  refine Next.go ?_
  refine AWP.seq ?_
  refine AWP.seq ?_
  -- region 1
  refine AWP.region ?_
  first | (refine AList.p rfl (pure_loadN Tryz.isAgg27 Tryz.sizeOf27 (.tmp _ _ rfl) (Nat.le_of_ble_eq_true rfl)) ?_) | (refine AList.s rfl (step_loadN Tryz.isAgg27 Tryz.sizeOf27 (.tmp _ _ rfl) (by first | assumption | exact (by assumption : Heap.le _ _).objs _ _ (by assumption) | exact Heap.objs_set_same _ _ _ | exact (Heap.objs_set_ne _ _ (by assumption)).trans (Heap.objs_set_same _ _ _) | exact (Heap.objs_set_ne _ _ (by assumption)).trans ((Heap.objs_set_ne _ _ (by assumption)).trans (Heap.objs_set_same _ _ _)) | exact (Heap.objs_set_ne _ _ (by assumption)).trans (by assumption)) (Nat.le_of_ble_eq_true rfl)) ?_; rintro _ _ ⟨rfl, hH⟩; obtain rfl := hH.symm)
  refine AList.s rfl (step_call0 Tryz.call16 (.cons (.tmp _ _ rfl) .nil) (Right_calls e hf _)) ?_
  rintro _ _ ⟨rfl, hH⟩
  obtain rfl := hH.symm
  refine AList.p rfl (pure_not (.tmp _ _ rfl)) ?_
  refine AList.nil ?_
  refine Next.go ?_
  -- c0
  refine AWP.cond (.tmp _ _ rfl) (fun hc9 => ?_) (fun hc9 => ?_)
  · try simp only [Bool.not_eq_true'] at hc9
    have hr : e.right = false := by simpa using hc9
    refine AWP.seq ?_
    -- region 2
    refine AWP.region ?_
    refine AList.p rfl (pure_assign (ev_nil (sz := 8) (tl := .full))) ?_
    refine AList.nil ?_
    refine Next.go ?_
    refine AWP.ret ?_
    refine Next.rt ?_
    -- ret 0
    refine Ret.go (.cons (.weak _ _ _ rfl (.slice _ _ _)) .nil) _ (hle0) ?_
    refine ⟨?_, rfl⟩
    unfold needP; rw [hr]; rfl
  · try simp only [Bool.not_eq_false'] at hc9
    have hr : e.right = true := by simpa using hc9
    have hr2 := hr
    unfold Ex.right at hr2
    simp at hr2
    obtain ⟨hr3, hr4, hr5⟩ := hr2
    refine AWP.skip ?_
    refine Next.go ?_
    refine AWP.seq ?_
    -- region 3
    refine AWP.region ?_
    refine AList.p rfl (pure_assign (ev_nil (sz := 8) (tl := .full))) ?_
    refine AList.nil ?_
    refine Next.go ?_
    refine AWP.seq ?_
    -- region 4
    refine AWP.region ?_
    first | (refine AList.p rfl (pure_loadN Tryz.isAgg27 Tryz.sizeOf27 (.tmp _ _ rfl) (Nat.le_of_ble_eq_true rfl)) ?_) | (refine AList.s rfl (step_loadN Tryz.isAgg27 Tryz.sizeOf27 (.tmp _ _ rfl) (by first | assumption | exact (by assumption : Heap.le _ _).objs _ _ (by assumption) | exact Heap.objs_set_same _ _ _ | exact (Heap.objs_set_ne _ _ (by assumption)).trans (Heap.objs_set_same _ _ _) | exact (Heap.objs_set_ne _ _ (by assumption)).trans ((Heap.objs_set_ne _ _ (by assumption)).trans (Heap.objs_set_same _ _ _)) | exact (Heap.objs_set_ne _ _ (by assumption)).trans (by assumption)) (Nat.le_of_ble_eq_true rfl)) ?_; rintro _ _ ⟨rfl, hH⟩; obtain rfl := hH.symm)
    refine AList.s rfl (step_bs1 Tryz.underlying25 Tryz.sizeOf27 Tryz.zeroValue27 rfl (.tmp _ _ rfl) (.inr ⟨_, rfl⟩) ⟨rfl, rfl⟩) ?_
    rintro _ _ ⟨rfl, hH⟩
    obtain rfl := hH.symm
    refine AList.p rfl (pure_assign (.tmp _ _ rfl)) ?_
    refine AList.nil ?_
    refine Next.go ?_
    refine AWP.seq ?_
    refine AWP.block ?_
    -- L0
    refine AWP.tag (t := 3) rfl (fun u3 hu3 => ?_)
    have hfu3 := Heap.fresh_of hle0 hu3
    have hleu3 := Heap.le_in hle0 u3
    refine AWP.loopW (needs_J e H) (e.tot) ⟨[e], [], _, u3, fun x hx => by simp at hx; subst hx; exact ⟨hf, hr5⟩, by simp [Ex.totL]; omega, by rw [Ex.needL, Ex.needL], rfl, hleu3, Heap.toks_live_same _ _, hfu3, by simp [Ex.totL]⟩ (sub_c rfl (sub_c rfl sub_n)) (Heap.le.refl _) ?_
    rintro _ _ H1 ⟨todo, out, tl, tk, hall, hsum, hneed, rfl, hle1, hlive, hfr, rfl⟩
    refine AWP.seq ?_
    refine AWP.seq ?_
    -- region 5
    refine AWP.region ?_
    refine AList.p rfl (pure_move (.tmp _ _ rfl)) ?_
    first | (refine AList.p rfl (pure_lenL Tryz.underlying25 (.tmp _ _ rfl)) ?_) | (refine AList.p rfl (pure_lenS Tryz.underlying25 (.tmp _ _ rfl)) ?_) | (refine AList.p rfl (pure_lenM Tryz.underlying25 (.tmp _ _ rfl)) ?_)
    refine AList.p rfl (pure_gtr (.tmp _ _ rfl) ev_int) ?_
    refine AList.nil ?_
    refine Next.go ?_
    -- c1
    refine AWP.cond (.tmp _ _ rfl) (fun hc14 => ?_) (fun hc14 => ?_)
    · try simp only [decide_eq_true_eq] at hc14
      obtain ⟨x, rest, rfl⟩ := list_cons hc14
      obtain ⟨k, b, s, i, f, p, q, ks⟩ := x
      have htt := todo_tot (k := k) (b := b) (s := s) (i := i) (f := f) (p := p) (q := q) (ks := ks) (rest := rest)
      have hlen := len_totL (ks ++ rest)
      rw [List.length_append] at hlen
      have hc2 := catE_two ks rest .shared tl
      have hok1 := (hall (.node k b s i f p q ks) (by simp)).2
      rw [List.map_cons, Ex.av_node]
      refine AWP.skip ?_
      refine Next.go ?_
      refine AWP.block ?_
      refine AWP.seq ?_
      -- region 6
      refine AWP.region ?_
      refine AList.p rfl (pure_move (.tmp _ _ rfl)) ?_
      refine AList.p rfl (pure_indexS Tryz.underlying25 Tryz.sizeOf27 (.tmp _ _ rfl) ev_int (by omega) (rfl)) ?_
      first | (refine AList.p rfl (pure_loadN Tryz.isAgg27 Tryz.sizeOf27 (.tmp _ _ rfl) (Nat.le_of_ble_eq_true rfl)) ?_) | (refine AList.s rfl (step_loadN Tryz.isAgg27 Tryz.sizeOf27 (.tmp _ _ rfl) (by first | assumption | exact (by assumption : Heap.le _ _).objs _ _ (by assumption) | exact Heap.objs_set_same _ _ _ | exact (Heap.objs_set_ne _ _ (by assumption)).trans (Heap.objs_set_same _ _ _) | exact (Heap.objs_set_ne _ _ (by assumption)).trans ((Heap.objs_set_ne _ _ (by assumption)).trans (Heap.objs_set_same _ _ _)) | exact (Heap.objs_set_ne _ _ (by assumption)).trans (by assumption)) (Nat.le_of_ble_eq_true rfl)) ?_; rintro _ _ ⟨rfl, hH⟩; obtain rfl := hH.symm)
      refine AList.s rfl (step_alloc Tryz.zeroValue27 (zr27)) ?_
      rintro _ _ ⟨b5, hb5, rfl, hH⟩
      obtain rfl := hH.symm
      refine AList.s0 (step_store Tryz.sizeOf27 (.tmp _ _ rfl) (.tmp _ _ rfl) rfl rfl (.inr ⟨_, rfl⟩) (by first | assumption | exact (by assumption : Heap.le _ _).objs _ _ (by assumption) | exact Heap.objs_set_same _ _ _ | exact (Heap.objs_set_ne _ _ (by assumption)).trans (Heap.objs_set_same _ _ _) | exact (Heap.objs_set_ne _ _ (by assumption)).trans ((Heap.objs_set_ne _ _ (by assumption)).trans (Heap.objs_set_same _ _ _)) | exact (Heap.objs_set_ne _ _ (by assumption)).trans (by assumption)) (Nat.le_of_ble_eq_true rfl)) ?_
      rintro _ _ ⟨rfl, hH⟩
      obtain rfl := hH.symm
      try first | rw [Heap.set_set] | rw [Heap.set_under (by assumption)]
      refine AList.nil ?_
      refine Next.go ?_
      refine AWP.frz (t := 5) rfl (by first | exact hb5 | exact Heap.fresh_set hb5 _) ?_
      refine AWP.seq ?_
      -- region 7
      refine AWP.draw [(0, true), (1, true), (2, true), (3, true), (4, true), (5, true), (6, true)] rfl (by decide +kernel) ?_
      first | (refine APlan.p rfl rfl (pure_fieldI Tryz.underlying27 rfl Tryz.sizeOf25 (.tmp _ _ rfl)) ?_) | (refine APlan.p rfl rfl (pure_field Tryz.underlying27 rfl Tryz.sizeOf25 (.tmp _ _ rfl)) ?_)
      first | (refine APlan.p rfl rfl (pure_load1 Tryz.isAgg25 (.tmp _ _ rfl)) ?_) | (refine APlan.f rfl rfl (fun _ => step_load1 Tryz.isAgg25 (.tmp _ _ rfl) (by first | assumption | exact (by assumption : Heap.le _ _).objs _ _ (by assumption) | exact Heap.objs_set_same _ _ _ | exact (Heap.objs_set_ne _ _ (by assumption)).trans (Heap.objs_set_same _ _ _) | exact (Heap.objs_set_ne _ _ (by assumption)).trans ((Heap.objs_set_ne _ _ (by assumption)).trans (Heap.objs_set_same _ _ _)) | exact (Heap.objs_set_ne _ _ (by assumption)).trans (by assumption)) rfl) ?_)
      refine APlan.p rfl rfl (pure_move (.tmp _ _ rfl)) ?_
      refine APlan.p rfl rfl (.as (b := .slice 14 (rest.map Ex.av) tl) (by simp [pieceTail, List.take_of_length_le]) (pure_slice Tryz.underlying25 Tryz.sizeOf27 (.tmp _ _ rfl) (.yes _ _ _ ev_int (by omega)) .no (by simp) (by simp))) ?_
      refine APlan.f rfl rfl (fun _ => step_bs2 Tryz.underlying93 Tryz.sizeOf25 Tryz.zeroValue25 rfl (.tmp _ _ rfl) (.inl rfl) ⟨rfl, rfl⟩ (.tmp _ _ rfl) (.inl rfl) ⟨rfl, rfl⟩) ?_
      refine APlan.f rfl rfl (fun _ => step_call0 Tryz.call17 (.cons (.tmp _ _ rfl) .nil) (cat_calls [(ks, .shared), (rest, tl)] _ (Nat.le_of_ble_eq_true rfl) (by rw [lenS_two]; omega) _)) ?_
      refine APlan.p rfl rfl (pure_assign (.tmp _ _ rfl)) ?_
      refine APlan.nil ?_
      refine Next.go ?_
      refine AWP.seq ?_
      refine AWP.seq ?_
      -- region 8
      refine AWP.region ?_
      first | (refine AList.p rfl (pure_fieldI Tryz.underlying27 rfl Tryz.sizeOf3 (.tmp _ _ rfl)) ?_) | (refine AList.p rfl (pure_field Tryz.underlying27 rfl Tryz.sizeOf3 (.tmp _ _ rfl)) ?_)
      first | (refine AList.p rfl (pure_load1 Tryz.isAgg3 (.tmp _ _ rfl)) ?_) | (refine AList.s rfl (step_load1 Tryz.isAgg3 (.tmp _ _ rfl) (by first | assumption | exact (by assumption : Heap.le _ _).objs _ _ (by assumption) | exact Heap.objs_set_same _ _ _ | exact (Heap.objs_set_ne _ _ (by assumption)).trans (Heap.objs_set_same _ _ _) | exact (Heap.objs_set_ne _ _ (by assumption)).trans ((Heap.objs_set_ne _ _ (by assumption)).trans (Heap.objs_set_same _ _ _)) | exact (Heap.objs_set_ne _ _ (by assumption)).trans (by assumption)) rfl) ?_; rintro _ _ ⟨rfl, hH⟩; obtain rfl := hH.symm)
      refine AList.p rfl (pure_neq (.tmp _ _ rfl) ev_int) ?_
      refine AList.p rfl (pure_move (.tmp _ _ rfl)) ?_
      first | (refine AList.lz1 rfl rfl rfl (fun z => pure_fieldI Tryz.underlying27 rfl Tryz.sizeOf3 (.tmp _ _ rfl)) ?_) | (refine AList.lz1 rfl rfl rfl (fun z => pure_field Tryz.underlying27 rfl Tryz.sizeOf3 (.tmp _ _ rfl)) ?_)
      first | (refine AList.lz1 rfl rfl rfl (fun z => pure_load1 Tryz.isAgg3 (.lz rfl z)) ?_) | (refine AList.ls1 rfl rfl rfl (fun z => step_load1 Tryz.isAgg3 (.lz rfl z) (by first | assumption | exact (by assumption : Heap.le _ _).objs _ _ (by assumption) | exact Heap.objs_set_same _ _ _ | exact (Heap.objs_set_ne _ _ (by assumption)).trans (Heap.objs_set_same _ _ _) | exact (Heap.objs_set_ne _ _ (by assumption)).trans ((Heap.objs_set_ne _ _ (by assumption)).trans (Heap.objs_set_same _ _ _)) | exact (Heap.objs_set_ne _ _ (by assumption)).trans (by assumption)) rfl) ?_)
      refine AList.lz1 rfl rfl rfl (fun z => pure_neq (.lz rfl z) ev_int) ?_
      refine AList.p rfl (pure_pickA (.tmp _ _ rfl) rfl) ?_
      refine AList.nil ?_
      refine Next.go ?_
      -- c2
      refine AWP.cond (.tmp _ _ rfl) (fun hc31 => ?_) (fun hc31 => ?_)
      · try simp only [ne_eq] at hc31
        have hki : ¬ (k = 5 ∨ k = 6) := by simp at hc31; omega
        refine AWP.exit ?_
        refine Next.ex ?_
        refine Block.hit ?_
        refine Next.go ?_
        refine Round.mk (J := needs_J e H) ⟨_, out, _, tk, by rw [hc2]; exact todo_next hall, by rw [hc2]; omega, by rw [hc2, ← need_inner hki]; exact hneed, rfl, hle1, hlive, hfr, rfl⟩ (sub_c rfl (sub_c rfl sub_n)) (Heap.le.refl _) (by rw [hc2]; omega)
      · try simp only [ne_eq] at hc31
        have hki : k = 5 ∨ k = 6 := by simp at hc31; omega
        have hks := ok_leaf hok1 hki
        refine AWP.skip ?_
        refine Next.go ?_
        refine AWP.seq ?_
        -- region 9
        refine AWP.region ?_
        first | (refine AList.p rfl (pure_loadN Tryz.isAgg27 Tryz.sizeOf27 (.tmp _ _ rfl) (Nat.le_of_ble_eq_true rfl)) ?_) | (refine AList.s rfl (step_loadN Tryz.isAgg27 Tryz.sizeOf27 (.tmp _ _ rfl) (by first | assumption | exact (by assumption : Heap.le _ _).objs _ _ (by assumption) | exact Heap.objs_set_same _ _ _ | exact (Heap.objs_set_ne _ _ (by assumption)).trans (Heap.objs_set_same _ _ _) | exact (Heap.objs_set_ne _ _ (by assumption)).trans ((Heap.objs_set_ne _ _ (by assumption)).trans (Heap.objs_set_same _ _ _)) | exact (Heap.objs_set_ne _ _ (by assumption)).trans (by assumption)) (Nat.le_of_ble_eq_true rfl)) ?_; rintro _ _ ⟨rfl, hH⟩; obtain rfl := hH.symm)
        refine AList.s rfl (step_call0 Tryz.call18 (.cons (.tmp _ _ rfl) .nil) (between_calls k b s i f p q ks _)) ?_
        rintro _ _ ⟨rfl, hH⟩
        obtain rfl := hH.symm
        refine AList.s rfl (step_alloc Tryz.zeroValue35 (zr35)) ?_
        rintro _ _ ⟨b6, hb6, rfl, hH⟩
        obtain rfl := hH.symm
        refine AList.s0 (step_store Tryz.sizeOf35 (.tmp _ _ rfl) (.tmp _ _ rfl) rfl rfl (.inr ⟨_, rfl⟩) (by first | assumption | exact (by assumption : Heap.le _ _).objs _ _ (by assumption) | exact Heap.objs_set_same _ _ _ | exact (Heap.objs_set_ne _ _ (by assumption)).trans (Heap.objs_set_same _ _ _) | exact (Heap.objs_set_ne _ _ (by assumption)).trans ((Heap.objs_set_ne _ _ (by assumption)).trans (Heap.objs_set_same _ _ _)) | exact (Heap.objs_set_ne _ _ (by assumption)).trans (by assumption)) (Nat.le_of_ble_eq_true rfl)) ?_
        rintro _ _ ⟨rfl, hH⟩
        obtain rfl := hH.symm
        try first | rw [Heap.set_set] | rw [Heap.set_under (by assumption)]
        refine AList.nil ?_
        refine Next.go ?_
        refine AWP.frz (t := 6) rfl (by first | exact hb6 | exact Heap.fresh_set hb6 _) ?_
        refine AWP.seq ?_
        -- region 10
        refine AWP.region ?_
        refine AList.p rfl (pure_move (.tmp _ _ rfl)) ?_
        first | (refine AList.p rfl (pure_loadN Tryz.isAgg35 Tryz.sizeOf35 (.tmp _ _ rfl) (Nat.le_of_ble_eq_true rfl)) ?_) | (refine AList.s rfl (step_loadN Tryz.isAgg35 Tryz.sizeOf35 (.tmp _ _ rfl) (by first | assumption | exact (by assumption : Heap.le _ _).objs _ _ (by assumption) | exact Heap.objs_set_same _ _ _ | exact (Heap.objs_set_ne _ _ (by assumption)).trans (Heap.objs_set_same _ _ _) | exact (Heap.objs_set_ne _ _ (by assumption)).trans ((Heap.objs_set_ne _ _ (by assumption)).trans (Heap.objs_set_same _ _ _)) | exact (Heap.objs_set_ne _ _ (by assumption)).trans (by assumption)) (Nat.le_of_ble_eq_true rfl)) ?_; rintro _ _ ⟨rfl, hH⟩; obtain rfl := hH.symm)
        refine AList.s rfl (step_call0 Tryz.call19 (.cons (.tmp _ _ rfl) (.cons (.tmp _ _ rfl) .nil)) (contains_calls _ _ (by omega) _ _)) ?_
        rintro _ _ ⟨rfl, hH⟩
        obtain rfl := hH.symm
        refine AList.p rfl (pure_not (.tmp _ _ rfl)) ?_
        refine AList.nil ?_
        refine Next.go ?_
        -- c3
        refine AWP.cond (.tmp _ _ rfl) (fun hc37 => ?_) (fun hc37 => ?_)
        · try simp only [decide_eq_false_iff_not, Bool.not_eq_true'] at hc37
          -- region 11
          refine AWP.region ?_
          refine AList.p rfl (pure_move (.tmp _ _ rfl)) ?_
          first | (refine AList.p rfl (pure_loadN Tryz.isAgg35 Tryz.sizeOf35 (.tmp _ _ rfl) (Nat.le_of_ble_eq_true rfl)) ?_) | (refine AList.s rfl (step_loadN Tryz.isAgg35 Tryz.sizeOf35 (.tmp _ _ rfl) (by first | assumption | exact (by assumption : Heap.le _ _).objs _ _ (by assumption) | exact Heap.objs_set_same _ _ _ | exact (Heap.objs_set_ne _ _ (by assumption)).trans (Heap.objs_set_same _ _ _) | exact (Heap.objs_set_ne _ _ (by assumption)).trans ((Heap.objs_set_ne _ _ (by assumption)).trans (Heap.objs_set_same _ _ _)) | exact (Heap.objs_set_ne _ _ (by assumption)).trans (by assumption)) (Nat.le_of_ble_eq_true rfl)) ?_; rintro _ _ ⟨rfl, hH⟩; obtain rfl := hH.symm)
          refine AList.s rfl (step_bs1 Tryz.underlying30 Tryz.sizeOf35 Tryz.zeroValue35 rfl (.tmp _ _ rfl) (.inr ⟨_, rfl⟩) ⟨rfl, rfl⟩) ?_
          rintro _ _ ⟨rfl, hH⟩
          obtain rfl := hH.symm
          refine AList.s rfl (step_append Tryz.underlying30 Tryz.underlying30 Tryz.sizeOf35 Tryz.typeInfo35 Tryz.zeroValue35 rfl (by decide) (.tmp _ _ rfl) (.tmp _ _ rfl) (by exact .own _ hlive) (by show (_ + _) * 48 ≤ _; simp; omega) (by repeat' (first | exact row_int _ | exact row_n | exact row_c ⟨rfl, rfl⟩ row_n | exact row_drop (row_int _) | exact row_take (row_int _) | refine row_app ?_ ?_ | exact row_areas _)) (by repeat' (first | exact row_int _ | exact row_n | exact row_c ⟨rfl, rfl⟩ row_n | exact row_drop (row_int _) | exact row_take (row_int _) | refine row_app ?_ ?_))) ?_
          rintro _ _ ⟨t41, ht41, rfl, hH⟩
          obtain rfl := hH.symm
          have hf41 := Heap.fresh_of hle1 ht41
          have hle41 := Heap.le_in (Heap.le_out (t := tk) hle1 (by assumption)) t41
          refine AList.p rfl (pure_assign (.tmp _ _ rfl)) ?_
          refine AList.nil ?_
          refine Block.go ?_
          refine Next.go ?_
          refine Round.mk (J := needs_J e H) ⟨_, out ++ [areaOf k p q], _, t41, by rw [hc2]; exact todo_next hall, by rw [hc2, List.length_append, List.length_singleton]; omega, by rw [hc2]; exact (need_add hki hks hc37).symm.trans hneed, rfl, hle41, Heap.toks_live_same _ _, hf41, rfl⟩ (sub_e rfl (slice_eq (List.map_append (f := Ar.av) (l₁ := out) (l₂ := [areaOf k p q])).symm) (sub_c rfl sub_n)) (Heap.le.refl _) (by rw [hc2]; omega)
        · try simp only [decide_eq_true_eq, Bool.not_eq_false'] at hc37
          refine AWP.skip ?_
          refine Block.go ?_
          refine Next.go ?_
          refine Round.mk (J := needs_J e H) ⟨_, out, _, tk, by rw [hc2]; exact todo_next hall, by rw [hc2]; omega, by rw [hc2]; exact (need_old hki hks hc37).symm.trans hneed, rfl, hle1, hlive, hfr, rfl⟩ (sub_c rfl (sub_c rfl sub_n)) (Heap.le.refl _) (by rw [hc2]; omega)
    · try simp only [decide_eq_false_iff_not, Int.not_lt] at hc14
      obtain rfl := list_nil hc14
      rw [Ex.needL] at hneed
      refine AWP.exit ?_
      refine Next.ex ?_
      refine Next.ex ?_
      refine Block.hit ?_
      refine Next.go ?_
      refine AWP.seq ?_
      -- region 12
      refine AWP.region ?_
      refine AList.p rfl (pure_move (.tmp _ _ rfl)) ?_
      refine AList.p rfl (pure_assign (.tmp _ _ rfl)) ?_
      refine AList.nil ?_
      refine Next.go ?_
      refine AWP.ret ?_
      -- ret 1
      refine Ret.go (.cons (.weak _ _ _ rfl (.slice _ _ _)) .nil) _ (hle1) ?_
      refine ⟨?_, rfl⟩
      unfold needP; rw [if_pos hr, ← hneed]; rfl

end Go.Proofs.YthhcdmmihjhipaaGreatDoor
