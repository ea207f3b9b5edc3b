/-
  The program's Order.
-/
import Derived.Test.YtdibiongjkmlpaaGn
namespace Go.Proofs.Ytdibiongjkmlpaa
open Go Go.RowKit
def pNeedsOne (M : PG) (x : Int) (l : List Int) : Bool := l.any fun o => pNeeds M x o
theorem order_step (nd : Int → List Int → Bool) (n : Nat) (o left : List Int) (i : Nat) (hi : i < left.length) (hl : i = lead (fun x => nd x left) left) :
    order nd (n + 1) o left = order nd n (o ++ [left[i]]) (left.eraseIdx i) := by
  simp only [order]
  rw [← hl, List.getElem?_eq_getElem hi]
  simp only
  rw [List.eraseIdx_eq_take_drop_succ]
theorem takeWhile_all {α : Type} (p : α → Bool) : ∀ (l : List α), l.all p = true → l.takeWhile p = l
  | [], _ => rfl
  | y :: l, h => by
    simp only [List.all_cons, Bool.and_eq_true] at h
    rw [List.takeWhile_cons, if_pos h.1, takeWhile_all p l h.2]
theorem order_stop (nd : Int → List Int → Bool) (n : Nat) (o left : List Int) (h : left.all (fun x => nd x left) = true) : order nd n o left = (o, left) := by
  cases n with
  | zero => rfl
  | succ n =>
    simp only [order]
    have : lead (fun x => nd x left) left = left.length := by
      unfold lead
      rw [takeWhile_all _ _ h]
    rw [this, List.getElem?_eq_none (Nat.le_refl _)]

set_option maxRecDepth 100000 in
theorem ordIn_calls (b m : Nat) (M : PG) (hA : ∀ c, (pAreas M c).length ≤ 10000) (x c : Int) (hc : -9223372036854775808 ≤ c ∧ c ≤ 9223372036854775807) (H : Heap) (hp : PBox H b m M) : ACall Try.prog 41 [.int .i64 c, .iptr [.ptr (some ⟨b, 0, none⟩)], .iptr [.int .i64 x]] H (fun y H' => y = .bool (pNeeds M x c) ∧ H' = H) := by
  refine ACall.of_body Try.func41 rfl Try.ntmps41 Try.results41 rfl ?_
  refine AWP.seq ?_
  -- region 0
  refine AWP.region ?_
  refine AList.p rfl (pure_assign ev_bool) ?_
  refine AList.nil ?_
  refine Next.go ?_
  refine AWP.seq ?_
  -- region 1
  refine AWP.region ?_
  first | (refine AList.p rfl (pure_load1 Try.isAgg25 (.tmp _ _ rfl)) ?_) | (refine AList.s rfl (step_load1 Try.isAgg25 (.tmp _ _ rfl) (by first | assumption | exact (by assumption : Heap.le _ _).objs _ _ (by assumption) | exact Heap.objs_set_same _ _ _ | exact (Heap.objs_set_ne _ _ (by assumption)).trans (Heap.objs_set_same _ _ _) | exact (Heap.objs_set_ne _ _ (by assumption)).trans ((Heap.objs_set_ne _ _ (by assumption)).trans (Heap.objs_set_same _ _ _)) | exact (Heap.objs_set_ne _ _ (by assumption)).trans (by assumption)) rfl) ?_; rintro _ _ ⟨rfl, hH⟩; obtain rfl := hH.symm)
  first | (refine AList.p rfl (pure_load1 Try.isAgg3 (.tmp _ _ rfl)) ?_) | (refine AList.s rfl (step_load1 Try.isAgg3 (.tmp _ _ rfl) (by first | assumption | exact (by assumption : Heap.le _ _).objs _ _ (by assumption) | exact Heap.objs_set_same _ _ _ | exact (Heap.objs_set_ne _ _ (by assumption)).trans (Heap.objs_set_same _ _ _) | exact (Heap.objs_set_ne _ _ (by assumption)).trans ((Heap.objs_set_ne _ _ (by assumption)).trans (Heap.objs_set_same _ _ _)) | exact (Heap.objs_set_ne _ _ (by assumption)).trans (by assumption)) rfl) ?_; rintro _ _ ⟨rfl, hH⟩; obtain rfl := hH.symm)
  refine AList.p rfl (pure_move (.tmp _ _ rfl)) ?_
  refine AList.s rfl (step_call0 Try.call42 (.cons (.tmp _ _ rfl) (.cons (.tmp _ _ rfl) (.cons (.tmp _ _ rfl) .nil))) (pNeeds_calls _ _ _ hA _ _ hc _ hp)) ?_
  rintro _ _ ⟨rfl, hH⟩
  obtain rfl := hH.symm
  refine AList.p rfl (pure_assign (.tmp _ _ rfl)) ?_
  refine AList.nil ?_
  refine Next.go ?_
  refine AWP.ret ?_
  -- ret 0
  refine Ret.go (.cons (.tmp _ _ rfl) .nil) _ (Heap.le.refl _) ?_
  exact ⟨rfl, rfl⟩

set_option maxRecDepth 100000 in
theorem ordOut_calls (b m : Nat) (M : PG) (hA : ∀ c, (pAreas M c).length ≤ 10000) (x : Int) (bl : Nat) (left : List Int) (a : Option Addr) (c : Nat) (N : Nat → Prop) (hlen : left.length ≤ 1000000) (h64 : I64s left) (H : Heap) (hp : PBox H b m M) (hbl : H.objs bl = some (.box 23 [.mslice a left.length c])) (hm : MRow N H a left c) : ACall Try.prog 39 [.int .i64 x, .ptr (some ⟨bl, 0, none⟩), .iptr [.ptr (some ⟨b, 0, none⟩)]] H (fun y H' => y = .bool (!pNeedsOne M x left) ∧ H' = H) := by
  refine ACall.of_body Try.func39 rfl Try.ntmps39 Try.results39 rfl ?_
  refine AWP.seq ?_
  -- region 0
  refine AWP.region ?_
  refine AList.s rfl (step_boxI (.tmp _ _ rfl) (.inl rfl)) ?_
  rintro _ _ ⟨rfl, hH⟩
  obtain rfl := hH.symm
  refine AList.p rfl (pure_assign ev_bool) ?_
  refine AList.nil ?_
  refine Next.go ?_
  refine AWP.seq ?_
  -- region 1
  refine AWP.region ?_
  first | (refine AList.p rfl (pure_load1 Try.isAgg23 (.tmp _ _ rfl)) ?_) | (refine AList.s rfl (step_load1 Try.isAgg23 (.tmp _ _ rfl) (by first | assumption | exact (by assumption : Heap.le _ _).objs _ _ (by assumption) | exact Heap.objs_set_same _ _ _ | exact (Heap.objs_set_ne _ _ (by assumption)).trans (Heap.objs_set_same _ _ _) | exact (Heap.objs_set_ne _ _ (by assumption)).trans ((Heap.objs_set_ne _ _ (by assumption)).trans (Heap.objs_set_same _ _ _)) | exact (Heap.objs_set_ne _ _ (by assumption)).trans (by assumption)) rfl) ?_; rintro _ _ ⟨rfl, hH⟩; obtain rfl := hH.symm)
  refine AList.p rfl (pure_func2 (.tmp _ _ rfl) (.tmp _ _ rfl)) ?_
  refine AList.s rfl (step_call0 Try.call40 (.cons (.tmp _ _ rfl) (.cons (.tmp _ _ rfl) .nil)) (ContainsFuncM_calls N left a c _ hm hlen 41 [.iptr [.ptr (some ⟨b, 0, none⟩)], .iptr [.int .i64 x]] (fun o => pNeeds M x o) Try.call41 (fun y hy => ordIn_calls b m M hA x y (h64 y hy) _ hp))) ?_
  rintro _ _ ⟨rfl, hH⟩
  obtain rfl := hH.symm
  refine AList.p rfl (pure_not (.tmp _ _ rfl)) ?_
  refine AList.p rfl (pure_assign (.tmp _ _ rfl)) ?_
  refine AList.nil ?_
  refine Next.go ?_
  refine AWP.ret ?_
  -- ret 0
  refine Ret.go (.cons (.tmp _ _ rfl) .nil) _ (Heap.le.refl _) ?_
  exact ⟨rfl, rfl⟩

theorem zr23 : ∀ g, RelCells g [.slice 1 [] .full] (Value.cells (Go.Value.slice none 0 0)) := fun g => RelL.cells (.cons (.nilSlice _ _) .nil)

def pord_J (b bl : Nat) (M : PG) (l0 : List Int) (H : Heap) : Nat → Env → Heap → Prop := fun k env H1 => ∃ (o left : List Int) (t : Nat) (a : Option Addr) (c : Nat), env = [(2, .iptr [.ptr (some ⟨b, 0, none⟩)]), (6, .ptr (some ⟨bl, 0, none⟩)), (7, .slice 1 (o.map (.int .i64)) (.own t))] ∧ order (pNeedsOne M) left.length o left = order (pNeedsOne M) l0.length [] l0 ∧ I64s left ∧ left.length + o.length = l0.length ∧ H.le H1 ∧ H.objs bl = none ∧ H1.objs bl = some (.box 23 [.mslice a left.length c]) ∧ MRow (fun b => H.objs b = none ∧ b ≠ bl) H1 a left c ∧ H1.toks t = true ∧ H.toks t = false ∧ k = left.length

set_option maxRecDepth 100000 in
theorem pOrder_calls (b m : Nat) (M : PG) (hA : ∀ c, (pAreas M c).length ≤ 10000) (l : List Int) (tl : Tail) (hl : l.length ≤ 100000) (h64 : I64s l) (H : Heap) (hp : PBox H b m M) : ACall Try.prog 15 [.ptr (some ⟨b, 0, none⟩), .slice 1 (l.map (.int .i64)) tl] H (fun x H' => x = .tuple [.slice 1 ((order (pNeedsOne M) (pRising l).length [] (pRising l)).1.map (.int .i64)) .shared, .slice 1 ((order (pNeedsOne M) (pRising l).length [] (pRising l)).2.map (.int .i64)) .shared] ∧ H' = H) := by
  have hrl := pRising_len l
  have hr64 := pRising_64 h64
  refine ACall.of_body Try.func15 rfl Try.ntmps15 Try.results15 rfl ?_
  refine AWP.seq ?_
  -- region 0
  refine AWP.region ?_
  refine AList.s rfl (step_boxI (.tmp _ _ rfl) (.inl rfl)) ?_
  rintro _ _ ⟨rfl, hH⟩
  obtain rfl := hH.symm
  refine AList.p rfl (pure_assign (ev_nil (sz := 1) (tl := .full))) ?_
  refine AList.p rfl (pure_assign (ev_nil (sz := 1) (tl := .full))) ?_
  refine AList.nil ?_
  refine Next.go ?_
  refine AWP.seq ?_
  -- region 1
  refine AWP.region ?_
  refine AList.p rfl (pure_move (.tmp _ _ rfl)) ?_
  refine AList.s rfl (step_call0 Try.call37 (.cons (.tmp _ _ rfl) .nil) (pRising_calls _ _ (by omega) h64 _)) ?_
  rintro _ _ ⟨a0, c0, rfl, hle, hm0⟩
  refine AList.s rfl (step_alloc Try.zeroValue23 (zr23)) ?_
  rintro _ _ ⟨b6, hb6, rfl, hH⟩
  obtain rfl := hH.symm
  refine AList.s0 (step_store Try.sizeOf23 (.tmp _ _ rfl) (.tmp _ _ rfl) rfl rfl (.inl rfl) (Heap.objs_set_same _ _ _) (Nat.le_of_ble_eq_true rfl)) ?_
  rintro _ _ ⟨rfl, hH⟩
  obtain rfl := hH.symm
  rw [Heap.set_set]
  have hbln : H.objs b6 = none := by cases h : H.objs b6 with | none => rfl | some x => rw [hle.objs _ _ h] at hb6; cases hb6
  have hle6 := Heap.le_set_new hle hbln (.box 23 [.mslice a0 (pRising l).length c0])
  refine AList.nil ?_
  refine Next.go ?_
  refine AWP.seq ?_
  -- region 2
  refine AWP.region ?_
  refine AList.p rfl (pure_assign (ev_nil (sz := 1) (tl := .full))) ?_
  refine AList.nil ?_
  refine Next.go ?_
  refine AWP.block ?_
  -- L0
  refine AWP.tag (t := 7) rfl (fun u7 hu7 => ?_)
  have hfu7 := Heap.fresh_of hle6 hu7
  have hleu7 := Heap.le_in hle6 u7
  refine AWP.loopW (pord_J b b6 M (pRising l) H) ((pRising l).length) ⟨[], pRising l, u7, a0, c0, rfl, rfl, hr64, by simp, hleu7, hbln, Heap.objs_set_same _ _ _, hm0.mono2 (fun k x hN hk => ⟨⟨hN, by rintro rfl; rw [hb6] at hk; cases hk⟩, by show (Heap.set _ _ _).objs k = _; rw [Heap.objs_set_ne _ _ (by rintro rfl; rw [hb6] at hk; cases hk)]; exact hk⟩), Heap.toks_live_same _ _, hfu7, rfl⟩ (sub_c rfl (sub_c rfl (sub_c rfl sub_n))) (Heap.le.refl _) ?_
  rintro k _ H1 ⟨o, left, t, a, c, rfl, hord, h64l, hlen, hle, hbln, hbl, hm, hlive, hfr, rfl⟩
  refine AWP.block ?_
  refine AWP.seq ?_
  -- region 3
  refine AWP.region ?_
  refine AList.s rfl (step_load1 Try.isAgg23 (.tmp _ _ rfl) hbl rfl) ?_
  rintro _ _ ⟨rfl, hH⟩
  obtain rfl := hH.symm
  refine AList.p rfl (pure_func2 (.tmp _ _ rfl) (.tmp _ _ rfl)) ?_
  refine AList.s rfl (step_call0 Try.call38 (.cons (.tmp _ _ rfl) (.cons (.tmp _ _ rfl) .nil)) (IndexFuncM_calls _ left a c _ hm (by omega) 39 [.ptr (some ⟨b6, 0, none⟩), .iptr [.ptr (some ⟨b, 0, none⟩)]] (fun x => !pNeedsOne M x left) Try.call39 (fun y hy => ordOut_calls b m M hA y b6 left a c _ (by omega) h64l _ (hp.mono hle) hbl hm))) ?_
  rintro _ _ ⟨rfl, hH⟩
  obtain rfl := hH.symm
  refine AList.p rfl (pure_assign (.tmp _ _ rfl)) ?_
  refine AList.nil ?_
  refine Next.go ?_
  refine AWP.seq ?_
  refine AWP.seq ?_
  -- region 4
  refine AWP.region ?_
  refine AList.p rfl (pure_move (.tmp _ _ rfl)) ?_
  refine AList.p rfl (pure_lss (.tmp _ _ rfl) ev_int) ?_
  refine AList.nil ?_
  refine Next.go ?_
  -- c0
  refine AWP.cond (.tmp _ _ rfl) (fun hc15 => ?_) (fun hc15 => ?_)
  · try simp only [decide_eq_true_eq] at hc15
    refine AWP.seq ?_
    -- region 5
    refine AWP.draw [(0, true), (2, true), (1, false), (3, true)] rfl (by decide +kernel) ?_
    refine APlan.p rfl rfl (pure_move (.tmp _ _ rfl)) ?_
    refine APlan.p rfl rfl (pure_assign (.tmp _ _ rfl)) ?_
    refine APlan.s rfl rfl (step_load1 Try.isAgg23 (.tmp _ _ rfl) hbl rfl) ?_
    rintro _ _ ⟨rfl, hH⟩
    obtain rfl := hH.symm
    refine APlan.p rfl rfl (pure_assign (.tmp _ _ rfl)) ?_
    refine APlan.nil ?_
    refine Next.go ?_
    refine AWP.frzM (t := 5) rfl hm (fun H9 hH9 _ => ?_)
    refine AWP.ret ?_
    refine Next.rt ?_
    refine Block.rt ?_
    refine Next.rt ?_
    refine Block.rt ?_
    -- ret 0
    refine Ret.go (.cons (.weak _ _ _ rfl (.slice _ _ _)) (.cons (.tmp _ _ rfl) .nil)) _ (⟨fun k x hk => hH9 k x (hle.objs k x hk) (fun h => by rw [h.1] at hk; cases hk), fun t ht => by rw [‹H9.toks = _›]; exact hle.toks t ht⟩) ?_
    have hnone : left.all (fun x => pNeedsOne M x left) = true := by
      cases h : left.any (fun x => !pNeedsOne M x left) with
      | false => simpa using h
      | true => rw [idxOf, if_pos h] at hc15; omega
    rw [order_stop _ _ _ _ hnone] at hord
    refine ⟨?_, rfl⟩
    rw [← hord]
    rfl
  · try simp only [decide_eq_false_iff_not, Int.not_lt] at hc15
    obtain ⟨hany, hix⟩ := idxOf_nonneg (p := fun x => !pNeedsOne M x left) (l := left) (by omega)
    obtain ⟨hi, hip⟩ := lead_at hany
    rw [hix]
    generalize hil : lead (fun x => !!pNeedsOne M x left) left = i at hi hip
    have hil := hil.symm
    simp only [Bool.not_not] at hil
    have hel : (left.eraseIdx i).length = left.length - 1 := by rw [List.length_eraseIdx]; simp [hi]
    have hdl : left.length = (left.length - 1) + 1 := by omega
    obtain ⟨b9, T9, cs9, ha9, hN9, hb9, hcs9⟩ := hm.at_.resolve_left (by rintro rfl; simp at hi)
    subst ha9
    refine AWP.skip ?_
    refine Next.go ?_
    refine AWP.seq ?_
    -- region 6
    refine AWP.region ?_
    refine AList.p rfl (pure_move (.tmp _ _ rfl)) ?_
    refine AList.s rfl (step_load1 Try.isAgg23 (.tmp _ _ rfl) hbl rfl) ?_
    rintro _ _ ⟨rfl, hH⟩
    obtain rfl := hH.symm
    refine AList.p rfl (pure_move (.tmp _ _ rfl)) ?_
    refine AList.p rfl (pure_indexM Try.underlying23 Try.sizeOf3 (.tmp _ _ rfl) (.tmp _ _ rfl) (by omega) (by omega)) ?_
    refine AList.s rfl (step_load1 Try.isAgg3 (.tmp _ _ rfl) hb9 (mrow_get hcs9 hi)) ?_
    rintro _ _ ⟨rfl, hH⟩
    obtain rfl := hH.symm
    refine AList.s rfl (step_bs1 Try.underlying23 Try.sizeOf3 Try.zeroValue3 rfl (.tmp _ _ rfl) (.inl rfl) ⟨rfl, rfl⟩) ?_
    rintro _ _ ⟨rfl, hH⟩
    obtain rfl := hH.symm
    refine AList.s rfl (step_append Try.underlying23 Try.underlying23 Try.sizeOf3 Try.typeInfo3 Try.zeroValue3 rfl (by decide) (.tmp _ _ rfl) (.tmp _ _ rfl) (by exact .own _ (by first | assumption | exact Heap.toks_live_same _ _)) (by show (_ + _) * 8 ≤ _; simp; omega) (by repeat' (first | exact row_int _ | exact row_n | exact row_c ⟨rfl, rfl⟩ row_n | exact row_drop (row_int _) | exact row_take (row_int _) | refine row_app ?_ ?_)) (by repeat' (first | exact row_int _ | exact row_n | exact row_c ⟨rfl, rfl⟩ row_n | exact row_drop (row_int _) | exact row_take (row_int _) | refine row_app ?_ ?_))) ?_
    rintro _ _ ⟨t24, ht24, rfl, hH⟩
    obtain rfl := hH.symm
    have hf24 := Heap.fresh_of hle ht24
    have hle := Heap.le_in (Heap.le_out (t := t) hle hfr) t24
    refine AList.p rfl (pure_assign (.tmp _ _ rfl)) ?_
    refine AList.nil ?_
    refine Next.go ?_
    -- region 7
    refine AWP.region ?_
    refine AList.s rfl (step_load1 Try.isAgg23 (.tmp _ _ rfl) hbl rfl) ?_
    rintro _ _ ⟨rfl, hH⟩
    obtain rfl := hH.symm
    refine AList.p rfl (pure_move (.tmp _ _ rfl)) ?_
    refine AList.p rfl (pure_move (.tmp _ _ rfl)) ?_
    refine AList.p rfl (pure_add (.tmp _ _ rfl) ev_int (by omega)) ?_
    refine AList.s rfl (step_call0 Try.call43 (.cons (.tmp _ _ rfl) (.cons (.tmp _ _ rfl) (.cons (.tmp _ _ rfl) .nil))) (DeleteM_calls (fun b => H.objs b = none ∧ b ≠ b6) left i hi _ c ((H1.kill t).live t24) (hm.mono2 (fun _ _ hN hb => ⟨hN, hb⟩)) _ rfl)) ?_
    rintro _ _ ⟨rfl, hm2, hs2⟩
    have hle2 := hs2.le hle (fun _ h => h.1)
    have hbl2 := (hs2.objs (k := b6) (fun h => h.2 rfl)).trans hbl
    refine AList.s0 (step_store Try.sizeOf23 (.tmp _ _ rfl) (.tmp _ _ rfl) rfl rfl (.inl rfl) hbl2 (Nat.le_of_ble_eq_true rfl)) ?_
    rintro _ _ ⟨rfl, hH⟩
    obtain rfl := hH.symm
    have hle7 := Heap.le_set_new hle2 hbln (.box 23 [.mslice (some ⟨b9, 0, none⟩) (left.eraseIdx i).length c])
    refine AList.nil ?_
    refine Block.go ?_
    refine Next.go ?_
    refine Round.mk (J := pord_J b b6 M (pRising l) H) ⟨o ++ [left[i]], left.eraseIdx i, t24, _, c, rfl, by rw [hdl, order_step (pNeedsOne M) _ o left i hi hil] at hord; rw [← hord, hel], fun x hx => h64l x (List.mem_of_mem_eraseIdx hx), by rw [hel]; simp; omega, hle7, hbln, Heap.objs_set_same _ _ _, hm2.set_ne (fun h => h.2 rfl) _, by show (Heap.set _ _ _).toks t24 = true; rw [Heap.toks_set, hs2.toks]; exact Heap.toks_live_same _ _, hf24, rfl⟩ (sub_c rfl (sub_c rfl (sub_e rfl (slice_eq (by simp)) sub_n))) (Heap.le.refl _) (by omega)

end Go.Proofs.Ytdibiongjkmlpaa
