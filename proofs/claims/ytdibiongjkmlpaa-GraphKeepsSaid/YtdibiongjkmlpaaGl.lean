/-
  Library functions over a function, on a row that is written; the program's rising.
-/
import Derived.Test.YtdibiongjkmlpaaGj
import Derived.Test.YtdibiongjkmlpaaSn
namespace Go.Proofs.Ytdibiongjkmlpaa
open Go Go.RowKit
theorem lead_filter {l : List Int} {p : Int → Bool} {i : Nat} (hil : i ≤ lead (fun x => !p x) l) : (l.take i).filter (fun x => !p x) = l.take i := by
  have : ∀ (l : List Int) (i : Nat), i ≤ lead (fun x => !p x) l → ∀ x, x ∈ l.take i → (!p x) = true := by
    intro l
    induction l with
    | nil => intro i _ x hx; simp at hx
    | cons y l ih =>
      intro i hi x hx
      cases i with
      | zero => simp at hx
      | succ i =>
        unfold lead at hi
        rw [List.takeWhile_cons] at hi
        split at hi
        · rename_i hy
          simp only [List.take_succ_cons, List.mem_cons] at hx
          rcases hx with rfl | hx
          · exact hy
          · exact ih i (by simpa [lead] using hi) x hx
        · simp at hi
  exact List.filter_eq_self.2 (this l i hil)
theorem lead_at {l : List Int} {p : Int → Bool} (h : l.any p = true) : ∃ hl : lead (fun x => !p x) l < l.length, p l[lead (fun x => !p x) l] = true := by
  induction l with
  | nil => simp at h
  | cons y l ih =>
    by_cases hy : p y = true
    · have e : lead (fun x => !p x) (y :: l) = 0 := by simp [lead, hy]
      refine ⟨by rw [e]; simp, ?_⟩
      simp only [e]; exact hy
    · have e : lead (fun x => !p x) (y :: l) = lead (fun x => !p x) l + 1 := by simp [lead, hy]
      obtain ⟨h1, h2⟩ := ih (by simpa [hy] using h)
      refine ⟨by rw [e]; simpa using h1, ?_⟩
      simp only [e, List.getElem_cons_succ]; exact h2
theorem putRow_take {cs : List AV} {i : Nat} {x : AV} (h : i < cs.length) (h1 : x.cells = [x]) : (putRow cs (0 + ((i : Nat) : Int).toNat * 1) x.cells).take (i + 1) = cs.take i ++ [x] := by
  rw [h1]
  simp only [putRow, Int.toNat_natCast, Nat.mul_one, Nat.zero_add]
  rw [List.take_append_of_le_length (by simp; omega), List.take_of_length_le (by simp; omega)]
theorem putRow_len {cs ds : List AV} {o : Nat} (h : o + ds.length ≤ cs.length) : (putRow cs o ds).length = cs.length := by
  simp [putRow]; omega
theorem putRow_behind {cs ds : List AV} {o q : Nat} (h : o + ds.length ≤ cs.length) (hq : o + ds.length ≤ q) : (putRow cs o ds)[q]? = cs[q]? := by
  simp only [putRow]
  rw [List.getElem?_append_right (by simp; omega), List.getElem?_drop]
  congr 1; simp; omega

def idxM_J (f : FuncId) (cap : List AV) (p : Int → Bool) (l : List Int) (a : Option Addr) (c : Nat) (H : Heap) : Nat → Env → Heap → Prop := fun k env H1 => ∃ i : Nat, i ≤ l.length ∧ i ≤ lead (fun x => !p x) l ∧ (l.take i).any p = false ∧ env = [(0, .mslice a l.length c), (1, .func f cap), (7, .int .i64 l.length), (8, .int .i64 i)] ∧ H = H1 ∧ k = l.length - i

set_option maxRecDepth 100000 in
theorem IndexFuncM_calls (N : Nat → Prop) (l : List Int) (a : Option Addr) (c : Nat) (H : Heap) (hm : MRow N H a l c) (hlen : l.length ≤ 1000000) (f : FuncId) (cap : List AV) (p : Int → Bool) (hent : ∀ args w, (callFunc f args).run Try.prog w = .ok (.enter f args) w) (hf : ∀ x, x ∈ l → ACall Try.prog f ([.int .i64 x] ++ cap) H (fun y H' => y = .bool (p x) ∧ H' = H)) : ACall Try.prog 38 [.mslice a l.length c, .func f cap] H (fun x H' => x = .int .i64 (idxOf p l) ∧ H' = H) := by
  refine ACall.of_body Try.func38 rfl Try.ntmps38 Try.results38 rfl ?_
  refine AWP.seq ?_
  -- region 0
  refine AWP.region ?_
  refine AList.p rfl (pure_assign ev_int) ?_
  refine AList.nil ?_
  refine Next.go ?_
  refine AWP.seq ?_
  refine AWP.seq ?_
  -- region 1
  refine AWP.region ?_
  refine AList.p rfl (pure_move (.tmp _ _ rfl)) ?_
  first | (refine AList.p rfl (pure_lenL Try.underlying23 (.tmp _ _ rfl)) ?_) | (refine AList.p rfl (pure_lenS Try.underlying23 (.tmp _ _ rfl)) ?_) | (refine AList.p rfl (pure_lenM Try.underlying23 (.tmp _ _ rfl)) ?_)
  refine AList.p rfl (pure_move ev_int) ?_
  refine AList.nil ?_
  refine Next.go ?_
  refine AWP.block ?_
  -- L0
  refine AWP.loopW (idxM_J f cap p l a c H) (l.length) ⟨0, Nat.zero_le _, Nat.zero_le _, by simp, rfl, rfl, by omega⟩ (sub_c rfl (sub_c rfl (sub_c rfl (sub_c rfl sub_n)))) (Heap.le.refl _) ?_
  rintro _ _ _ ⟨i, hi, hil, hp, rfl, rfl, rfl⟩
  refine AWP.seq ?_
  -- region 2
  refine AWP.region ?_
  refine AList.p rfl (pure_lss (.tmp _ _ rfl) (.tmp _ _ rfl)) ?_
  refine AList.nil ?_
  refine Next.go ?_
  refine AWP.seq ?_
  -- c0
  refine AWP.cond (.tmp _ _ rfl) (fun hc9 => ?_) (fun hc9 => ?_)
  · try simp only [decide_eq_true_eq] at hc9
    obtain ⟨b, T, cs, ha, hN, hb, hcs⟩ := hm.at_.resolve_left (by rintro rfl; simp at hc9; omega)
    subst ha
    refine AWP.skip ?_
    refine Next.go ?_
    refine AWP.seq ?_
    refine AWP.block ?_
    refine AWP.seq ?_
    -- region 3
    refine AWP.region ?_
    refine AList.p rfl (pure_move (.tmp _ _ rfl)) ?_
    refine AList.p rfl (pure_assign (.tmp _ _ rfl)) ?_
    refine AList.nil ?_
    refine Next.go ?_
    refine AWP.seq ?_
    -- region 4
    refine AWP.region ?_
    refine AList.p rfl (pure_move (.tmp _ _ rfl)) ?_
    refine AList.p rfl (pure_move (.tmp _ _ rfl)) ?_
    refine AList.p rfl (pure_move (.tmp _ _ rfl)) ?_
    refine AList.p rfl (pure_indexM Try.underlying23 Try.sizeOf3 (.tmp _ _ rfl) (.tmp _ _ rfl) (by omega) (by omega)) ?_
    refine AList.s rfl (step_load1 Try.isAgg3 (.tmp _ _ rfl) (hb) (mrow_get hcs (by omega))) ?_
    rintro _ _ ⟨rfl, hH⟩
    obtain rfl := hH.symm
    refine AList.s rfl (step_call hent (.tmp _ _ rfl) (.cons (.tmp _ _ rfl) .nil) (hf _ (List.getElem_mem _))) ?_
    rintro _ _ ⟨rfl, hH⟩
    obtain rfl := hH.symm
    refine AList.nil ?_
    refine Next.go ?_
    -- c1
    refine AWP.cond (.tmp _ _ rfl) (fun hc16 => ?_) (fun hc16 => ?_)
    · try simp only [decide_eq_true_eq, decide_eq_false_iff_not, Bool.not_eq_true', Bool.not_eq_false', Int.not_lt, Int.not_le, ne_eq, Decidable.not_not] at hc16
      refine AWP.seq ?_
      -- region 5
      refine AWP.region ?_
      refine AList.p rfl (pure_move (.tmp _ _ rfl)) ?_
      refine AList.p rfl (pure_assign (.tmp _ _ rfl)) ?_
      refine AList.nil ?_
      refine Next.go ?_
      refine AWP.ret ?_
      refine Block.rt ?_
      refine Next.rt ?_
      refine Next.rt ?_
      refine Block.rt ?_
      refine Next.rt ?_
      -- ret 0
      refine Ret.go (.cons (.tmp _ _ rfl) .nil) _ (Heap.le.refl _) ?_
      refine ⟨?_, rfl⟩
      rw [idxOf_some (show i < l.length by omega) hil (by simpa using hc16)]
      rfl
    · try simp only [decide_eq_true_eq, decide_eq_false_iff_not, Bool.not_eq_true', Bool.not_eq_false', Int.not_lt, Int.not_le, ne_eq, Decidable.not_not] at hc16
      refine AWP.skip ?_
      refine Block.go ?_
      refine Next.go ?_
      -- region 6
      refine AWP.region ?_
      refine AList.p rfl (pure_add (.tmp _ _ rfl) ev_int (by omega)) ?_
      refine AList.p rfl (pure_move (.tmp _ _ rfl)) ?_
      refine AList.nil ?_
      refine Next.go ?_
      refine Round.mk (J := idxM_J f cap p l _ c H) ⟨i + 1, by omega, lead_next hil (by omega) (by simpa using hc16), by rw [take_succ_get l i (by omega), List.any_append, hp]; simpa using hc16, rfl, rfl, rfl⟩ (sub_c rfl (sub_c rfl (sub_c rfl (sub_c rfl sub_n)))) (Heap.le.refl _) (by omega)
  · try simp only [decide_eq_false_iff_not, Int.not_lt] at hc9
    refine AWP.exit ?_
    refine Next.ex ?_
    refine Next.ex ?_
    refine Block.hit ?_
    refine Next.go ?_
    refine AWP.seq ?_
    -- region 7
    refine AWP.region ?_
    refine AList.p rfl (pure_assign ev_int) ?_
    refine AList.nil ?_
    refine Next.go ?_
    refine AWP.ret ?_
    -- ret 1
    refine Ret.go (.cons (.tmp _ _ rfl) .nil) _ (Heap.le.refl _) ?_
    refine ⟨?_, rfl⟩
    rw [List.take_of_length_le (by omega)] at hp
    rw [idxOf_none hp]
    rfl

set_option maxRecDepth 100000 in
theorem ContainsFuncM_calls (N : Nat → Prop) (l : List Int) (a : Option Addr) (c : Nat) (H : Heap) (hm : MRow N H a l c) (hlen : l.length ≤ 1000000) (f : FuncId) (cap : List AV) (p : Int → Bool) (hent : ∀ args w, (callFunc f args).run Try.prog w = .ok (.enter f args) w) (hf : ∀ x, x ∈ l → ACall Try.prog f ([.int .i64 x] ++ cap) H (fun y H' => y = .bool (p x) ∧ H' = H)) : ACall Try.prog 40 [.mslice a l.length c, .func f cap] H (fun x H' => x = .bool (l.any p) ∧ H' = H) := by
  refine ACall.of_body Try.func40 rfl Try.ntmps40 Try.results40 rfl ?_
  refine AWP.seq ?_
  -- region 0
  refine AWP.region ?_
  refine AList.p rfl (pure_assign ev_bool) ?_
  refine AList.nil ?_
  refine Next.go ?_
  refine AWP.seq ?_
  -- region 1
  refine AWP.region ?_
  refine AList.p rfl (pure_move (.tmp _ _ rfl)) ?_
  refine AList.p rfl (pure_move (.tmp _ _ rfl)) ?_
  refine AList.s rfl (step_call0 Try.call38 (.cons (.tmp _ _ rfl) (.cons (.tmp _ _ rfl) .nil)) (IndexFuncM_calls N l a c _ hm hlen f cap p hent hf)) ?_
  rintro _ _ ⟨rfl, hH⟩
  obtain rfl := hH.symm
  refine AList.p rfl (pure_geq (.tmp _ _ rfl) ev_int) ?_
  refine AList.p rfl (pure_assign (.tmp _ _ rfl)) ?_
  refine AList.nil ?_
  refine Next.go ?_
  refine AWP.ret ?_
  -- ret 0
  refine Ret.go (.cons (.tmp _ _ rfl) .nil) _ (Heap.le.refl _) ?_
  refine ⟨?_, rfl⟩
  show AV.bool _ = _
  rw [← idxOf_pos p l]

def delM_J (f : FuncId) (cap : List AV) (p : Int → Bool) (l : List Int) (b T c : Nat) (cs0 : List AV) (H : Heap) : Nat → Env → Heap → Prop := fun k env H1 => ∃ (i j : Nat) (cs : List AV), i < j ∧ j ≤ l.length ∧ env = [(0, .mslice (some ⟨b, 0, none⟩) l.length c), (1, .func f cap), (5, .int .i64 i), (6, .int .i64 j)] ∧ H1 = H.set b (.box T cs) ∧ cs.length = cs0.length ∧ cs.take i = ((l.take j).filter fun x => !p x).map (.int .i64) ∧ (∀ q, j ≤ q → cs[q]? = cs0[q]?) ∧ k = l.length - j

set_option maxRecDepth 100000 in
theorem DeleteFuncM_calls (N : Nat → Prop) (l : List Int) (a : Option Addr) (c : Nat) (H : Heap) (hm : MRow N H a l c) (hlen : l.length ≤ 1000000) (f : FuncId) (cap : List AV) (p : Int → Bool) (hent : ∀ args w, (callFunc f args).run Try.prog w = .ok (.enter f args) w) (hf : ∀ x H, x ∈ l → ACall Try.prog f ([.int .i64 x] ++ cap) H (fun y H' => y = .bool (p x) ∧ H' = H)) : ACall Try.prog 59 [.mslice a l.length c, .func f cap] H (fun x H' => x = .mslice a (l.filter fun x => !p x).length c ∧ MRow N H' a (l.filter fun x => !p x) c ∧ MSame N a H H') := by
  refine ACall.of_body Try.func59 rfl Try.ntmps59 Try.results59 rfl ?_
  refine AWP.seq ?_
  -- region 0
  refine AWP.region ?_
  refine AList.p rfl (pure_assign (ev_nil (sz := 1) (tl := .full))) ?_
  refine AList.nil ?_
  refine Next.go ?_
  refine AWP.seq ?_
  -- region 1
  refine AWP.region ?_
  refine AList.p rfl (pure_move (.tmp _ _ rfl)) ?_
  refine AList.p rfl (pure_move (.tmp _ _ rfl)) ?_
  refine AList.s rfl (step_call0 Try.call38 (.cons (.tmp _ _ rfl) (.cons (.tmp _ _ rfl) .nil)) (IndexFuncM_calls N l a c _ hm hlen f cap p hent (fun x hx => hf x _ hx))) ?_
  rintro _ _ ⟨rfl, hH⟩
  obtain rfl := hH.symm
  refine AList.p rfl (pure_assign (.tmp _ _ rfl)) ?_
  refine AList.nil ?_
  refine Next.go ?_
  refine AWP.seq ?_
  refine AWP.seq ?_
  -- region 2
  refine AWP.region ?_
  refine AList.p rfl (pure_move (.tmp _ _ rfl)) ?_
  refine AList.p rfl (pure_eql (.tmp _ _ rfl) ev_int) ?_
  refine AList.nil ?_
  refine Next.go ?_
  -- c0
  refine AWP.cond (.tmp _ _ rfl) (fun hc12 => ?_) (fun hc12 => ?_)
  · try simp only [decide_eq_true_eq] at hc12
    refine AWP.seq ?_
    -- region 3
    refine AWP.region ?_
    refine AList.p rfl (pure_move (.tmp _ _ rfl)) ?_
    refine AList.p rfl (pure_assign (.tmp _ _ rfl)) ?_
    refine AList.nil ?_
    refine Next.go ?_
    refine AWP.ret ?_
    refine Next.rt ?_
    -- ret 0
    refine Ret.go (.cons (.tmp _ _ rfl) .nil) _ (Heap.le.refl _) ?_
    have hnone : l.any p = false := by
      cases h : l.any p with
      | false => rfl
      | true => rw [idxOf, if_pos h] at hc12; omega
    have hall : (l.filter fun x => !p x) = l := List.filter_eq_self.2 fun x hx => by simpa using (List.any_eq_false.1 hnone) x hx
    rw [hall]
    exact ⟨rfl, hm, .inl rfl⟩
  · try simp only [decide_eq_false_iff_not] at hc12
    have hany : l.any p = true := by
      cases h : l.any p with
      | true => rfl
      | false => exact absurd (idxOf_none h) hc12
    obtain ⟨hld, hlp⟩ := lead_at hany
    have hix : idxOf p l = (lead (fun x => !p x) l : Nat) := by rw [idxOf, if_pos hany]
    rw [hix]
    generalize hL : lead (fun x => !p x) l = i0 at hld hlp
    obtain ⟨b, T, cs0, ha, hN, hb, hcs⟩ := hm.at_.resolve_left (by rintro rfl; simp at hld)
    subst ha
    have hcl := mrow_len hcs
    have hself := Heap.set_self hb
    refine AWP.skip ?_
    refine Next.go ?_
    refine AWP.seq ?_
    refine AWP.seq ?_
    -- region 4
    refine AWP.region ?_
    refine AList.p rfl (pure_move (.tmp _ _ rfl)) ?_
    refine AList.p rfl (pure_add (.tmp _ _ rfl) ev_int (by omega)) ?_
    refine AList.p rfl (pure_assign (.tmp _ _ rfl)) ?_
    refine AList.nil ?_
    refine Next.go ?_
    refine AWP.block ?_
    -- L0
    refine AWP.loopW (delM_J f cap p l b T c cs0 H) (l.length - (i0 + 1)) ⟨i0, i0 + 1, cs0, by omega, by omega, rfl, rfl, rfl, by rw [take_succ_get l i0 hld, List.filter_append, lead_filter (by omega)]; simp only [List.filter_cons, hlp]; have := congrArg (List.take i0) hcs; rw [List.take_take, Nat.min_eq_left (by omega), ← List.map_take] at this; simpa using this, fun _ _ => rfl, rfl⟩ (sub_c rfl (sub_c rfl (sub_c rfl (sub_c rfl sub_n)))) (by rw [hself]; exact Heap.le.refl _) ?_
    rintro _ _ _ ⟨i, j, cs, hij, hj, rfl, rfl, hcsl, htk, hq, rfl⟩
    have hil : i ≤ j := by omega
    refine AWP.seq ?_
    refine AWP.seq ?_
    -- region 5
    refine AWP.region ?_
    refine AList.p rfl (pure_move (.tmp _ _ rfl)) ?_
    refine AList.p rfl (pure_move (.tmp _ _ rfl)) ?_
    first | (refine AList.p rfl (pure_lenL Try.underlying23 (.tmp _ _ rfl)) ?_) | (refine AList.p rfl (pure_lenS Try.underlying23 (.tmp _ _ rfl)) ?_) | (refine AList.p rfl (pure_lenM Try.underlying23 (.tmp _ _ rfl)) ?_)
    refine AList.p rfl (pure_lss (.tmp _ _ rfl) (.tmp _ _ rfl)) ?_
    refine AList.nil ?_
    refine Next.go ?_
    -- c1
    refine AWP.cond (.tmp _ _ rfl) (fun hc19 => ?_) (fun hc19 => ?_)
    · try simp only [decide_eq_true_eq] at hc19
      have hgj := mrow_get hcs (i := j) (by omega)
      refine AWP.skip ?_
      refine Next.go ?_
      refine AWP.seq ?_
      refine AWP.block ?_
      refine AWP.seq ?_
      -- region 7
      refine AWP.region ?_
      refine AList.p rfl (pure_move (.tmp _ _ rfl)) ?_
      refine AList.p rfl (pure_move (.tmp _ _ rfl)) ?_
      refine AList.p rfl (pure_indexM Try.underlying23 Try.sizeOf3 (.tmp _ _ rfl) (.tmp _ _ rfl) (by omega) (by omega)) ?_
      refine AList.s rfl (step_load1 Try.isAgg3 (.tmp _ _ rfl) (Heap.objs_set_same _ _ _) ((by rw [show 0 + ((j : Nat) : Int).toNat * 1 = j by omega]; rw [show 0 + ((j : Nat) : Int).toNat * 1 = j by omega] at hgj; exact (hq j (Nat.le_refl _)).trans hgj))) ?_
      rintro _ _ ⟨rfl, hH⟩
      obtain rfl := hH.symm
      refine AList.p rfl (pure_assign (.tmp _ _ rfl)) ?_
      refine AList.nil ?_
      refine Next.go ?_
      refine AWP.seq ?_
      -- region 8
      refine AWP.region ?_
      refine AList.p rfl (pure_move (.tmp _ _ rfl)) ?_
      refine AList.p rfl (pure_move (.tmp _ _ rfl)) ?_
      refine AList.s rfl (step_call hent (.tmp _ _ rfl) (.cons (.tmp _ _ rfl) .nil) (hf _ _ (List.getElem_mem _))) ?_
      rintro _ _ ⟨rfl, hH⟩
      obtain rfl := hH.symm
      refine AList.p rfl (pure_not (.tmp _ _ rfl)) ?_
      refine AList.nil ?_
      refine Next.go ?_
      -- c2
      refine AWP.cond (.tmp _ _ rfl) (fun hc29 => ?_) (fun hc29 => ?_)
      · try simp only [Bool.not_eq_true'] at hc29
        refine AWP.seq ?_
        -- region 9
        refine AWP.region ?_
        refine AList.p rfl (pure_move (.tmp _ _ rfl)) ?_
        refine AList.p rfl (pure_move (.tmp _ _ rfl)) ?_
        refine AList.p rfl (pure_move (.tmp _ _ rfl)) ?_
        refine AList.p rfl (pure_indexM Try.underlying23 Try.sizeOf3 (.tmp _ _ rfl) (.tmp _ _ rfl) (by omega) (by omega)) ?_
        refine AList.s0 (step_store Try.sizeOf3 (.tmp _ _ rfl) (.tmp _ _ rfl) rfl rfl (.inl rfl) (Heap.objs_set_same _ _ _) (by omega)) ?_
        rintro _ _ ⟨rfl, hH⟩
        obtain rfl := hH.symm
        rw [Heap.set_set]
        refine AList.nil ?_
        refine Next.go ?_
        -- region 10
        refine AWP.region ?_
        refine AList.p rfl (pure_move (.tmp _ _ rfl)) ?_
        refine AList.p rfl (pure_add (.tmp _ _ rfl) ev_int (by omega)) ?_
        refine AList.p rfl (pure_assign (.tmp _ _ rfl)) ?_
        refine AList.nil ?_
        refine Block.go ?_
        refine Next.go ?_
        -- region 6
        refine AWP.region ?_
        refine AList.p rfl (pure_move (.tmp _ _ rfl)) ?_
        refine AList.p rfl (pure_add (.tmp _ _ rfl) ev_int (by omega)) ?_
        refine AList.p rfl (pure_assign (.tmp _ _ rfl)) ?_
        refine AList.nil ?_
        refine Next.go ?_
        refine Round.mk (J := delM_J f cap p l b T c cs0 H) ⟨i + 1, j + 1, _, by omega, by omega, rfl, rfl, by rw [putRow_len (by show _ + 1 ≤ _; omega)]; exact hcsl, by rw [putRow_take (by omega) rfl, htk, take_succ_get l j (by omega), List.filter_append, List.map_append]; simp only [List.filter_cons, List.filter_nil]; rw [if_pos (by simpa using hc29)]; rfl, fun q hjq => by rw [putRow_behind (by show _ + 1 ≤ _; omega) (by show _ + 1 ≤ _; omega)]; exact hq q (by omega), rfl⟩ (sub_c rfl (sub_c rfl (sub_c rfl (sub_c rfl sub_n)))) (Heap.le.refl _) (by omega)
      · try simp only [Bool.not_eq_false'] at hc29
        refine AWP.skip ?_
        refine Block.go ?_
        refine Next.go ?_
        -- region 6
        refine AWP.region ?_
        refine AList.p rfl (pure_move (.tmp _ _ rfl)) ?_
        refine AList.p rfl (pure_add (.tmp _ _ rfl) ev_int (by omega)) ?_
        refine AList.p rfl (pure_assign (.tmp _ _ rfl)) ?_
        refine AList.nil ?_
        refine Next.go ?_
        refine Round.mk (J := delM_J f cap p l b T c cs0 H) ⟨i, j + 1, cs, by omega, by omega, rfl, rfl, hcsl, by rw [htk, take_succ_get l j (by omega), List.filter_append, List.map_append]; simp only [List.filter_cons, List.filter_nil]; rw [if_neg (by simpa using hc29)]; simp, fun q hjq => hq q (by omega), rfl⟩ (sub_c rfl (sub_c rfl (sub_c rfl (sub_c rfl sub_n)))) (Heap.le.refl _) (by omega)
    · try simp only [decide_eq_false_iff_not, Int.not_lt] at hc19
      refine AWP.exit ?_
      refine Next.ex ?_
      refine Next.ex ?_
      refine Block.hit ?_
      refine Next.go ?_
      refine AWP.seq ?_
      -- region 11
      refine AWP.region ?_
      refine AList.p rfl (pure_move (.tmp _ _ rfl)) ?_
      refine AList.p rfl (pure_move (.tmp _ _ rfl)) ?_
      refine AList.p rfl (pure_sliceM Try.underlying23 Try.sizeOf3 (.tmp _ _ rfl) (.yes _ _ _ (.tmp _ _ rfl) (by omega)) .no (by simp; omega) (by have := hm.cap; simp; omega)) ?_
      refine AList.s0 (step_clearM (k := .i64) (o := i) Try.underlying23 Try.zeroValue3 (.tmp _ _ rfl) (Heap.objs_set_same _ _ _) (piece_at (i := i) (c := c) (len := l.length) (L := cs.length) (by omega) hm.cap (by omega))) ?_
      rintro _ _ ⟨ds, hdl, hds, hH⟩
      obtain rfl := hH.symm
      rw [Heap.set_set]
      refine AList.nil ?_
      refine Next.go ?_
      refine AWP.seq ?_
      -- region 12
      refine AWP.region ?_
      refine AList.p rfl (pure_move (.tmp _ _ rfl)) ?_
      refine AList.p rfl (pure_move (.tmp _ _ rfl)) ?_
      refine AList.p rfl (pure_sliceM Try.underlying23 Try.sizeOf3 (.tmp _ _ rfl) .no (.yes _ _ _ (.tmp _ _ rfl) (by omega)) (Nat.zero_le _) (by have := hm.cap; simp; omega)) ?_
      refine AList.p rfl (pure_assign (.tmp _ _ rfl)) ?_
      refine AList.nil ?_
      refine Next.go ?_
      refine AWP.ret ?_
      -- ret 1
      refine Ret.go (.cons (.tmp _ _ rfl) .nil) _ (Heap.le.refl _) ?_
      have hjl : j = l.length := by omega
      subst hjl
      rw [List.take_length] at htk
      have hlf : (l.filter fun x => !p x).length = i := by have := congrArg List.length htk; simp at this; omega
      refine ⟨?_, ⟨by have := hm.cap; omega, hm.max, .inr ⟨b, rfl⟩, Or.inr ⟨b, T, ds, rfl, hN, Heap.objs_set_same _ _ _, ?_⟩⟩, .inr ⟨b, T, ds, rfl, hN, rfl⟩⟩
      · rw [hlf]; show AV.mslice (if c = 0 then some (⟨b, 0, none⟩ : Addr) else (some (⟨b, 0, none⟩ : Addr)).map (·.add (0 * 1))) (i - 0) (c - 0) = _; rw [piece_0 rfl]; rfl
      · rw [hlf, ← htk]
        apply List.ext_getElem?
        intro q
        rw [List.getElem?_take, List.getElem?_take]
        split
        · rename_i hqi; exact hds q (.inr hqi)
        · rfl

def pRising (l : List Int) : List Int := Lib.compact ((l.filter fun x => !decide ((At x).col < 0)).mergeSort fun x y => decide (x ≤ y))

set_option maxRecDepth 100000 in
theorem risingP_calls (x : Int) (hx : -9223372036854775808 ≤ x ∧ x ≤ 9223372036854775807) (H : Heap) : ACall Try.prog 60 [.int .i64 x] H (fun y H' => y = .bool (decide ((At x).col < 0)) ∧ H' = H) := by
  refine ACall.of_body Try.func60 rfl Try.ntmps60 Try.results60 rfl ?_
  refine AWP.seq ?_
  -- region 0
  refine AWP.region ?_
  refine AList.p rfl (pure_assign ev_bool) ?_
  refine AList.nil ?_
  refine Next.go ?_
  refine AWP.seq ?_
  -- region 1
  refine AWP.region ?_
  refine AList.p rfl (pure_move (.tmp _ _ rfl)) ?_
  refine AList.s rfl (step_call0 Try.call50 (.cons (.tmp _ _ rfl) .nil) (At_calls _ (by first | assumption | omega) _)) ?_
  rintro _ _ ⟨rfl, hH⟩
  obtain rfl := hH.symm
  refine AList.p rfl (pure_fieldV1 Try.underlying50 rfl Try.isAgg3 Try.sizeOf3 (.tmp _ _ rfl) rfl) ?_
  refine AList.p rfl (pure_lss (.tmp _ _ rfl) ev_int) ?_
  refine AList.p rfl (pure_assign (.tmp _ _ rfl)) ?_
  refine AList.nil ?_
  refine Next.go ?_
  refine AWP.ret ?_
  -- ret 0
  refine Ret.go (.cons (.tmp _ _ rfl) .nil) _ (Heap.le.refl _) ?_
  exact ⟨rfl, rfl⟩

set_option maxRecDepth 100000 in
theorem pRising_calls (l : List Int) (tl : Tail) (hl : l.length ≤ 1000000) (h64 : I64s l) (H : Heap) : ACall Try.prog 37 [.slice 1 (l.map (.int .i64)) tl] H (fun x H' => ∃ a c, x = .mslice a (pRising l).length c ∧ H.le H' ∧ MRow (fun b => H.objs b = none) H' a (pRising l) c) := by
  refine ACall.of_body Try.func37 rfl Try.ntmps37 Try.results37 rfl ?_
  refine AWP.seq ?_
  -- region 0
  refine AWP.region ?_
  refine AList.p rfl (pure_assign (ev_nil (sz := 1) (tl := .full))) ?_
  refine AList.nil ?_
  refine Next.go ?_
  refine AWP.seq ?_
  -- region 1
  refine AWP.region ?_
  refine AList.p rfl (pure_move (.tmp _ _ rfl)) ?_
  refine AList.s rfl (step_call0 Try.call33 (.cons (.tmp _ _ rfl) .nil) (CloneM_calls _ _ _ (by omega))) ?_
  rintro _ _ ⟨a, c, rfl, hle, hm⟩
  refine AList.s rfl (step_call0 Try.call59 (.cons (.tmp _ _ rfl) (.cons (.func _) .nil)) (DeleteFuncM_calls _ _ _ _ _ hm (by omega) 60 [] (fun x => decide ((At x).col < 0)) Try.call60 (fun x H hx => risingP_calls x (h64 x hx) H))) ?_
  rintro _ _ ⟨rfl, hm1, hs1⟩
  have hle1 := hs1.le hle (fun _ h => h)
  have hl1 := List.length_filter_le (fun x => !decide ((At x).col < 0)) l
  refine AList.p rfl (pure_assign (.tmp _ _ rfl)) ?_
  refine AList.nil ?_
  refine Next.go ?_
  refine AWP.seq ?_
  -- region 2
  refine AWP.region ?_
  refine AList.p rfl (pure_move (.tmp _ _ rfl)) ?_
  refine AList.s rfl (step_call0 Try.call57 (.cons (.tmp _ _ rfl) .nil) (SortM_calls _ _ _ _ _ hm1 (by omega))) ?_
  rintro _ _ ⟨rfl, hm2, hs2⟩
  have hle2 := hs2.le hle1 (fun _ h => h)
  have hl2 : ((l.filter fun x => !decide ((At x).col < 0)).mergeSort fun x y => decide (x ≤ y)).length = (l.filter fun x => !decide ((At x).col < 0)).length := List.length_mergeSort _
  refine AList.nil ?_
  refine Next.go ?_
  refine AWP.seq ?_
  -- region 3
  refine AWP.region ?_
  refine AList.p rfl (pure_move (.tmp _ _ rfl)) ?_
  refine AList.s rfl (step_call0 Try.call61 (.cons (.tmp _ _ rfl) .nil) (by have := CompactM_calls _ _ _ _ _ hm2 (by omega); rwa [hl2] at this)) ?_
  rintro _ _ ⟨rfl, hm3, hs3⟩
  have hle3 := hs3.le hle2 (fun _ h => h)
  refine AList.p rfl (pure_assign (.tmp _ _ rfl)) ?_
  refine AList.nil ?_
  refine Next.go ?_
  refine AWP.ret ?_
  -- ret 0
  refine Ret.go (.cons (.tmp _ _ rfl) .nil) _ (Heap.le.refl _) ?_
  exact ⟨a, c, rfl, hle3, hm3⟩

end Go.Proofs.Ytdibiongjkmlpaa
