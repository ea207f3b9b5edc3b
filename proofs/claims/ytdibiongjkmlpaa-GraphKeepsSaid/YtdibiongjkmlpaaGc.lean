/-
  The reference's graph: a list of nodes in a box.
-/
import Derived.Test.YtdibiongjkmlpaaGb
namespace Go.Proofs.Ytdibiongjkmlpaa
open Go Go.RowKit

structure Node where
  at_ : Int
  areas : List Area
def Node.av (n : Node) : AV := .agg [.int .i64 n.at_, .slice 8 (n.areas.map Area.av) .shared]
/-- The reference's graph in a box. -/
def RBox (H : Heap) (b : Nat) (G : List Node) : Prop := H.objs b = some (.box 56 [.slice 2 (G.map Node.av) .shared])
theorem RBox.mono {H H1 : Heap} {b : Nat} {G : List Node} (h : RBox H b G) (hl : H.le H1) : RBox H1 b G := hl.objs _ _ h
def rAreas (G : List Node) (at_ : Int) : List Area := match G.find? (fun n => decide (n.at_ = at_)) with | some n => n.areas | none => []
def rCells (G : List Node) : List Int := G.map Node.at_
def inA (c : Int) (x : Area) : Bool := (At c).ok && Inside (At c) x.a x.b
def rNeeds (G : List Node) (k c : Int) : Bool := (rAreas G k).any (inA c)
def rNeedsOne (G : List Node) (k : Int) (l : List Int) : Bool := l.any (rNeeds G k)
def rDirect (G : List Node) (c : Int) : List Int := (rCells G).filter fun k => rNeeds G k c
theorem row_node (l : List Node) : ∀ x, x ∈ l.map Node.av → x.row 2 := row_map (f := Node.av) (fun _ => ⟨rfl, rfl⟩) l
theorem row_area (l : List Area) : ∀ x, x ∈ l.map Area.av → x.row 8 := row_map (f := Area.av) (fun _ => ⟨rfl, rfl⟩) l
theorem find_take {G : List Node} {c : Int} {i : Nat} (h : i < G.length) (hp : ∀ n, n ∈ G.take i → n.at_ ≠ c) (he : G[i].at_ = c) : rAreas G c = G[i].areas := by
  have : G.find? (fun n => decide (n.at_ = c)) = some G[i] := by
    have h1 : G.find? (fun n => decide (n.at_ = c)) = (G.take i ++ G.drop i).find? (fun n => decide (n.at_ = c)) := by rw [List.take_append_drop]
    rw [h1, List.find?_append, List.find?_eq_none.2 (fun n hn => by simpa using hp n hn), List.drop_eq_getElem_cons h, List.find?_cons]
    simp [he]
  rw [rAreas, this]
theorem find_none {G : List Node} {c : Int} (hp : ∀ n, n ∈ G → n.at_ ≠ c) : rAreas G c = [] := by
  have : G.find? (fun n => decide (n.at_ = c)) = none := List.find?_eq_none.2 (fun n hn => by simpa using hp n hn)
  rw [rAreas, this]

def rareas_J (b : Nat) (G : List Node) (c : Int) (H : Heap) : Nat → Env → Heap → Prop := fun k env H1 => ∃ i : Nat, i ≤ G.length ∧ (∀ n, n ∈ G.take i → n.at_ ≠ c) ∧ env = [(0, .ptr (some ⟨b, 0, none⟩)), (1, .int .i64 c), (5, .int .i64 i)] ∧ H = H1 ∧ k = G.length - i

set_option maxRecDepth 100000 in
theorem rAreas_calls (b : Nat) (G : List Node) (hG : G.length ≤ 10000) (c : Int) (H : Heap) (hb : RBox H b G) : ACall Try.prog 26 [.ptr (some ⟨b, 0, none⟩), .int .i64 c] H (fun x H' => x = .slice 8 ((rAreas G c).map Area.av) .shared ∧ H = H') := by
  refine ACall.of_body Try.func26 rfl Try.ntmps26 Try.results26 rfl ?_
  refine AWP.seq ?_
  -- region 0
  refine AWP.region ?_
  refine AList.p rfl (pure_assign (ev_nil (sz := 8) (tl := .full))) ?_
  refine AList.nil ?_
  refine Next.go ?_
  refine AWP.seq ?_
  refine AWP.seq ?_
  -- region 1
  refine AWP.region ?_
  refine AList.p rfl (pure_assign ev_int) ?_
  refine AList.nil ?_
  refine Next.go ?_
  refine AWP.block ?_
  -- L0
  refine AWP.loopW (rareas_J b G c H) (G.length) ⟨0, Nat.zero_le _, by simp, rfl, rfl, by omega⟩ (sub_c rfl (sub_c rfl (sub_c rfl sub_n))) (Heap.le.refl _) ?_
  rintro _ _ H1 ⟨i, hi, hp, rfl, rfl, rfl⟩
  refine AWP.seq ?_
  refine AWP.seq ?_
  -- region 2
  refine AWP.region ?_
  refine AList.p rfl (pure_move (.tmp _ _ rfl)) ?_
  refine AList.p rfl (pure_move (.tmp _ _ rfl)) ?_
  first | (refine AList.p rfl (pure_nilCheckI (.tmp _ _ rfl)) ?_) | (refine AList.p rfl (pure_nilCheck (.tmp _ _ rfl)) ?_) | (refine AList.p rfl (pure_nilCheckF (.tmp _ _ rfl)) ?_)
  first | (refine AList.p rfl (pure_fieldI Try.underlying56 rfl Try.sizeOf54 (.tmp _ _ rfl)) ?_) | (refine AList.p rfl (pure_field Try.underlying56 rfl Try.sizeOf54 (.tmp _ _ rfl)) ?_)
  first | (refine AList.p rfl (pure_load1 Try.isAgg54 (.tmp _ _ rfl)) ?_) | (refine AList.s rfl (step_load1 Try.isAgg54 (.tmp _ _ rfl) (by first | exact hb | assumption | exact (by assumption : Heap.le _ _).objs _ _ (by assumption) | exact Heap.objs_set_same _ _ _ | exact (Heap.objs_set_ne _ _ (by assumption)).trans (Heap.objs_set_same _ _ _) | exact (Heap.objs_set_ne _ _ (by assumption)).trans ((Heap.objs_set_ne _ _ (by assumption)).trans (Heap.objs_set_same _ _ _)) | exact (Heap.objs_set_ne _ _ (by assumption)).trans (by assumption)) rfl) ?_; rintro _ _ ⟨rfl, hH⟩; obtain rfl := hH.symm)
  first | (refine AList.p rfl (pure_lenL Try.underlying54 (.tmp _ _ rfl)) ?_) | (refine AList.p rfl (pure_lenS Try.underlying54 (.tmp _ _ rfl)) ?_) | (refine AList.p rfl (pure_lenM Try.underlying54 (.tmp _ _ rfl)) ?_)
  refine AList.p rfl (pure_lss (.tmp _ _ rfl) (.tmp _ _ rfl)) ?_
  refine AList.nil ?_
  refine Next.go ?_
  -- c0
  refine AWP.cond (.tmp _ _ rfl) (fun hc12 => ?_) (fun hc12 => ?_)
  · try simp only [decide_eq_true_eq] at hc12
    refine AWP.skip ?_
    refine Next.go ?_
    refine AWP.seq ?_
    refine AWP.block ?_
    refine AWP.seq ?_
    -- region 4
    refine AWP.region ?_
    refine AList.p rfl (pure_move (.tmp _ _ rfl)) ?_
    first | (refine AList.p rfl (pure_nilCheckI (.tmp _ _ rfl)) ?_) | (refine AList.p rfl (pure_nilCheck (.tmp _ _ rfl)) ?_) | (refine AList.p rfl (pure_nilCheckF (.tmp _ _ rfl)) ?_)
    first | (refine AList.p rfl (pure_fieldI Try.underlying56 rfl Try.sizeOf54 (.tmp _ _ rfl)) ?_) | (refine AList.p rfl (pure_field Try.underlying56 rfl Try.sizeOf54 (.tmp _ _ rfl)) ?_)
    first | (refine AList.p rfl (pure_load1 Try.isAgg54 (.tmp _ _ rfl)) ?_) | (refine AList.s rfl (step_load1 Try.isAgg54 (.tmp _ _ rfl) (by first | exact hb | assumption | exact (by assumption : Heap.le _ _).objs _ _ (by assumption) | exact Heap.objs_set_same _ _ _ | exact (Heap.objs_set_ne _ _ (by assumption)).trans (Heap.objs_set_same _ _ _) | exact (Heap.objs_set_ne _ _ (by assumption)).trans ((Heap.objs_set_ne _ _ (by assumption)).trans (Heap.objs_set_same _ _ _)) | exact (Heap.objs_set_ne _ _ (by assumption)).trans (by assumption)) rfl) ?_; rintro _ _ ⟨rfl, hH⟩; obtain rfl := hH.symm)
    refine AList.p rfl (pure_move (.tmp _ _ rfl)) ?_
    first | (refine AList.p rfl (pure_indexL Try.underlying54 Try.sizeOf70 (.tmp _ _ rfl) (.tmp _ _ rfl) (by omega) (by omega)) ?_) | (refine AList.p rfl (pure_indexM Try.underlying54 Try.sizeOf70 (.tmp _ _ rfl) (.tmp _ _ rfl) (by omega) (by omega)) ?_)
    first | (refine AList.p rfl (pure_fieldI Try.underlying70 rfl Try.sizeOf3 (.tmp _ _ rfl)) ?_) | (refine AList.p rfl (pure_field Try.underlying70 rfl Try.sizeOf3 (.tmp _ _ rfl)) ?_)
    first | (refine AList.p rfl (pure_load1 Try.isAgg3 (.tmp _ _ rfl)) ?_) | (refine AList.s rfl (step_load1 Try.isAgg3 (.tmp _ _ rfl) (by first | exact hb | assumption | exact (by assumption : Heap.le _ _).objs _ _ (by assumption) | exact Heap.objs_set_same _ _ _ | exact (Heap.objs_set_ne _ _ (by assumption)).trans (Heap.objs_set_same _ _ _) | exact (Heap.objs_set_ne _ _ (by assumption)).trans ((Heap.objs_set_ne _ _ (by assumption)).trans (Heap.objs_set_same _ _ _)) | exact (Heap.objs_set_ne _ _ (by assumption)).trans (by assumption)) rfl) ?_; rintro _ _ ⟨rfl, hH⟩; obtain rfl := hH.symm)
    refine AList.p rfl (pure_move (.tmp _ _ rfl)) ?_
    refine AList.p rfl (pure_eql (.tmp _ _ rfl) (.tmp _ _ rfl)) ?_
    refine AList.nil ?_
    refine Next.go ?_
    -- c1
    refine AWP.cond (.tmp _ _ rfl) (fun hc24 => ?_) (fun hc24 => ?_)
    · try simp only [decide_eq_true_eq] at hc24
      refine AWP.seq ?_
      -- region 5
      refine AWP.region ?_
      refine AList.p rfl (pure_move (.tmp _ _ rfl)) ?_
      first | (refine AList.p rfl (pure_nilCheckI (.tmp _ _ rfl)) ?_) | (refine AList.p rfl (pure_nilCheck (.tmp _ _ rfl)) ?_) | (refine AList.p rfl (pure_nilCheckF (.tmp _ _ rfl)) ?_)
      first | (refine AList.p rfl (pure_fieldI Try.underlying56 rfl Try.sizeOf54 (.tmp _ _ rfl)) ?_) | (refine AList.p rfl (pure_field Try.underlying56 rfl Try.sizeOf54 (.tmp _ _ rfl)) ?_)
      first | (refine AList.p rfl (pure_load1 Try.isAgg54 (.tmp _ _ rfl)) ?_) | (refine AList.s rfl (step_load1 Try.isAgg54 (.tmp _ _ rfl) (by first | exact hb | assumption | exact (by assumption : Heap.le _ _).objs _ _ (by assumption) | exact Heap.objs_set_same _ _ _ | exact (Heap.objs_set_ne _ _ (by assumption)).trans (Heap.objs_set_same _ _ _) | exact (Heap.objs_set_ne _ _ (by assumption)).trans ((Heap.objs_set_ne _ _ (by assumption)).trans (Heap.objs_set_same _ _ _)) | exact (Heap.objs_set_ne _ _ (by assumption)).trans (by assumption)) rfl) ?_; rintro _ _ ⟨rfl, hH⟩; obtain rfl := hH.symm)
      refine AList.p rfl (pure_move (.tmp _ _ rfl)) ?_
      first | (refine AList.p rfl (pure_indexL Try.underlying54 Try.sizeOf70 (.tmp _ _ rfl) (.tmp _ _ rfl) (by omega) (by omega)) ?_) | (refine AList.p rfl (pure_indexM Try.underlying54 Try.sizeOf70 (.tmp _ _ rfl) (.tmp _ _ rfl) (by omega) (by omega)) ?_)
      first | (refine AList.p rfl (pure_fieldI Try.underlying70 rfl Try.sizeOf41 (.tmp _ _ rfl)) ?_) | (refine AList.p rfl (pure_field Try.underlying70 rfl Try.sizeOf41 (.tmp _ _ rfl)) ?_)
      first | (refine AList.p rfl (pure_load1 Try.isAgg41 (.tmp _ _ rfl)) ?_) | (refine AList.s rfl (step_load1 Try.isAgg41 (.tmp _ _ rfl) (by first | exact hb | assumption | exact (by assumption : Heap.le _ _).objs _ _ (by assumption) | exact Heap.objs_set_same _ _ _ | exact (Heap.objs_set_ne _ _ (by assumption)).trans (Heap.objs_set_same _ _ _) | exact (Heap.objs_set_ne _ _ (by assumption)).trans ((Heap.objs_set_ne _ _ (by assumption)).trans (Heap.objs_set_same _ _ _)) | exact (Heap.objs_set_ne _ _ (by assumption)).trans (by assumption)) rfl) ?_; rintro _ _ ⟨rfl, hH⟩; obtain rfl := hH.symm)
      refine AList.p rfl (pure_assign (.tmp _ _ rfl)) ?_
      refine AList.nil ?_
      refine Next.go ?_
      refine AWP.ret ?_
      refine Block.rt ?_
      refine Next.rt ?_
      refine Next.rt ?_
      refine Block.rt ?_
      refine Next.rt ?_
      -- ret 0
      refine Ret.go (.cons (.weak _ _ _ rfl (.slice _ _ _)) .nil) _ (Heap.le.refl _) ?_
      refine ⟨?_, rfl⟩
      simp only [Int.toNat_natCast] at hc24
      rw [find_take (by omega) hp (by simpa using hc24)]
      simp [packed]
    · try simp only [decide_eq_false_iff_not] at hc24
      refine AWP.skip ?_
      refine Block.go ?_
      refine Next.go ?_
      -- region 3
      refine AWP.region ?_
      refine AList.p rfl (pure_move (.tmp _ _ rfl)) ?_
      refine AList.p rfl (pure_add (.tmp _ _ rfl) ev_int (by omega)) ?_
      refine AList.p rfl (pure_assign (.tmp _ _ rfl)) ?_
      refine AList.nil ?_
      refine Next.go ?_
      refine Round.mk (J := rareas_J b G c H) ⟨i + 1, by omega, by rw [take_succ_get G i (by omega)]; intro n hn; rcases List.mem_append.1 hn with h | h <;> first | exact hp n h | (simp at h; subst h; simpa using hc24), rfl, rfl, rfl⟩ (sub_c rfl (sub_c rfl (sub_c rfl sub_n))) (Heap.le.refl _) (by omega)
  · try simp only [decide_eq_false_iff_not, Int.not_lt] at hc12
    refine AWP.exit ?_
    refine Next.ex ?_
    refine Next.ex ?_
    refine Block.hit ?_
    refine Next.go ?_
    refine AWP.seq ?_
    -- region 6
    refine AWP.region ?_
    refine AList.p rfl (pure_assign (ev_nil (sz := 8) (tl := .full))) ?_
    refine AList.nil ?_
    refine Next.go ?_
    refine AWP.ret ?_
    -- ret 1
    refine Ret.go (.cons (.weak _ _ _ rfl (.slice _ _ _)) .nil) _ (Heap.le.refl _) ?_
    refine ⟨?_, rfl⟩
    rw [List.take_of_length_le (by omega)] at hp
    rw [find_none hp]
    rfl

def rcells_J (b : Nat) (G : List Node) (H : Heap) : Nat → Env → Heap → Prop := fun k env H1 => ∃ (i t : Nat), i ≤ G.length ∧ env = [(0, .ptr (some ⟨b, 0, none⟩)), (3, .slice 1 ((rCells (G.take i)).map (.int .i64)) (.own t)), (4, .int .i64 i)] ∧ H.le H1 ∧ H1.toks t = true ∧ H.toks t = false ∧ k = G.length - i

set_option maxRecDepth 100000 in
theorem rCells_calls (b : Nat) (G : List Node) (hG : G.length ≤ 10000) (H : Heap) (hb : RBox H b G) : ACall Try.prog 22 [.ptr (some ⟨b, 0, none⟩)] H (fun x H' => x = .slice 1 ((rCells G).map (.int .i64)) .shared ∧ H = H') := by
  have hle := Heap.le.refl H
  refine ACall.of_body Try.func22 rfl Try.ntmps22 Try.results22 rfl ?_
  refine AWP.seq ?_
  -- region 0
  refine AWP.region ?_
  refine AList.p rfl (pure_assign (ev_nil (sz := 1) (tl := .full))) ?_
  refine AList.nil ?_
  refine Next.go ?_
  refine AWP.seq ?_
  -- region 1
  refine AWP.region ?_
  refine AList.p rfl (pure_assign (ev_nil (sz := 1) (tl := .full))) ?_
  refine AList.nil ?_
  refine Next.go ?_
  refine AWP.seq ?_
  refine AWP.seq ?_
  -- region 2
  refine AWP.region ?_
  refine AList.p rfl (pure_assign ev_int) ?_
  refine AList.nil ?_
  refine Next.go ?_
  refine AWP.block ?_
  -- L0
  refine AWP.tag (t := 3) rfl (fun u3 hu3 => ?_)
  have hfu3 := Heap.fresh_of hle hu3
  have hleu3 := Heap.le_in hle u3
  refine AWP.loopW (rcells_J b G H) (G.length) ⟨0, u3, Nat.zero_le _, rfl, hleu3, Heap.toks_live_same _ _, hfu3, by omega⟩ (sub_c rfl (sub_c rfl (sub_c rfl sub_n))) (Heap.le.refl _) ?_
  rintro _ _ H1 ⟨i, t, hi, rfl, hle, hlive, hfr, rfl⟩
  refine AWP.seq ?_
  refine AWP.seq ?_
  -- region 3
  refine AWP.region ?_
  refine AList.p rfl (pure_move (.tmp _ _ rfl)) ?_
  refine AList.p rfl (pure_move (.tmp _ _ rfl)) ?_
  first | (refine AList.p rfl (pure_nilCheckI (.tmp _ _ rfl)) ?_) | (refine AList.p rfl (pure_nilCheck (.tmp _ _ rfl)) ?_) | (refine AList.p rfl (pure_nilCheckF (.tmp _ _ rfl)) ?_)
  first | (refine AList.p rfl (pure_fieldI Try.underlying56 rfl Try.sizeOf54 (.tmp _ _ rfl)) ?_) | (refine AList.p rfl (pure_field Try.underlying56 rfl Try.sizeOf54 (.tmp _ _ rfl)) ?_)
  first | (refine AList.p rfl (pure_load1 Try.isAgg54 (.tmp _ _ rfl)) ?_) | (refine AList.s rfl (step_load1 Try.isAgg54 (.tmp _ _ rfl) (by first | exact hb | exact hle.objs _ _ hb | assumption | exact (by assumption : Heap.le _ _).objs _ _ (by assumption) | exact Heap.objs_set_same _ _ _ | exact (Heap.objs_set_ne _ _ (by assumption)).trans (Heap.objs_set_same _ _ _) | exact (Heap.objs_set_ne _ _ (by assumption)).trans ((Heap.objs_set_ne _ _ (by assumption)).trans (Heap.objs_set_same _ _ _)) | exact (Heap.objs_set_ne _ _ (by assumption)).trans (by assumption)) rfl) ?_; rintro _ _ ⟨rfl, hH⟩; obtain rfl := hH.symm)
  first | (refine AList.p rfl (pure_lenL Try.underlying54 (.tmp _ _ rfl)) ?_) | (refine AList.p rfl (pure_lenS Try.underlying54 (.tmp _ _ rfl)) ?_) | (refine AList.p rfl (pure_lenM Try.underlying54 (.tmp _ _ rfl)) ?_)
  refine AList.p rfl (pure_lss (.tmp _ _ rfl) (.tmp _ _ rfl)) ?_
  refine AList.nil ?_
  refine Next.go ?_
  -- c0
  refine AWP.cond (.tmp _ _ rfl) (fun hc11 => ?_) (fun hc11 => ?_)
  · try simp only [decide_eq_true_eq] at hc11
    refine AWP.skip ?_
    refine Next.go ?_
    refine AWP.seq ?_
    refine AWP.block ?_
    -- region 5
    refine AWP.region ?_
    refine AList.p rfl (pure_move (.tmp _ _ rfl)) ?_
    refine AList.p rfl (pure_move (.tmp _ _ rfl)) ?_
    first | (refine AList.p rfl (pure_nilCheckI (.tmp _ _ rfl)) ?_) | (refine AList.p rfl (pure_nilCheck (.tmp _ _ rfl)) ?_) | (refine AList.p rfl (pure_nilCheckF (.tmp _ _ rfl)) ?_)
    first | (refine AList.p rfl (pure_fieldI Try.underlying56 rfl Try.sizeOf54 (.tmp _ _ rfl)) ?_) | (refine AList.p rfl (pure_field Try.underlying56 rfl Try.sizeOf54 (.tmp _ _ rfl)) ?_)
    first | (refine AList.p rfl (pure_load1 Try.isAgg54 (.tmp _ _ rfl)) ?_) | (refine AList.s rfl (step_load1 Try.isAgg54 (.tmp _ _ rfl) (by first | exact hb | exact hle.objs _ _ hb | assumption | exact (by assumption : Heap.le _ _).objs _ _ (by assumption) | exact Heap.objs_set_same _ _ _ | exact (Heap.objs_set_ne _ _ (by assumption)).trans (Heap.objs_set_same _ _ _) | exact (Heap.objs_set_ne _ _ (by assumption)).trans ((Heap.objs_set_ne _ _ (by assumption)).trans (Heap.objs_set_same _ _ _)) | exact (Heap.objs_set_ne _ _ (by assumption)).trans (by assumption)) rfl) ?_; rintro _ _ ⟨rfl, hH⟩; obtain rfl := hH.symm)
    refine AList.p rfl (pure_move (.tmp _ _ rfl)) ?_
    first | (refine AList.p rfl (pure_indexL Try.underlying54 Try.sizeOf70 (.tmp _ _ rfl) (.tmp _ _ rfl) (by omega) (by omega)) ?_) | (refine AList.p rfl (pure_indexM Try.underlying54 Try.sizeOf70 (.tmp _ _ rfl) (.tmp _ _ rfl) (by omega) (by omega)) ?_)
    first | (refine AList.p rfl (pure_fieldI Try.underlying70 rfl Try.sizeOf3 (.tmp _ _ rfl)) ?_) | (refine AList.p rfl (pure_field Try.underlying70 rfl Try.sizeOf3 (.tmp _ _ rfl)) ?_)
    first | (refine AList.p rfl (pure_load1 Try.isAgg3 (.tmp _ _ rfl)) ?_) | (refine AList.s rfl (step_load1 Try.isAgg3 (.tmp _ _ rfl) (by first | exact hb | exact hle.objs _ _ hb | assumption | exact (by assumption : Heap.le _ _).objs _ _ (by assumption) | exact Heap.objs_set_same _ _ _ | exact (Heap.objs_set_ne _ _ (by assumption)).trans (Heap.objs_set_same _ _ _) | exact (Heap.objs_set_ne _ _ (by assumption)).trans ((Heap.objs_set_ne _ _ (by assumption)).trans (Heap.objs_set_same _ _ _)) | exact (Heap.objs_set_ne _ _ (by assumption)).trans (by assumption)) rfl) ?_; rintro _ _ ⟨rfl, hH⟩; obtain rfl := hH.symm)
    refine AList.s rfl (step_bs1 Try.underlying23 Try.sizeOf3 Try.zeroValue3 rfl (.tmp _ _ rfl) (.inl rfl) ⟨rfl, rfl⟩) ?_
    rintro _ _ ⟨rfl, hH⟩
    obtain rfl := hH.symm
    refine AList.s rfl (step_append Try.underlying23 Try.underlying23 Try.sizeOf3 Try.typeInfo3 Try.zeroValue3 rfl (by decide) (.tmp _ _ rfl) (.tmp _ _ rfl) (by exact .own _ (by first | assumption | exact Heap.toks_live_same _ _)) (by show (_ + _) * 8 ≤ _; simp [rCells]; omega) (by repeat' (first | exact row_int _ | exact row_n | exact row_c ⟨rfl, rfl⟩ row_n | exact row_drop (row_int _) | exact row_take (row_int _) | refine row_app ?_ ?_)) (by repeat' (first | exact row_int _ | exact row_n | exact row_c ⟨rfl, rfl⟩ row_n | exact row_drop (row_int _) | exact row_take (row_int _) | refine row_app ?_ ?_))) ?_
    rintro _ _ ⟨t24, ht24, rfl, hH⟩
    obtain rfl := hH.symm
    have hf24 := Heap.fresh_of hle ht24
    have hle24 := Heap.le_in (Heap.le_out (t := t) hle (by assumption)) t24
    refine AList.p rfl (pure_assign (.tmp _ _ rfl)) ?_
    refine AList.nil ?_
    refine Block.go ?_
    refine Next.go ?_
    -- region 4
    refine AWP.region ?_
    refine AList.p rfl (pure_move (.tmp _ _ rfl)) ?_
    refine AList.p rfl (pure_add (.tmp _ _ rfl) ev_int (by omega)) ?_
    refine AList.p rfl (pure_assign (.tmp _ _ rfl)) ?_
    refine AList.nil ?_
    refine Next.go ?_
    refine Round.mk (J := rcells_J b G H) ⟨i + 1, t24, by omega, rfl, hle24, Heap.toks_live_same _ _, hf24, rfl⟩ (sub_c rfl (sub_e rfl (slice_eq (by rw [take_succ_get G i (by omega)]; simp only [rCells, List.map_append, List.map_cons, List.map_nil, Int.toNat_natCast])) (sub_c rfl sub_n))) (Heap.le.refl _) (by omega)
  · try simp only [decide_eq_false_iff_not, Int.not_lt] at hc11
    refine AWP.exit ?_
    refine Next.ex ?_
    refine Next.ex ?_
    refine Block.hit ?_
    refine Next.go ?_
    refine AWP.seq ?_
    -- region 6
    refine AWP.region ?_
    refine AList.p rfl (pure_move (.tmp _ _ rfl)) ?_
    refine AList.p rfl (pure_assign (.tmp _ _ rfl)) ?_
    refine AList.nil ?_
    refine Next.go ?_
    refine AWP.ret ?_
    -- ret 0
    refine Ret.go (.cons (.weak _ _ _ rfl (.slice _ _ _)) .nil) _ (hle) ?_
    refine ⟨slice_eq ?_, rfl⟩
    rw [List.take_of_length_le (by omega)]

def rneeds_J (b : Nat) (l : List Area) (k0 c : Int) (H : Heap) : Nat → Env → Heap → Prop := fun k env H1 => ∃ i : Nat, i ≤ l.length ∧ (l.take i).any (inA c) = false ∧ env = [(7, .slice 8 (l.map Area.av) .shared), (8, .iptr [.int .i64 (At c).col, .int .i64 (At c).row, .bool (At c).ac, .bool (At c).ar]), (9, .int .i64 i)] ∧ H = H1 ∧ k = l.length - i

set_option maxRecDepth 100000 in
theorem rNeeds_calls (b : Nat) (G : List Node) (hG : G.length ≤ 10000) (hA : ∀ n, n ∈ G → n.areas.length ≤ 10000) (at_ c : Int) (hc : -9223372036854775808 ≤ c ∧ c ≤ 9223372036854775807) (H : Heap) (hb : RBox H b G) : ACall Try.prog 46 [.ptr (some ⟨b, 0, none⟩), .int .i64 at_, .int .i64 c] H (fun x H' => x = .bool (rNeeds G at_ c) ∧ H = H') := by
  have hle := Heap.le.refl H
  have hal : (rAreas G at_).length ≤ 10000 := by
    unfold rAreas
    split
    · rename_i n hn; exact hA n (List.mem_of_find?_eq_some hn)
    · simp
  refine ACall.of_body Try.func46 rfl Try.ntmps46 Try.results46 rfl ?_
  refine AWP.seq ?_
  -- region 0
  refine AWP.region ?_
  refine AList.p rfl (pure_assign ev_bool) ?_
  refine AList.nil ?_
  refine Next.go ?_
  refine AWP.seq ?_
  -- region 1
  refine AWP.region ?_
  refine AList.p rfl (pure_move (.tmp _ _ rfl)) ?_
  refine AList.p rfl (pure_move (.tmp _ _ rfl)) ?_
  refine AList.s rfl (step_call0 Try.call26 (.cons (.tmp _ _ rfl) (.cons (.tmp _ _ rfl) .nil)) (rAreas_calls _ _ (by assumption) _ _ (hb.mono hle))) ?_
  rintro _ _ ⟨rfl, rfl⟩
  refine AList.p rfl (pure_assign (.tmp _ _ rfl)) ?_
  refine AList.nil ?_
  refine Next.go ?_
  refine AWP.seq ?_
  -- region 2
  refine AWP.region ?_
  refine AList.p rfl (pure_move (.tmp _ _ rfl)) ?_
  refine AList.s rfl (step_call0 Try.call54 (.cons (.tmp _ _ rfl) .nil) (refAt_calls _ (by first | assumption | omega) _)) ?_
  rintro _ _ ⟨rfl, hH⟩
  obtain rfl := hH.symm
  refine AList.s rfl (step_alloc Try.zeroValue50 (zr50)) ?_
  rintro _ _ ⟨b8, hb8, rfl, hH⟩
  obtain rfl := hH.symm
  refine AList.s0 (step_store Try.sizeOf50 (.tmp _ _ rfl) (.tmp _ _ rfl) rfl rfl (.inr ⟨_, rfl⟩) (by first | exact hb | assumption | exact (by assumption : Heap.le _ _).objs _ _ (by assumption) | exact Heap.objs_set_same _ _ _ | exact (Heap.objs_set_ne _ _ (by assumption)).trans (Heap.objs_set_same _ _ _) | exact (Heap.objs_set_ne _ _ (by assumption)).trans ((Heap.objs_set_ne _ _ (by assumption)).trans (Heap.objs_set_same _ _ _)) | exact (Heap.objs_set_ne _ _ (by assumption)).trans (by assumption)) (Nat.le_of_ble_eq_true rfl)) ?_
  rintro _ _ ⟨rfl, hH⟩
  obtain rfl := hH.symm
  try first | rw [Heap.set_set] | rw [Heap.set_under (by assumption)]
  refine AList.nil ?_
  refine Next.go ?_
  refine AWP.frz (t := 8) rfl (by first | exact hb8 | exact Heap.fresh_set hb8 _) ?_
  refine AWP.seq ?_
  refine AWP.seq ?_
  -- region 3
  refine AWP.region ?_
  refine AList.p rfl (pure_assign ev_int) ?_
  refine AList.nil ?_
  refine Next.go ?_
  refine AWP.block ?_
  -- L0
  refine AWP.loopW (rneeds_J b (rAreas G at_) at_ c H) ((rAreas G at_).length) ⟨0, Nat.zero_le _, by simp, rfl, rfl, by omega⟩ (sub_c rfl (sub_c rfl (sub_c rfl sub_n))) (Heap.le.refl _) ?_
  rintro _ _ H1 ⟨i, hi, hp, rfl, rfl, rfl⟩
  refine AWP.seq ?_
  refine AWP.seq ?_
  -- region 4
  refine AWP.region ?_
  refine AList.p rfl (pure_move (.tmp _ _ rfl)) ?_
  refine AList.p rfl (pure_move (.tmp _ _ rfl)) ?_
  first | (refine AList.p rfl (pure_lenL Try.underlying41 (.tmp _ _ rfl)) ?_) | (refine AList.p rfl (pure_lenS Try.underlying41 (.tmp _ _ rfl)) ?_) | (refine AList.p rfl (pure_lenM Try.underlying41 (.tmp _ _ rfl)) ?_)
  refine AList.p rfl (pure_lss (.tmp _ _ rfl) (.tmp _ _ rfl)) ?_
  refine AList.nil ?_
  refine Next.go ?_
  -- c0
  refine AWP.cond (.tmp _ _ rfl) (fun hc19 => ?_) (fun hc19 => ?_)
  · try simp only [decide_eq_true_eq] at hc19
    refine AWP.skip ?_
    refine Next.go ?_
    refine AWP.seq ?_
    refine AWP.block ?_
    refine AWP.seq ?_
    -- region 6
    refine AWP.draw [(0, true), (1, true), (2, true), (3, true), (4, true), (5, true), (6, true), (7, true), (8, true), (9, true), (10, true), (11, true), (12, true)] rfl (by decide +kernel) ?_
    first | (refine APlan.p rfl rfl (pure_loadN Try.isAgg50 Try.sizeOf50 (.tmp _ _ rfl) (Nat.le_of_ble_eq_true rfl)) ?_) | (refine APlan.f rfl rfl (fun _ => step_loadN Try.isAgg50 Try.sizeOf50 (.tmp _ _ rfl) (by first | exact hb | assumption | exact (by assumption : Heap.le _ _).objs _ _ (by assumption) | exact Heap.objs_set_same _ _ _ | exact (Heap.objs_set_ne _ _ (by assumption)).trans (Heap.objs_set_same _ _ _) | exact (Heap.objs_set_ne _ _ (by assumption)).trans ((Heap.objs_set_ne _ _ (by assumption)).trans (Heap.objs_set_same _ _ _)) | exact (Heap.objs_set_ne _ _ (by assumption)).trans (by assumption)) (Nat.le_of_ble_eq_true rfl)) ?_)
    refine APlan.p rfl rfl (pure_move (.tmp _ _ rfl)) ?_
    refine APlan.p rfl rfl (pure_move (.tmp _ _ rfl)) ?_
    first | (refine APlan.p rfl rfl (pure_indexL Try.underlying41 Try.sizeOf60 (.tmp _ _ rfl) (.tmp _ _ rfl) (by omega) (by omega)) ?_) | (refine APlan.p rfl rfl (pure_indexM Try.underlying41 Try.sizeOf60 (.tmp _ _ rfl) (.tmp _ _ rfl) (by omega) (by omega)) ?_)
    first | (refine APlan.p rfl rfl (pure_fieldI Try.underlying60 rfl Try.sizeOf50 (.tmp _ _ rfl)) ?_) | (refine APlan.p rfl rfl (pure_field Try.underlying60 rfl Try.sizeOf50 (.tmp _ _ rfl)) ?_)
    first | (refine APlan.p rfl rfl (pure_loadN Try.isAgg50 Try.sizeOf50 (.tmp _ _ rfl) (Nat.le_of_ble_eq_true rfl)) ?_) | (refine APlan.f rfl rfl (fun _ => step_loadN Try.isAgg50 Try.sizeOf50 (.tmp _ _ rfl) (by first | exact hb | assumption | exact (by assumption : Heap.le _ _).objs _ _ (by assumption) | exact Heap.objs_set_same _ _ _ | exact (Heap.objs_set_ne _ _ (by assumption)).trans (Heap.objs_set_same _ _ _) | exact (Heap.objs_set_ne _ _ (by assumption)).trans ((Heap.objs_set_ne _ _ (by assumption)).trans (Heap.objs_set_same _ _ _)) | exact (Heap.objs_set_ne _ _ (by assumption)).trans (by assumption)) (Nat.le_of_ble_eq_true rfl)) ?_)
    refine APlan.p rfl rfl (pure_move (.tmp _ _ rfl)) ?_
    refine APlan.p rfl rfl (pure_move (.tmp _ _ rfl)) ?_
    first | (refine APlan.p rfl rfl (pure_indexL Try.underlying41 Try.sizeOf60 (.tmp _ _ rfl) (.tmp _ _ rfl) (by omega) (by omega)) ?_) | (refine APlan.p rfl rfl (pure_indexM Try.underlying41 Try.sizeOf60 (.tmp _ _ rfl) (.tmp _ _ rfl) (by omega) (by omega)) ?_)
    first | (refine APlan.p rfl rfl (pure_fieldI Try.underlying60 rfl Try.sizeOf50 (.tmp _ _ rfl)) ?_) | (refine APlan.p rfl rfl (pure_field Try.underlying60 rfl Try.sizeOf50 (.tmp _ _ rfl)) ?_)
    first | (refine APlan.p rfl rfl (pure_loadN Try.isAgg50 Try.sizeOf50 (.tmp _ _ rfl) (Nat.le_of_ble_eq_true rfl)) ?_) | (refine APlan.f rfl rfl (fun _ => step_loadN Try.isAgg50 Try.sizeOf50 (.tmp _ _ rfl) (by first | exact hb | assumption | exact (by assumption : Heap.le _ _).objs _ _ (by assumption) | exact Heap.objs_set_same _ _ _ | exact (Heap.objs_set_ne _ _ (by assumption)).trans (Heap.objs_set_same _ _ _) | exact (Heap.objs_set_ne _ _ (by assumption)).trans ((Heap.objs_set_ne _ _ (by assumption)).trans (Heap.objs_set_same _ _ _)) | exact (Heap.objs_set_ne _ _ (by assumption)).trans (by assumption)) (Nat.le_of_ble_eq_true rfl)) ?_)
    refine APlan.f rfl rfl (fun _ => step_call0 Try.call65 (.cons (.tmp _ _ rfl) (.cons (.tmp _ _ rfl) (.cons (.tmp _ _ rfl) .nil))) (refInside_calls ⟨_, _, _, _⟩ ⟨_, _, _, _⟩ ⟨_, _, _, _⟩ _)) ?_
    refine APlan.p rfl rfl (pure_assign (.tmp _ _ rfl)) ?_
    refine APlan.nil ?_
    refine Next.go ?_
    refine AWP.seq ?_
    -- region 7
    refine AWP.region ?_
    refine AList.p rfl (pure_move (.tmp _ _ rfl)) ?_
    refine AList.nil ?_
    refine Next.go ?_
    -- c1
    refine AWP.cond (.tmp _ _ rfl) (fun hc34 => ?_) (fun hc34 => ?_)
    · try simp only [] at hc34
      refine AWP.seq ?_
      -- region 8
      refine AWP.region ?_
      refine AList.p rfl (pure_assign ev_bool) ?_
      refine AList.nil ?_
      refine Next.go ?_
      refine AWP.ret ?_
      refine Block.rt ?_
      refine Next.rt ?_
      refine Next.rt ?_
      refine Block.rt ?_
      refine Next.rt ?_
      -- ret 0
      refine Ret.go (.cons (.tmp _ _ rfl) .nil) _ (Heap.le.refl _) ?_
      refine ⟨?_, rfl⟩
      have : rNeeds G at_ c = true := List.any_eq_true.2 ⟨_, List.getElem_mem _, hc34⟩
      rw [this]; rfl
    · try simp only [] at hc34
      refine AWP.skip ?_
      refine Block.go ?_
      refine Next.go ?_
      -- region 5
      refine AWP.region ?_
      refine AList.p rfl (pure_move (.tmp _ _ rfl)) ?_
      refine AList.p rfl (pure_add (.tmp _ _ rfl) ev_int (by omega)) ?_
      refine AList.p rfl (pure_assign (.tmp _ _ rfl)) ?_
      refine AList.nil ?_
      refine Next.go ?_
      refine Round.mk (J := rneeds_J b (rAreas G at_) at_ c H) ⟨i + 1, by omega, by rw [take_succ_get _ i (by omega), List.any_append, hp]; simpa [inA] using hc34, rfl, rfl, rfl⟩ (sub_c rfl (sub_c rfl (sub_c rfl sub_n))) (Heap.le.refl _) (by omega)
  · try simp only [decide_eq_false_iff_not, Int.not_lt] at hc19
    refine AWP.exit ?_
    refine Next.ex ?_
    refine Next.ex ?_
    refine Block.hit ?_
    refine Next.go ?_
    refine AWP.seq ?_
    -- region 9
    refine AWP.region ?_
    refine AList.p rfl (pure_assign ev_bool) ?_
    refine AList.nil ?_
    refine Next.go ?_
    refine AWP.ret ?_
    -- ret 1
    refine Ret.go (.cons (.tmp _ _ rfl) .nil) _ (Heap.le.refl _) ?_
    refine ⟨?_, rfl⟩
    rw [List.take_of_length_le (by omega)] at hp
    rw [rNeeds, hp]; rfl

def rone_J (b : Nat) (G : List Node) (k0 : Int) (l : List Int) (tl : Tail) (H : Heap) : Nat → Env → Heap → Prop := fun k env H1 => ∃ i : Nat, i ≤ l.length ∧ (l.take i).any (rNeeds G k0) = false ∧ env = [(0, .ptr (some ⟨b, 0, none⟩)), (1, .int .i64 k0), (2, .slice 1 (l.map (.int .i64)) tl), (7, .int .i64 i)] ∧ H = H1 ∧ k = l.length - i

set_option maxRecDepth 100000 in
theorem rNeedsOne_calls (b : Nat) (G : List Node) (hG : G.length ≤ 10000) (hA : ∀ n, n ∈ G → n.areas.length ≤ 10000) (k0 : Int) (l : List Int) (tl : Tail) (hl : l.length ≤ 100000) (h64 : I64s l) (H : Heap) (hb : RBox H b G) : ACall Try.prog 36 [.ptr (some ⟨b, 0, none⟩), .int .i64 k0, .slice 1 (l.map (.int .i64)) tl] H (fun x H' => x = .bool (rNeedsOne G k0 l) ∧ H = H') := by
  have hle := Heap.le.refl H
  refine ACall.of_body Try.func36 rfl Try.ntmps36 Try.results36 rfl ?_
  refine AWP.seq ?_
  -- region 0
  refine AWP.region ?_
  refine AList.p rfl (pure_assign ev_bool) ?_
  refine AList.nil ?_
  refine Next.go ?_
  refine AWP.seq ?_
  refine AWP.seq ?_
  -- region 1
  refine AWP.region ?_
  refine AList.p rfl (pure_assign ev_int) ?_
  refine AList.nil ?_
  refine Next.go ?_
  refine AWP.block ?_
  -- L0
  refine AWP.loopW (rone_J b G k0 l tl H) (l.length) ⟨0, Nat.zero_le _, by simp, rfl, rfl, by omega⟩ (sub_c rfl (sub_c rfl (sub_c rfl (sub_c rfl sub_n)))) (Heap.le.refl _) ?_
  rintro _ _ H1 ⟨i, hi, hp, rfl, rfl, rfl⟩
  refine AWP.seq ?_
  refine AWP.seq ?_
  -- region 2
  refine AWP.region ?_
  refine AList.p rfl (pure_move (.tmp _ _ rfl)) ?_
  refine AList.p rfl (pure_move (.tmp _ _ rfl)) ?_
  first | (refine AList.p rfl (pure_lenL Try.underlying23 (.tmp _ _ rfl)) ?_) | (refine AList.p rfl (pure_lenS Try.underlying23 (.tmp _ _ rfl)) ?_) | (refine AList.p rfl (pure_lenM Try.underlying23 (.tmp _ _ rfl)) ?_)
  refine AList.p rfl (pure_lss (.tmp _ _ rfl) (.tmp _ _ rfl)) ?_
  refine AList.nil ?_
  refine Next.go ?_
  -- c0
  refine AWP.cond (.tmp _ _ rfl) (fun hc12 => ?_) (fun hc12 => ?_)
  · try simp only [decide_eq_true_eq] at hc12
    refine AWP.skip ?_
    refine Next.go ?_
    refine AWP.seq ?_
    refine AWP.block ?_
    refine AWP.seq ?_
    -- region 4
    refine AWP.region ?_
    refine AList.p rfl (pure_move (.tmp _ _ rfl)) ?_
    refine AList.p rfl (pure_move (.tmp _ _ rfl)) ?_
    refine AList.p rfl (pure_move (.tmp _ _ rfl)) ?_
    refine AList.p rfl (pure_move (.tmp _ _ rfl)) ?_
    first | (refine AList.p rfl (pure_indexL Try.underlying23 Try.sizeOf3 (.tmp _ _ rfl) (.tmp _ _ rfl) (by omega) (by omega)) ?_) | (refine AList.p rfl (pure_indexM Try.underlying23 Try.sizeOf3 (.tmp _ _ rfl) (.tmp _ _ rfl) (by omega) (by omega)) ?_)
    first | (refine AList.p rfl (pure_load1 Try.isAgg3 (.tmp _ _ rfl)) ?_) | (refine AList.s rfl (step_load1 Try.isAgg3 (.tmp _ _ rfl) (by first | exact hb | assumption | exact (by assumption : Heap.le _ _).objs _ _ (by assumption) | exact Heap.objs_set_same _ _ _ | exact (Heap.objs_set_ne _ _ (by assumption)).trans (Heap.objs_set_same _ _ _) | exact (Heap.objs_set_ne _ _ (by assumption)).trans ((Heap.objs_set_ne _ _ (by assumption)).trans (Heap.objs_set_same _ _ _)) | exact (Heap.objs_set_ne _ _ (by assumption)).trans (by assumption)) rfl) ?_; rintro _ _ ⟨rfl, hH⟩; obtain rfl := hH.symm)
    refine AList.s rfl (step_call0 Try.call46 (.cons (.tmp _ _ rfl) (.cons (.tmp _ _ rfl) (.cons (.tmp _ _ rfl) .nil))) (rNeeds_calls _ _ hG hA _ _ (h64.at _ (by omega)) _ (hb.mono hle))) ?_
    rintro _ _ ⟨rfl, rfl⟩
    refine AList.p rfl (pure_assign (.tmp _ _ rfl)) ?_
    refine AList.nil ?_
    refine Next.go ?_
    refine AWP.seq ?_
    -- region 5
    refine AWP.region ?_
    refine AList.p rfl (pure_move (.tmp _ _ rfl)) ?_
    refine AList.nil ?_
    refine Next.go ?_
    -- c1
    refine AWP.cond (.tmp _ _ rfl) (fun hc22 => ?_) (fun hc22 => ?_)
    · try simp only [decide_eq_true_eq, decide_eq_false_iff_not, Bool.not_eq_true', Bool.not_eq_false', Int.not_lt, Int.not_le, ne_eq, Decidable.not_not] at hc22
      refine AWP.seq ?_
      -- region 6
      refine AWP.region ?_
      refine AList.p rfl (pure_assign ev_bool) ?_
      refine AList.nil ?_
      refine Next.go ?_
      refine AWP.ret ?_
      refine Block.rt ?_
      refine Next.rt ?_
      refine Next.rt ?_
      refine Block.rt ?_
      refine Next.rt ?_
      -- ret 0
      refine Ret.go (.cons (.tmp _ _ rfl) .nil) _ (Heap.le.refl _) ?_
      refine ⟨?_, rfl⟩
      have : rNeedsOne G k0 l = true := List.any_eq_true.2 ⟨_, List.getElem_mem _, hc22⟩
      rw [this]; rfl
    · try simp only [decide_eq_true_eq, decide_eq_false_iff_not, Bool.not_eq_true', Bool.not_eq_false', Int.not_lt, Int.not_le, ne_eq, Decidable.not_not] at hc22
      refine AWP.skip ?_
      refine Block.go ?_
      refine Next.go ?_
      -- region 3
      refine AWP.region ?_
      refine AList.p rfl (pure_move (.tmp _ _ rfl)) ?_
      refine AList.p rfl (pure_add (.tmp _ _ rfl) ev_int (by omega)) ?_
      refine AList.p rfl (pure_assign (.tmp _ _ rfl)) ?_
      refine AList.nil ?_
      refine Next.go ?_
      refine Round.mk (J := rone_J b G k0 l tl H) ⟨i + 1, by omega, by rw [take_succ_get l i (by omega), List.any_append, hp]; simpa using hc22, rfl, rfl, rfl⟩ (sub_c rfl (sub_c rfl (sub_c rfl (sub_c rfl sub_n)))) (Heap.le.refl _) (by omega)
  · try simp only [decide_eq_false_iff_not, Int.not_lt] at hc12
    refine AWP.exit ?_
    refine Next.ex ?_
    refine Next.ex ?_
    refine Block.hit ?_
    refine Next.go ?_
    refine AWP.seq ?_
    -- region 7
    refine AWP.region ?_
    refine AList.p rfl (pure_assign ev_bool) ?_
    refine AList.nil ?_
    refine Next.go ?_
    refine AWP.ret ?_
    -- ret 1
    refine Ret.go (.cons (.tmp _ _ rfl) .nil) _ (Heap.le.refl _) ?_
    refine ⟨?_, rfl⟩
    rw [List.take_of_length_le (by omega)] at hp
    rw [rNeedsOne, hp]; rfl

def rdir_J (b : Nat) (G : List Node) (c : Int) (H : Heap) : Nat → Env → Heap → Prop := fun k env H1 => ∃ (i t : Nat), i ≤ G.length ∧ env = [(0, .ptr (some ⟨b, 0, none⟩)), (1, .int .i64 c), (5, .slice 1 (((rCells (G.take i)).filter fun k => rNeeds G k c).map (.int .i64)) (.own t)), (6, .int .i64 i)] ∧ H.le H1 ∧ H1.toks t = true ∧ H.toks t = false ∧ k = G.length - i

set_option maxRecDepth 100000 in
theorem rDirect_calls (b : Nat) (G : List Node) (hG : G.length ≤ 10000) (hA : ∀ n, n ∈ G → n.areas.length ≤ 10000) (c : Int) (hc : -9223372036854775808 ≤ c ∧ c ≤ 9223372036854775807) (H : Heap) (hb : RBox H b G) : ACall Try.prog 23 [.ptr (some ⟨b, 0, none⟩), .int .i64 c] H (fun x H' => x = .slice 1 ((rDirect G c).map (.int .i64)) .shared ∧ H = H') := by
  have hle := Heap.le.refl H
  refine ACall.of_body Try.func23 rfl Try.ntmps23 Try.results23 rfl ?_
  refine AWP.seq ?_
  -- region 0
  refine AWP.region ?_
  refine AList.p rfl (pure_assign (ev_nil (sz := 1) (tl := .full))) ?_
  refine AList.nil ?_
  refine Next.go ?_
  refine AWP.seq ?_
  -- region 1
  refine AWP.region ?_
  refine AList.p rfl (pure_assign (ev_nil (sz := 1) (tl := .full))) ?_
  refine AList.nil ?_
  refine Next.go ?_
  refine AWP.seq ?_
  refine AWP.seq ?_
  -- region 2
  refine AWP.region ?_
  refine AList.p rfl (pure_assign ev_int) ?_
  refine AList.nil ?_
  refine Next.go ?_
  refine AWP.block ?_
  -- L0
  refine AWP.tag (t := 5) rfl (fun u5 hu5 => ?_)
  have hfu5 := Heap.fresh_of hle hu5
  have hleu5 := Heap.le_in hle u5
  refine AWP.loopW (rdir_J b G c H) (G.length) ⟨0, u5, Nat.zero_le _, rfl, hleu5, Heap.toks_live_same _ _, hfu5, by omega⟩ (sub_c rfl (sub_c rfl (sub_c rfl (sub_c rfl sub_n)))) (Heap.le.refl _) ?_
  rintro _ _ H1 ⟨i, t, hi, rfl, hle, hlive, hfr, rfl⟩
  refine AWP.seq ?_
  refine AWP.seq ?_
  -- region 3
  refine AWP.region ?_
  refine AList.p rfl (pure_move (.tmp _ _ rfl)) ?_
  refine AList.p rfl (pure_move (.tmp _ _ rfl)) ?_
  first | (refine AList.p rfl (pure_nilCheckI (.tmp _ _ rfl)) ?_) | (refine AList.p rfl (pure_nilCheck (.tmp _ _ rfl)) ?_) | (refine AList.p rfl (pure_nilCheckF (.tmp _ _ rfl)) ?_)
  first | (refine AList.p rfl (pure_fieldI Try.underlying56 rfl Try.sizeOf54 (.tmp _ _ rfl)) ?_) | (refine AList.p rfl (pure_field Try.underlying56 rfl Try.sizeOf54 (.tmp _ _ rfl)) ?_)
  first | (refine AList.p rfl (pure_load1 Try.isAgg54 (.tmp _ _ rfl)) ?_) | (refine AList.s rfl (step_load1 Try.isAgg54 (.tmp _ _ rfl) (by first | exact hb | exact hle.objs _ _ hb | assumption | exact (by assumption : Heap.le _ _).objs _ _ (by assumption) | exact Heap.objs_set_same _ _ _ | exact (Heap.objs_set_ne _ _ (by assumption)).trans (Heap.objs_set_same _ _ _) | exact (Heap.objs_set_ne _ _ (by assumption)).trans ((Heap.objs_set_ne _ _ (by assumption)).trans (Heap.objs_set_same _ _ _)) | exact (Heap.objs_set_ne _ _ (by assumption)).trans (by assumption)) rfl) ?_; rintro _ _ ⟨rfl, hH⟩; obtain rfl := hH.symm)
  first | (refine AList.p rfl (pure_lenL Try.underlying54 (.tmp _ _ rfl)) ?_) | (refine AList.p rfl (pure_lenS Try.underlying54 (.tmp _ _ rfl)) ?_) | (refine AList.p rfl (pure_lenM Try.underlying54 (.tmp _ _ rfl)) ?_)
  refine AList.p rfl (pure_lss (.tmp _ _ rfl) (.tmp _ _ rfl)) ?_
  refine AList.nil ?_
  refine Next.go ?_
  -- c0
  refine AWP.cond (.tmp _ _ rfl) (fun hc14 => ?_) (fun hc14 => ?_)
  · try simp only [decide_eq_true_eq] at hc14
    refine AWP.skip ?_
    refine Next.go ?_
    refine AWP.seq ?_
    refine AWP.block ?_
    refine AWP.seq ?_
    -- region 5
    refine AWP.region ?_
    refine AList.p rfl (pure_move (.tmp _ _ rfl)) ?_
    refine AList.p rfl (pure_move (.tmp _ _ rfl)) ?_
    first | (refine AList.p rfl (pure_nilCheckI (.tmp _ _ rfl)) ?_) | (refine AList.p rfl (pure_nilCheck (.tmp _ _ rfl)) ?_) | (refine AList.p rfl (pure_nilCheckF (.tmp _ _ rfl)) ?_)
    first | (refine AList.p rfl (pure_fieldI Try.underlying56 rfl Try.sizeOf54 (.tmp _ _ rfl)) ?_) | (refine AList.p rfl (pure_field Try.underlying56 rfl Try.sizeOf54 (.tmp _ _ rfl)) ?_)
    first | (refine AList.p rfl (pure_load1 Try.isAgg54 (.tmp _ _ rfl)) ?_) | (refine AList.s rfl (step_load1 Try.isAgg54 (.tmp _ _ rfl) (by first | exact hb | exact hle.objs _ _ hb | assumption | exact (by assumption : Heap.le _ _).objs _ _ (by assumption) | exact Heap.objs_set_same _ _ _ | exact (Heap.objs_set_ne _ _ (by assumption)).trans (Heap.objs_set_same _ _ _) | exact (Heap.objs_set_ne _ _ (by assumption)).trans ((Heap.objs_set_ne _ _ (by assumption)).trans (Heap.objs_set_same _ _ _)) | exact (Heap.objs_set_ne _ _ (by assumption)).trans (by assumption)) rfl) ?_; rintro _ _ ⟨rfl, hH⟩; obtain rfl := hH.symm)
    refine AList.p rfl (pure_move (.tmp _ _ rfl)) ?_
    first | (refine AList.p rfl (pure_indexL Try.underlying54 Try.sizeOf70 (.tmp _ _ rfl) (.tmp _ _ rfl) (by omega) (by omega)) ?_) | (refine AList.p rfl (pure_indexM Try.underlying54 Try.sizeOf70 (.tmp _ _ rfl) (.tmp _ _ rfl) (by omega) (by omega)) ?_)
    first | (refine AList.p rfl (pure_fieldI Try.underlying70 rfl Try.sizeOf3 (.tmp _ _ rfl)) ?_) | (refine AList.p rfl (pure_field Try.underlying70 rfl Try.sizeOf3 (.tmp _ _ rfl)) ?_)
    first | (refine AList.p rfl (pure_load1 Try.isAgg3 (.tmp _ _ rfl)) ?_) | (refine AList.s rfl (step_load1 Try.isAgg3 (.tmp _ _ rfl) (by first | exact hb | exact hle.objs _ _ hb | assumption | exact (by assumption : Heap.le _ _).objs _ _ (by assumption) | exact Heap.objs_set_same _ _ _ | exact (Heap.objs_set_ne _ _ (by assumption)).trans (Heap.objs_set_same _ _ _) | exact (Heap.objs_set_ne _ _ (by assumption)).trans ((Heap.objs_set_ne _ _ (by assumption)).trans (Heap.objs_set_same _ _ _)) | exact (Heap.objs_set_ne _ _ (by assumption)).trans (by assumption)) rfl) ?_; rintro _ _ ⟨rfl, hH⟩; obtain rfl := hH.symm)
    refine AList.p rfl (pure_move (.tmp _ _ rfl)) ?_
    refine AList.s rfl (step_call0 Try.call46 (.cons (.tmp _ _ rfl) (.cons (.tmp _ _ rfl) (.cons (.tmp _ _ rfl) .nil))) (rNeeds_calls _ _ (by assumption) (by assumption) _ _ (by first | assumption | omega) _ (hb.mono hle))) ?_
    rintro _ _ ⟨rfl, rfl⟩
    refine AList.p rfl (pure_assign (.tmp _ _ rfl)) ?_
    refine AList.nil ?_
    refine Next.go ?_
    refine AWP.seq ?_
    -- region 6
    refine AWP.region ?_
    refine AList.p rfl (pure_move (.tmp _ _ rfl)) ?_
    refine AList.nil ?_
    refine Next.go ?_
    -- c1
    refine AWP.cond (.tmp _ _ rfl) (fun hc28 => ?_) (fun hc28 => ?_)
    · try simp only [decide_eq_true_eq, decide_eq_false_iff_not, Bool.not_eq_true', Bool.not_eq_false', Int.not_lt, Int.not_le, ne_eq, Decidable.not_not] at hc28
      -- region 7
      refine AWP.region ?_
      refine AList.p rfl (pure_move (.tmp _ _ rfl)) ?_
      refine AList.p rfl (pure_move (.tmp _ _ rfl)) ?_
      first | (refine AList.p rfl (pure_nilCheckI (.tmp _ _ rfl)) ?_) | (refine AList.p rfl (pure_nilCheck (.tmp _ _ rfl)) ?_) | (refine AList.p rfl (pure_nilCheckF (.tmp _ _ rfl)) ?_)
      first | (refine AList.p rfl (pure_fieldI Try.underlying56 rfl Try.sizeOf54 (.tmp _ _ rfl)) ?_) | (refine AList.p rfl (pure_field Try.underlying56 rfl Try.sizeOf54 (.tmp _ _ rfl)) ?_)
      first | (refine AList.p rfl (pure_load1 Try.isAgg54 (.tmp _ _ rfl)) ?_) | (refine AList.s rfl (step_load1 Try.isAgg54 (.tmp _ _ rfl) (by first | exact hb | exact hle.objs _ _ hb | assumption | exact (by assumption : Heap.le _ _).objs _ _ (by assumption) | exact Heap.objs_set_same _ _ _ | exact (Heap.objs_set_ne _ _ (by assumption)).trans (Heap.objs_set_same _ _ _) | exact (Heap.objs_set_ne _ _ (by assumption)).trans ((Heap.objs_set_ne _ _ (by assumption)).trans (Heap.objs_set_same _ _ _)) | exact (Heap.objs_set_ne _ _ (by assumption)).trans (by assumption)) rfl) ?_; rintro _ _ ⟨rfl, hH⟩; obtain rfl := hH.symm)
      refine AList.p rfl (pure_move (.tmp _ _ rfl)) ?_
      first | (refine AList.p rfl (pure_indexL Try.underlying54 Try.sizeOf70 (.tmp _ _ rfl) (.tmp _ _ rfl) (by omega) (by omega)) ?_) | (refine AList.p rfl (pure_indexM Try.underlying54 Try.sizeOf70 (.tmp _ _ rfl) (.tmp _ _ rfl) (by omega) (by omega)) ?_)
      first | (refine AList.p rfl (pure_fieldI Try.underlying70 rfl Try.sizeOf3 (.tmp _ _ rfl)) ?_) | (refine AList.p rfl (pure_field Try.underlying70 rfl Try.sizeOf3 (.tmp _ _ rfl)) ?_)
      first | (refine AList.p rfl (pure_load1 Try.isAgg3 (.tmp _ _ rfl)) ?_) | (refine AList.s rfl (step_load1 Try.isAgg3 (.tmp _ _ rfl) (by first | exact hb | exact hle.objs _ _ hb | assumption | exact (by assumption : Heap.le _ _).objs _ _ (by assumption) | exact Heap.objs_set_same _ _ _ | exact (Heap.objs_set_ne _ _ (by assumption)).trans (Heap.objs_set_same _ _ _) | exact (Heap.objs_set_ne _ _ (by assumption)).trans ((Heap.objs_set_ne _ _ (by assumption)).trans (Heap.objs_set_same _ _ _)) | exact (Heap.objs_set_ne _ _ (by assumption)).trans (by assumption)) rfl) ?_; rintro _ _ ⟨rfl, hH⟩; obtain rfl := hH.symm)
      refine AList.s rfl (step_bs1 Try.underlying23 Try.sizeOf3 Try.zeroValue3 rfl (.tmp _ _ rfl) (.inl rfl) ⟨rfl, rfl⟩) ?_
      rintro _ _ ⟨rfl, hH⟩
      obtain rfl := hH.symm
      refine AList.s rfl (step_append Try.underlying23 Try.underlying23 Try.sizeOf3 Try.typeInfo3 Try.zeroValue3 rfl (by decide) (.tmp _ _ rfl) (.tmp _ _ rfl) (by exact .own _ (by first | assumption | exact Heap.toks_live_same _ _)) (by have := List.length_filter_le (fun k => rNeeds G k c) (rCells (G.take i)); show (_ + _) * 8 ≤ _; simp [rCells] at this ⊢; omega) (by repeat' (first | exact row_int _ | exact row_n | exact row_c ⟨rfl, rfl⟩ row_n | exact row_drop (row_int _) | exact row_take (row_int _) | refine row_app ?_ ?_)) (by repeat' (first | exact row_int _ | exact row_n | exact row_c ⟨rfl, rfl⟩ row_n | exact row_drop (row_int _) | exact row_take (row_int _) | refine row_app ?_ ?_))) ?_
      rintro _ _ ⟨t39, ht39, rfl, hH⟩
      obtain rfl := hH.symm
      have hf39 := Heap.fresh_of hle ht39
      have hle39 := Heap.le_in (Heap.le_out (t := t) hle (by assumption)) t39
      refine AList.p rfl (pure_assign (.tmp _ _ rfl)) ?_
      refine AList.nil ?_
      refine Block.go ?_
      refine Next.go ?_
      -- region 4
      refine AWP.region ?_
      refine AList.p rfl (pure_move (.tmp _ _ rfl)) ?_
      refine AList.p rfl (pure_add (.tmp _ _ rfl) ev_int (by omega)) ?_
      refine AList.p rfl (pure_assign (.tmp _ _ rfl)) ?_
      refine AList.nil ?_
      refine Next.go ?_
      refine Round.mk (J := rdir_J b G c H) ⟨i + 1, t39, by omega, rfl, hle39, Heap.toks_live_same _ _, hf39, rfl⟩ (sub_c rfl (sub_c rfl (sub_e rfl (slice_eq (by rw [take_succ_get G i (by omega)]; simp only [rCells, List.map_append, List.map_cons, List.map_nil, List.filter_append, List.filter_cons, Int.toNat_natCast] at hc28 ⊢; rw [if_pos (by simpa using hc28)]; simp)) (sub_c rfl sub_n)))) (Heap.le.refl _) (by omega)
    · try simp only [decide_eq_true_eq, decide_eq_false_iff_not, Bool.not_eq_true', Bool.not_eq_false', Int.not_lt, Int.not_le, ne_eq, Decidable.not_not] at hc28
      refine AWP.skip ?_
      refine Block.go ?_
      refine Next.go ?_
      -- region 4
      refine AWP.region ?_
      refine AList.p rfl (pure_move (.tmp _ _ rfl)) ?_
      refine AList.p rfl (pure_add (.tmp _ _ rfl) ev_int (by omega)) ?_
      refine AList.p rfl (pure_assign (.tmp _ _ rfl)) ?_
      refine AList.nil ?_
      refine Next.go ?_
      refine Round.mk (J := rdir_J b G c H) ⟨i + 1, t, by omega, rfl, hle, hlive, hfr, rfl⟩ (sub_c rfl (sub_c rfl (sub_e rfl (slice_eq (by rw [take_succ_get G i (by omega)]; simp only [rCells, List.map_append, List.map_cons, List.map_nil, List.filter_append, List.filter_cons, Int.toNat_natCast] at hc28 ⊢; rw [if_neg (by simpa using hc28)]; simp)) (sub_c rfl sub_n)))) (Heap.le.refl _) (by omega)
  · try simp only [decide_eq_false_iff_not, Int.not_lt] at hc14
    refine AWP.exit ?_
    refine Next.ex ?_
    refine Next.ex ?_
    refine Block.hit ?_
    refine Next.go ?_
    refine AWP.seq ?_
    -- region 8
    refine AWP.region ?_
    refine AList.p rfl (pure_move (.tmp _ _ rfl)) ?_
    refine AList.p rfl (pure_assign (.tmp _ _ rfl)) ?_
    refine AList.nil ?_
    refine Next.go ?_
    refine AWP.ret ?_
    -- ret 0
    refine Ret.go (.cons (.weak _ _ _ rfl (.slice _ _ _)) .nil) _ (hle) ?_
    refine ⟨slice_eq ?_, rfl⟩
    rw [List.take_of_length_le (by omega), rDirect]

/-- Who hangs on cells: by one need, or by more. -/
inductive Hangs (needs : Int → Int → Bool) (cells l : List Int) : Int → Prop
  | one {k c : Int} (hk : k ∈ cells) (hc : c ∈ l) (hn : needs k c = true) : Hangs needs cells l k
  | more {k c : Int} (hk : k ∈ cells) (hc : Hangs needs cells l c) (hn : needs k c = true) : Hangs needs cells l k
theorem Hangs.mem {needs : Int → Int → Bool} {cells l : List Int} {k : Int} (h : Hangs needs cells l k) : k ∈ cells := by cases h <;> assumption
theorem nodup_len : ∀ {a b : List Int}, a.Nodup → (∀ x, x ∈ a → x ∈ b) → a.length ≤ b.length
  | [], _, _, _ => Nat.zero_le _
  | x :: a, b, hn, hs => by
    rw [List.nodup_cons] at hn
    have h1 := nodup_len (a := a) (b := b.erase x) hn.2 (fun y hy => (List.mem_erase_of_ne (by rintro rfl; exact hn.1 hy)).2 (hs y (by simp [hy])))
    have h2 := List.length_erase_of_mem (hs x (by simp))
    have h3 : 0 < b.length := List.length_pos_of_mem (hs x (by simp))
    simp only [List.length_cons]; omega
/-- The set 'inn' as the rounds make it. -/
structure AInv (G : List Node) (l inn inn2 : List Int) (more2 : Bool) (i : Nat) : Prop where
  nodup : inn2.Nodup
  hangs : ∀ x, x ∈ inn2 → Hangs (rNeeds G) (rCells G) l x
  len : inn.length ≤ inn2.length
  more : more2 = true → inn.length < inn2.length
  same : more2 = false → inn2 = inn ∧ ∀ k, k ∈ rCells (G.take i) → (rNeedsOne G k l || rNeedsOne G k inn) = true → k ∈ inn
theorem AInv.start {G : List Node} {l inn : List Int} (h1 : inn.Nodup) (h2 : ∀ x, x ∈ inn → Hangs (rNeeds G) (rCells G) l x) : AInv G l inn inn false 0 :=
  ⟨h1, h2, Nat.le_refl _, fun h => (by cases h), fun _ => ⟨rfl, fun k hk => (by simp [rCells] at hk)⟩⟩
theorem AInv.bound {G : List Node} {l inn inn2 : List Int} {m : Bool} {i : Nat} (h : AInv G l inn inn2 m i) : inn2.length ≤ G.length := by
  have : inn2.length ≤ (rCells G).length := nodup_len h.nodup (fun x hx => (h.hangs x hx).mem)
  simpa [rCells] using this
theorem AInv.add {G : List Node} {l inn inn2 : List Int} {m : Bool} {i : Nat} (h : AInv G l inn inn2 m i) (hi : i < G.length) (hc : ((rNeedsOne G G[i].at_ l || rNeedsOne G G[i].at_ inn2) && !decide (G[i].at_ ∈ inn2)) = true) :
    AInv G l inn (inn2 ++ [G[i].at_]) true (i + 1) := by
  simp only [Bool.and_eq_true, Bool.or_eq_true, Bool.not_eq_true', decide_eq_false_iff_not] at hc
  have hm : G[i].at_ ∈ rCells G := List.mem_map.2 ⟨_, List.getElem_mem hi, rfl⟩
  refine ⟨?_, ?_, ?_, ?_, fun h => by cases h⟩
  · rw [List.nodup_append]; exact ⟨h.nodup, by simp, by rintro a ha b hb rfl; simp at hb; subst hb; exact hc.2 ha⟩
  · intro x hx
    rcases List.mem_append.1 hx with hx | hx
    · exact h.hangs x hx
    · simp at hx; subst hx
      rcases hc.1 with h1 | h1
      · obtain ⟨c, hcl, hn⟩ := List.any_eq_true.1 h1; exact .one hm hcl hn
      · obtain ⟨c, hcl, hn⟩ := List.any_eq_true.1 h1; exact .more hm (h.hangs c hcl) hn
  · have := h.len; simp; omega
  · intro _; have := h.len; simp; omega
theorem AInv.skip {G : List Node} {l inn inn2 : List Int} {m : Bool} {i : Nat} (h : AInv G l inn inn2 m i) (hi : i < G.length) (hc : ((rNeedsOne G G[i].at_ l || rNeedsOne G G[i].at_ inn2) && !decide (G[i].at_ ∈ inn2)) = false) :
    AInv G l inn inn2 m (i + 1) := by
  refine ⟨h.nodup, h.hangs, h.len, h.more, fun hm => ?_⟩
  obtain ⟨h1, h2⟩ := h.same hm
  refine ⟨h1, fun k hk hn => ?_⟩
  rw [take_succ_get G i hi, rCells, List.map_append] at hk
  rcases List.mem_append.1 hk with hk | hk
  · exact h2 k hk hn
  · simp at hk; subst hk
    rw [h1] at hc
    rw [hn] at hc
    simpa using hc
theorem AInv.done {G : List Node} {l inn : List Int} (h : AInv G l inn inn false G.length) (x : Int) : x ∈ inn ↔ Hangs (rNeeds G) (rCells G) l x := by
  refine ⟨h.hangs x, fun hx => ?_⟩
  obtain ⟨_, hc⟩ := h.same rfl
  rw [List.take_length] at hc
  induction hx with
  | one hk hc' hn => exact hc _ hk (by rw [Bool.or_eq_true]; exact .inl (List.any_eq_true.2 ⟨_, hc', hn⟩))
  | more hk _ hn ih => exact hc _ hk (by rw [Bool.or_eq_true]; exact .inr (List.any_eq_true.2 ⟨_, ih, hn⟩))

def raft_J (b : Nat) (G : List Node) (l : List Int) (tl : Tail) (H : Heap) : Nat → Env → Heap → Prop := fun k env H1 => ∃ (inn : List Int) (t : Nat) (more : Bool), env = [(0, .ptr (some ⟨b, 0, none⟩)), (1, .slice 1 (l.map (.int .i64)) tl), (5, .slice 1 (inn.map (.int .i64)) (.own t)), (6, .bool more)] ∧ inn.Nodup ∧ (∀ x, x ∈ inn → Hangs (rNeeds G) (rCells G) l x) ∧ (more = false → ∀ x, x ∈ inn ↔ Hangs (rNeeds G) (rCells G) l x) ∧ inn.length ≤ G.length ∧ H.le H1 ∧ H1.toks t = true ∧ H.toks t = false ∧ k = (G.length - inn.length) + (if more then 1 else 0)

def raft_K (b : Nat) (G : List Node) (l inn : List Int) (tl : Tail) (H : Heap) : Nat → Env → Heap → Prop := fun k env H1 => ∃ (i : Nat) (inn2 : List Int) (t : Nat) (more2 : Bool), i ≤ G.length ∧ env = [(0, .ptr (some ⟨b, 0, none⟩)), (1, .slice 1 (l.map (.int .i64)) tl), (5, .slice 1 (inn2.map (.int .i64)) (.own t)), (6, .bool more2), (7, .int .i64 i)] ∧ AInv G l inn inn2 more2 i ∧ H.le H1 ∧ H1.toks t = true ∧ H.toks t = false ∧ k = G.length - i

set_option maxRecDepth 100000 in
theorem rAfter_calls (b : Nat) (G : List Node) (hG : G.length ≤ 10000) (hA : ∀ n, n ∈ G → n.areas.length ≤ 10000) (h64c : I64s (rCells G)) (l : List Int) (tl : Tail) (hl : l.length ≤ 100000) (h64 : I64s l) (H : Heap) (hb : RBox H b G) : ACall Try.prog 14 [.ptr (some ⟨b, 0, none⟩), .slice 1 (l.map (.int .i64)) tl] H (fun x H' => ∃ inn : List Int, (∀ c, c ∈ inn ↔ Hangs (rNeeds G) (rCells G) l c) ∧ x = .slice 1 ((rising inn).map (.int .i64)) .shared ∧ H = H') := by
  have hle := Heap.le.refl H
  refine ACall.of_body Try.func14 rfl Try.ntmps14 Try.results14 rfl ?_
  refine AWP.seq ?_
  -- region 0
  refine AWP.region ?_
  refine AList.p rfl (pure_assign (ev_nil (sz := 1) (tl := .full))) ?_
  refine AList.nil ?_
  refine Next.go ?_
  refine AWP.seq ?_
  -- region 1
  refine AWP.region ?_
  refine AList.p rfl (pure_assign (ev_nil (sz := 1) (tl := .full))) ?_
  refine AList.nil ?_
  refine Next.go ?_
  refine AWP.seq ?_
  refine AWP.seq ?_
  -- region 2
  refine AWP.region ?_
  refine AList.p rfl (pure_assign ev_bool) ?_
  refine AList.nil ?_
  refine Next.go ?_
  refine AWP.block ?_
  -- L0
  refine AWP.tag (t := 5) rfl (fun u5 hu5 => ?_)
  have hfu5 := Heap.fresh_of hle hu5
  have hleu5 := Heap.le_in hle u5
  refine AWP.loopW (raft_J b G l tl H) (G.length + 1) ⟨[], u5, true, rfl, List.nodup_nil, fun x hx => (by simp at hx), fun h => (by cases h), Nat.zero_le _, hleu5, Heap.toks_live_same _ _, hfu5, rfl⟩ (sub_c rfl (sub_c rfl (sub_c rfl (sub_c rfl sub_n)))) (Heap.le.refl _) ?_
  rintro _ _ H1 ⟨inn, t, more, rfl, hnd, hhg, hcl, hlen, hle, hlive, hfr, rfl⟩
  refine AWP.seq ?_
  refine AWP.seq ?_
  -- region 3
  refine AWP.region ?_
  refine AList.p rfl (pure_move (.tmp _ _ rfl)) ?_
  refine AList.nil ?_
  refine Next.go ?_
  -- c0
  refine AWP.cond (.tmp _ _ rfl) (fun hc12 => ?_) (fun hc12 => ?_)
  · try simp only [decide_eq_true_eq, decide_eq_false_iff_not, Bool.not_eq_true', Bool.not_eq_false', Int.not_lt, Int.not_le, ne_eq, Decidable.not_not] at hc12
    refine AWP.skip ?_
    refine Next.go ?_
    refine AWP.block ?_
    refine AWP.seq ?_
    -- region 4
    refine AWP.region ?_
    refine AList.p rfl (pure_assign ev_bool) ?_
    refine AList.nil ?_
    refine Next.go ?_
    refine AWP.seq ?_
    -- region 5
    refine AWP.region ?_
    refine AList.p rfl (pure_assign ev_int) ?_
    refine AList.nil ?_
    refine Next.go ?_
    refine AWP.block ?_
    -- L1
    refine AWP.loopW (raft_K b G l inn tl H) (G.length) ⟨0, inn, t, false, Nat.zero_le _, rfl, .start hnd hhg, hle, hlive, hfr, rfl⟩ (sub_c rfl (sub_c rfl (sub_c rfl (sub_c rfl (sub_c rfl sub_n))))) (Heap.le.refl _) ?_
    rintro _ _ H2 ⟨i, inn2, t2, more2, hi, rfl, hinv, hle2, hlive2, hfr2, rfl⟩
    have hib := hinv.bound
    have h64i : I64s inn2 := fun x hx => h64c x (hinv.hangs x hx).mem
    refine AWP.seq ?_
    refine AWP.seq ?_
    -- region 6
    refine AWP.region ?_
    refine AList.p rfl (pure_move (.tmp _ _ rfl)) ?_
    refine AList.p rfl (pure_move (.tmp _ _ rfl)) ?_
    first | (refine AList.p rfl (pure_nilCheckI (.tmp _ _ rfl)) ?_) | (refine AList.p rfl (pure_nilCheck (.tmp _ _ rfl)) ?_) | (refine AList.p rfl (pure_nilCheckF (.tmp _ _ rfl)) ?_)
    first | (refine AList.p rfl (pure_fieldI Try.underlying56 rfl Try.sizeOf54 (.tmp _ _ rfl)) ?_) | (refine AList.p rfl (pure_field Try.underlying56 rfl Try.sizeOf54 (.tmp _ _ rfl)) ?_)
    first | (refine AList.p rfl (pure_load1 Try.isAgg54 (.tmp _ _ rfl)) ?_) | (refine AList.s rfl (step_load1 Try.isAgg54 (.tmp _ _ rfl) (by first | exact hb | exact hle.objs _ _ hb | assumption | exact (by assumption : Heap.le _ _).objs _ _ (by assumption) | exact Heap.objs_set_same _ _ _ | exact (Heap.objs_set_ne _ _ (by assumption)).trans (Heap.objs_set_same _ _ _) | exact (Heap.objs_set_ne _ _ (by assumption)).trans ((Heap.objs_set_ne _ _ (by assumption)).trans (Heap.objs_set_same _ _ _)) | exact (Heap.objs_set_ne _ _ (by assumption)).trans (by assumption)) rfl) ?_; rintro _ _ ⟨rfl, hH⟩; obtain rfl := hH.symm)
    first | (refine AList.p rfl (pure_lenL Try.underlying54 (.tmp _ _ rfl)) ?_) | (refine AList.p rfl (pure_lenS Try.underlying54 (.tmp _ _ rfl)) ?_) | (refine AList.p rfl (pure_lenM Try.underlying54 (.tmp _ _ rfl)) ?_)
    refine AList.p rfl (pure_lss (.tmp _ _ rfl) (.tmp _ _ rfl)) ?_
    refine AList.nil ?_
    refine Next.go ?_
    -- c1
    refine AWP.cond (.tmp _ _ rfl) (fun hc19 => ?_) (fun hc19 => ?_)
    · try simp only [decide_eq_true_eq] at hc19
      refine AWP.skip ?_
      refine Next.go ?_
      refine AWP.seq ?_
      refine AWP.block ?_
      refine AWP.seq ?_
      -- region 8
      refine AWP.region ?_
      refine AList.p rfl (pure_move (.tmp _ _ rfl)) ?_
      first | (refine AList.p rfl (pure_nilCheckI (.tmp _ _ rfl)) ?_) | (refine AList.p rfl (pure_nilCheck (.tmp _ _ rfl)) ?_) | (refine AList.p rfl (pure_nilCheckF (.tmp _ _ rfl)) ?_)
      first | (refine AList.p rfl (pure_fieldI Try.underlying56 rfl Try.sizeOf54 (.tmp _ _ rfl)) ?_) | (refine AList.p rfl (pure_field Try.underlying56 rfl Try.sizeOf54 (.tmp _ _ rfl)) ?_)
      first | (refine AList.p rfl (pure_load1 Try.isAgg54 (.tmp _ _ rfl)) ?_) | (refine AList.s rfl (step_load1 Try.isAgg54 (.tmp _ _ rfl) (by first | exact hb | exact hle.objs _ _ hb | assumption | exact (by assumption : Heap.le _ _).objs _ _ (by assumption) | exact Heap.objs_set_same _ _ _ | exact (Heap.objs_set_ne _ _ (by assumption)).trans (Heap.objs_set_same _ _ _) | exact (Heap.objs_set_ne _ _ (by assumption)).trans ((Heap.objs_set_ne _ _ (by assumption)).trans (Heap.objs_set_same _ _ _)) | exact (Heap.objs_set_ne _ _ (by assumption)).trans (by assumption)) rfl) ?_; rintro _ _ ⟨rfl, hH⟩; obtain rfl := hH.symm)
      refine AList.p rfl (pure_move (.tmp _ _ rfl)) ?_
      first | (refine AList.p rfl (pure_indexL Try.underlying54 Try.sizeOf70 (.tmp _ _ rfl) (.tmp _ _ rfl) (by omega) (by omega)) ?_) | (refine AList.p rfl (pure_indexM Try.underlying54 Try.sizeOf70 (.tmp _ _ rfl) (.tmp _ _ rfl) (by omega) (by omega)) ?_)
      first | (refine AList.p rfl (pure_fieldI Try.underlying70 rfl Try.sizeOf3 (.tmp _ _ rfl)) ?_) | (refine AList.p rfl (pure_field Try.underlying70 rfl Try.sizeOf3 (.tmp _ _ rfl)) ?_)
      first | (refine AList.p rfl (pure_load1 Try.isAgg3 (.tmp _ _ rfl)) ?_) | (refine AList.s rfl (step_load1 Try.isAgg3 (.tmp _ _ rfl) (by first | exact hb | exact hle.objs _ _ hb | assumption | exact (by assumption : Heap.le _ _).objs _ _ (by assumption) | exact Heap.objs_set_same _ _ _ | exact (Heap.objs_set_ne _ _ (by assumption)).trans (Heap.objs_set_same _ _ _) | exact (Heap.objs_set_ne _ _ (by assumption)).trans ((Heap.objs_set_ne _ _ (by assumption)).trans (Heap.objs_set_same _ _ _)) | exact (Heap.objs_set_ne _ _ (by assumption)).trans (by assumption)) rfl) ?_; rintro _ _ ⟨rfl, hH⟩; obtain rfl := hH.symm)
      refine AList.p rfl (pure_assign (.tmp _ _ rfl)) ?_
      refine AList.nil ?_
      refine Next.go ?_
      refine AWP.seq ?_
      -- region 9
      refine AWP.region ?_
      refine AList.p rfl (pure_move (.tmp _ _ rfl)) ?_
      refine AList.p rfl (pure_move (.tmp _ _ rfl)) ?_
      refine AList.p rfl (pure_move (.tmp _ _ rfl)) ?_
      refine AList.s rfl (step_call0 Try.call36 (.cons (.tmp _ _ rfl) (.cons (.tmp _ _ rfl) (.cons (.tmp _ _ rfl) .nil))) (rNeedsOne_calls _ _ hG hA _ _ _ hl h64 _ (hb.mono hle2))) ?_
      rintro _ _ ⟨rfl, rfl⟩
      refine AList.p rfl (pure_assign (.tmp _ _ rfl)) ?_
      refine AList.nil ?_
      refine Next.go ?_
      refine AWP.seq ?_
      -- region 10
      refine AWP.region ?_
      refine AList.p rfl (pure_move (.tmp _ _ rfl)) ?_
      refine AList.p rfl (pure_move (.tmp _ _ rfl)) ?_
      refine AList.p rfl (pure_move (.tmp _ _ rfl)) ?_
      refine AList.s rfl (step_call0 Try.call36 (.cons (.tmp _ _ rfl) (.cons (.tmp _ _ rfl) (.cons (.tmp _ _ rfl) .nil))) (rNeedsOne_calls _ _ hG hA _ _ _ (by omega) h64i _ (hb.mono hle2))) ?_
      rintro _ _ ⟨rfl, rfl⟩
      refine AList.p rfl (pure_assign (.tmp _ _ rfl)) ?_
      refine AList.nil ?_
      refine Next.go ?_
      refine AWP.seq ?_
      -- region 11
      refine AWP.region ?_
      refine AList.p rfl (pure_move (.tmp _ _ rfl)) ?_
      refine AList.p rfl (pure_move (.tmp _ _ rfl)) ?_
      refine AList.s rfl (step_call0 Try.call17 (.cons (.tmp _ _ rfl) (.cons (.tmp _ _ rfl) .nil)) (Has_calls _ _ _ (by unfold maxLen; omega) _)) ?_
      rintro _ _ ⟨rfl, hH⟩
      obtain rfl := hH.symm
      refine AList.p rfl (pure_assign (.tmp _ _ rfl)) ?_
      refine AList.nil ?_
      refine Next.go ?_
      refine AWP.seqTo 48 (.bool ((rNeedsOne G (G[(i : Int).toNat]'(by omega)).at_ l || rNeedsOne G (G[(i : Int).toNat]'(by omega)).at_ inn2) && !decide ((G[(i : Int).toNat]'(by omega)).at_ ∈ inn2))) [0, 1, 5, 6, 7, 19, 8, 9, 10, 11] ?_ ?_
      · -- region 12
        refine AWP.region ?_
        refine AList.p rfl (pure_move (.tmp _ _ rfl)) ?_
        refine AList.p rfl (pure_move (.tmp _ _ rfl)) ?_
        -- the guard in slot 42
        refine bool_casesL (t := 42) rfl (fun hg42 => ?_) (fun hg42 => ?_)
        · have hh42 := hg42; try simp only [decide_eq_true_eq, decide_eq_false_iff_not, Bool.not_eq_true', Bool.not_eq_false', Int.not_lt, Int.not_le, ne_eq, Decidable.not_not] at hh42
          refine AList.gn rfl rfl rfl (by first | rfl | assumption) ?_
          refine AList.p rfl (pure_pickT (.tmp _ _ rfl) (by first | rfl | assumption) ev_bool) ?_
          refine AList.p rfl (pure_move (.tmp _ _ rfl)) ?_
          refine AList.gp rfl rfl rfl (by first | rfl | assumption) (pure_move (.tmp _ _ rfl)) ?_
          refine AList.gp rfl rfl rfl (by first | rfl | assumption) (pure_not (.tmp _ _ rfl)) ?_
          refine AList.p rfl (pure_pickT (.tmp _ _ rfl) (by first | rfl | assumption) (.tmp _ _ rfl)) ?_
          refine AList.nil ?_
          exact ⟨rfl, sub_b rfl (by first | rfl | (simp [*]; done) | simp_all) (sub_c rfl (sub_c rfl (sub_c rfl (sub_c rfl (sub_c rfl (sub_c rfl (sub_c rfl (sub_c rfl (sub_c rfl (sub_c rfl sub_n)))))))))), rfl⟩
        · have hh42 := hg42; try simp only [decide_eq_true_eq, decide_eq_false_iff_not, Bool.not_eq_true', Bool.not_eq_false', Int.not_lt, Int.not_le, ne_eq, Decidable.not_not] at hh42
          refine AList.gp rfl rfl rfl (by first | rfl | assumption) (pure_move (.tmp _ _ rfl)) ?_
          refine AList.p rfl (pure_pickF (.tmp _ _ rfl) (by first | rfl | assumption) (.tmp _ _ rfl)) ?_
          refine AList.p rfl (pure_move (.tmp _ _ rfl)) ?_
          -- the guard in slot 45
          refine bool_casesL (t := 45) rfl (fun hg45 => ?_) (fun hg45 => ?_)
          · have hh45 := hg45; try simp only [decide_eq_true_eq, decide_eq_false_iff_not, Bool.not_eq_true', Bool.not_eq_false', Int.not_lt, Int.not_le, ne_eq, Decidable.not_not] at hh45
            refine AList.gp rfl rfl rfl (by first | rfl | assumption) (pure_move (.tmp _ _ rfl)) ?_
            refine AList.gp rfl rfl rfl (by first | rfl | assumption) (pure_not (.tmp _ _ rfl)) ?_
            refine AList.p rfl (pure_pickT (.tmp _ _ rfl) (by first | rfl | assumption) (.tmp _ _ rfl)) ?_
            refine AList.nil ?_
            exact ⟨rfl, sub_b rfl (by first | rfl | (simp [*]; done) | simp_all) (sub_c rfl (sub_c rfl (sub_c rfl (sub_c rfl (sub_c rfl (sub_c rfl (sub_c rfl (sub_c rfl (sub_c rfl (sub_c rfl sub_n)))))))))), rfl⟩
          · have hh45 := hg45; try simp only [decide_eq_true_eq, decide_eq_false_iff_not, Bool.not_eq_true', Bool.not_eq_false', Int.not_lt, Int.not_le, ne_eq, Decidable.not_not] at hh45
            refine AList.gn rfl rfl rfl (by first | rfl | assumption) ?_
            refine AList.gn rfl rfl rfl (by first | rfl | assumption) ?_
            refine AList.p rfl (pure_pickF (.tmp _ _ rfl) (by first | rfl | assumption) ev_bool) ?_
            refine AList.nil ?_
            exact ⟨rfl, sub_b rfl (by first | rfl | (simp [*]; done) | simp_all) (sub_c rfl (sub_c rfl (sub_c rfl (sub_c rfl (sub_c rfl (sub_c rfl (sub_c rfl (sub_c rfl (sub_c rfl (sub_c rfl sub_n)))))))))), rfl⟩
      · -- c2
        refine AWP.cond (.tmp _ _ rfl) (fun hc48 => ?_) (fun hc48 => ?_)
        · try simp only [] at hc48
          refine AWP.seq ?_
          -- region 13
          refine AWP.region ?_
          refine AList.p rfl (pure_move (.tmp _ _ rfl)) ?_
          refine AList.p rfl (pure_move (.tmp _ _ rfl)) ?_
          refine AList.s rfl (step_bs1 Try.underlying23 Try.sizeOf3 Try.zeroValue3 rfl (.tmp _ _ rfl) (.inl rfl) ⟨rfl, rfl⟩) ?_
          rintro _ _ ⟨rfl, hH⟩
          obtain rfl := hH.symm
          refine AList.s rfl (step_append Try.underlying23 Try.underlying23 Try.sizeOf3 Try.typeInfo3 Try.zeroValue3 rfl (by decide) (.tmp _ _ rfl) (.tmp _ _ rfl) (by exact .own _ (by first | assumption | exact Heap.toks_live_same _ _)) (by show (_ + _) * 8 ≤ _; simp; omega) (by repeat' (first | exact row_int _ | exact row_n | exact row_c ⟨rfl, rfl⟩ row_n | exact row_drop (row_int _) | exact row_take (row_int _) | refine row_app ?_ ?_)) (by repeat' (first | exact row_int _ | exact row_n | exact row_c ⟨rfl, rfl⟩ row_n | exact row_drop (row_int _) | exact row_take (row_int _) | refine row_app ?_ ?_))) ?_
          rintro _ _ ⟨t52, ht52, rfl, hH⟩
          obtain rfl := hH.symm
          have hf52 := Heap.fresh_of hle2 ht52
          have hle52 := Heap.le_in (Heap.le_out (t := t2) hle2 (by assumption)) t52
          refine AList.p rfl (pure_assign (.tmp _ _ rfl)) ?_
          refine AList.nil ?_
          refine Next.go ?_
          -- region 14
          refine AWP.region ?_
          refine AList.p rfl (pure_assign ev_bool) ?_
          refine AList.nil ?_
          refine Block.go ?_
          refine Next.go ?_
          -- region 7
          refine AWP.region ?_
          refine AList.p rfl (pure_move (.tmp _ _ rfl)) ?_
          refine AList.p rfl (pure_add (.tmp _ _ rfl) ev_int (by omega)) ?_
          refine AList.p rfl (pure_assign (.tmp _ _ rfl)) ?_
          refine AList.nil ?_
          refine Next.go ?_
          refine Round.mk (J := raft_K b G l inn tl H) ⟨i + 1, _, t52, true, by omega, rfl, hinv.add (by omega) (by simpa using hc48), hle52, Heap.toks_live_same _ _, hf52, rfl⟩ (sub_c rfl (sub_c rfl (sub_e rfl (slice_eq (by simp only [List.map_append, List.map_cons, List.map_nil, Int.toNat_natCast])) (sub_c rfl (sub_c rfl sub_n))))) (Heap.le.refl _) (by omega)
        · try simp only [] at hc48
          refine AWP.skip ?_
          refine Block.go ?_
          refine Next.go ?_
          -- region 7
          refine AWP.region ?_
          refine AList.p rfl (pure_move (.tmp _ _ rfl)) ?_
          refine AList.p rfl (pure_add (.tmp _ _ rfl) ev_int (by omega)) ?_
          refine AList.p rfl (pure_assign (.tmp _ _ rfl)) ?_
          refine AList.nil ?_
          refine Next.go ?_
          refine Round.mk (J := raft_K b G l inn tl H) ⟨i + 1, inn2, t2, more2, by omega, rfl, hinv.skip (by omega) (by simpa using hc48), hle2, hlive2, hfr2, rfl⟩ (sub_c rfl (sub_c rfl (sub_c rfl (sub_c rfl (sub_c rfl sub_n))))) (Heap.le.refl _) (by omega)
    · try simp only [decide_eq_false_iff_not, Int.not_lt] at hc19
      refine AWP.exit ?_
      refine Next.ex ?_
      refine Next.ex ?_
      refine Block.hit ?_
      refine Block.go ?_
      refine Next.go ?_
      obtain rfl : i = G.length := by omega
      have hclose : more2 = false → ∀ x, x ∈ inn2 ↔ Hangs (rNeeds G) (rCells G) l x := fun h => by subst h; have := (hinv.same rfl).1; subst this; exact hinv.done
      have hb1 := hinv.bound
      have hb2 := hinv.more
      have hb3 := fun h => congrArg List.length (hinv.same h).1
      have hdec : (G.length - inn2.length) + (if more2 then 1 else 0) < (G.length - inn.length) + (if more then 1 else 0) := by cases more2 <;> simp [hc12] at hb2 hb3 ⊢ <;> omega
      refine Round.mk (J := raft_J b G l tl H) ⟨inn2, t2, more2, rfl, hinv.nodup, hinv.hangs, hclose, hinv.bound, hle2, hlive2, hfr2, rfl⟩ (sub_c rfl (sub_c rfl (sub_c rfl (sub_c rfl sub_n)))) (Heap.le.refl _) (by exact hdec)
  · try simp only [decide_eq_true_eq, decide_eq_false_iff_not, Bool.not_eq_true', Bool.not_eq_false', Int.not_lt, Int.not_le, ne_eq, Decidable.not_not] at hc12
    refine AWP.exit ?_
    refine Next.ex ?_
    refine Next.ex ?_
    refine Block.hit ?_
    refine Next.go ?_
    refine AWP.seq ?_
    -- region 15
    refine AWP.region ?_
    refine AList.p rfl (pure_move (.tmp _ _ rfl)) ?_
    refine AList.s rfl (step_call0 Try.call20 (.cons (.tmp _ _ rfl) .nil) (Rising_calls _ _ (by omega) _)) ?_
    rintro _ _ ⟨rfl, rfl⟩
    refine AList.p rfl (pure_assign (.tmp _ _ rfl)) ?_
    refine AList.nil ?_
    refine Next.go ?_
    refine AWP.ret ?_
    -- ret 0
    refine Ret.go (.cons (.weak _ _ _ rfl (.slice _ _ _)) .nil) _ (hle) ?_
    exact ⟨inn, hcl hc12, rfl, rfl⟩

/-- How many lead the list of which p holds. -/
def lead {α : Type} (p : α → Bool) (l : List α) : Nat := (l.takeWhile p).length
theorem lead_le {α : Type} (p : α → Bool) (l : List α) : lead p l ≤ l.length := List.Sublist.length_le (List.takeWhile_sublist _)
theorem lead_next {α : Type} {p : α → Bool} : ∀ {l : List α} {k : Nat} (_ : k ≤ lead p l) (h : k < l.length), p l[k] = true → k + 1 ≤ lead p l
  | [], k, _, h, _ => by simp at h
  | y :: l, 0, _, _, hx => by
    simp only [List.getElem_cons_zero] at hx
    simp [lead, hx]
  | y :: l, k + 1, hk, h, hx => by
    unfold lead at hk ⊢
    rw [List.takeWhile_cons] at hk ⊢
    split
    · rename_i hy
      rw [if_pos hy] at hk
      simp only [List.length_cons, List.getElem_cons_succ] at hk h hx ⊢
      have := lead_next (p := p) (l := l) (k := k) (by unfold lead; omega) (by omega) hx
      unfold lead at this
      omega
    · rename_i hy
      rw [if_neg hy] at hk
      simp at hk
theorem lead_stop {α : Type} {p : α → Bool} : ∀ {l : List α} {k : Nat} (_ : k ≤ lead p l), (∀ h : k < l.length, p l[k] = false) → k = lead p l
  | [], k, hk, _ => by simp [lead] at hk ⊢; exact hk
  | y :: l, 0, _, hx => by
    have := hx (by simp)
    simp only [List.getElem_cons_zero] at this
    simp [lead, this]
  | y :: l, k + 1, hk, hx => by
    unfold lead at hk ⊢
    rw [List.takeWhile_cons] at hk ⊢
    split
    · rename_i hy
      rw [if_pos hy] at hk
      simp only [List.length_cons] at hk ⊢
      have := lead_stop (p := p) (l := l) (k := k) (by unfold lead; omega) (fun h => by have := hx (by simp; omega); simpa using this)
      unfold lead at this
      omega
    · rename_i hy
      rw [if_neg hy] at hk
      simp at hk
/-- The order, by what needs what: 'nd x left': x needs one of these. -/
def order (nd : Int → List Int → Bool) : Nat → List Int → List Int → List Int × List Int
  | 0, o, left => (o, left)
  | n + 1, o, left => match left[lead (fun x => nd x left) left]? with
    | some x => order nd n (o ++ [x]) (left.take (lead (fun x => nd x left) left) ++ left.drop (lead (fun x => nd x left) left + 1))
    | none => (o, left)
theorem rising_cells (l : List Int) : ∀ x, x ∈ rising l → isCell x = true := by
  have key : ∀ (l out : List Int), (∀ x, x ∈ out → isCell x = true) → ∀ x, x ∈ l.foldl ins out → isCell x = true := by
    intro l
    induction l with
    | nil => intro out h; exact h
    | cons y l ih =>
      intro out h
      refine ih _ fun x hx => ?_
      unfold ins at hx
      split at hx
      · rename_i hc
        simp only [List.append_assoc, List.mem_append, List.mem_singleton] at hx
        rcases hx with hx | hx | hx
        · exact h x (List.mem_of_mem_take hx)
        · subst hx; exact hc.1
        · exact h x (List.mem_of_mem_drop hx)
      · exact h x hx
  exact key l [] (fun x hx => by simp at hx)
theorem isCell_bd {x : Int} (h : isCell x = true) : 0 ≤ x ∧ x < 64000 := by
  unfold isCell at h; simpa using h
theorem cells_64 {l : List Int} (h : ∀ x, x ∈ l → isCell x = true) : I64s l := fun x hx => by have := isCell_bd (h x hx); omega

def rord_J (b : Nat) (G : List Node) (l0 : List Int) (H : Heap) : Nat → Env → Heap → Prop := fun k env H1 => ∃ (o left : List Int) (t : Nat) (tl2 : Tail), env = [(0, .ptr (some ⟨b, 0, none⟩)), (6, .slice 1 (left.map (.int .i64)) tl2), (7, .slice 1 (o.map (.int .i64)) (.own t))] ∧ order (rNeedsOne G) left.length o left = order (rNeedsOne G) l0.length [] l0 ∧ I64s left ∧ left.length + o.length = l0.length ∧ H.le H1 ∧ H1.toks t = true ∧ H.toks t = false ∧ k = left.length

def rord_K (b : Nat) (G : List Node) (o left : List Int) (t : Nat) (tl2 : Tail) (H : Heap) : Nat → Env → Heap → Prop := fun k env H1 => ∃ j : Nat, j ≤ left.length ∧ j ≤ lead (fun x => rNeedsOne G x left) left ∧ env = [(0, .ptr (some ⟨b, 0, none⟩)), (6, .slice 1 (left.map (.int .i64)) tl2), (7, .slice 1 (o.map (.int .i64)) (.own t)), (8, .int .i64 j)] ∧ H = H1 ∧ k = left.length - j

set_option maxRecDepth 100000 in
theorem rOrder_calls (b : Nat) (G : List Node) (hG : G.length ≤ 10000) (hA : ∀ n, n ∈ G → n.areas.length ≤ 10000) (l : List Int) (tl : Tail) (hl : l.length ≤ 100000) (H : Heap) (hb : RBox H b G) : ACall Try.prog 16 [.ptr (some ⟨b, 0, none⟩), .slice 1 (l.map (.int .i64)) tl] H (fun x H' => x = .tuple [.slice 1 ((order (rNeedsOne G) (rising l).length [] (rising l)).1.map (.int .i64)) .shared, .slice 1 ((order (rNeedsOne G) (rising l).length [] (rising l)).2.map (.int .i64)) .shared] ∧ H = H') := by
  have hle := Heap.le.refl H
  have hrl := rising_len l []
  change (rising l).length ≤ _ at hrl
  simp only [List.length_nil] at hrl
  refine ACall.of_body Try.func16 rfl Try.ntmps16 Try.results16 rfl ?_
  refine AWP.seq ?_
  -- region 0
  refine AWP.region ?_
  refine AList.p rfl (pure_assign (ev_nil (sz := 1) (tl := .full))) ?_
  refine AList.p rfl (pure_assign (ev_nil (sz := 1) (tl := .full))) ?_
  refine AList.nil ?_
  refine Next.go ?_
  refine AWP.seq ?_
  -- region 1
  refine AWP.region ?_
  refine AList.p rfl (pure_move (.tmp _ _ rfl)) ?_
  refine AList.s rfl (step_call0 Try.call20 (.cons (.tmp _ _ rfl) .nil) (Rising_calls _ _ (by assumption) _)) ?_
  rintro _ _ ⟨rfl, rfl⟩
  refine AList.p rfl (pure_assign (.tmp _ _ rfl)) ?_
  refine AList.nil ?_
  refine Next.go ?_
  refine AWP.seq ?_
  -- region 2
  refine AWP.region ?_
  refine AList.p rfl (pure_assign (ev_nil (sz := 1) (tl := .full))) ?_
  refine AList.nil ?_
  refine Next.go ?_
  refine AWP.block ?_
  -- L0
  refine AWP.tag (t := 7) rfl (fun u7 hu7 => ?_)
  have hfu7 := Heap.fresh_of hle hu7
  have hleu7 := Heap.le_in hle u7
  refine AWP.loopW (rord_J b G (rising l) H) ((rising l).length) ⟨[], rising l, u7, .shared, rfl, rfl, cells_64 (rising_cells l), by simp, hleu7, Heap.toks_live_same _ _, hfu7, rfl⟩ (sub_c rfl (sub_c rfl (sub_c rfl sub_n))) (Heap.le.refl _) ?_
  rintro _ _ H1 ⟨o, left, t, tl2, rfl, hord, h64, hlen, hle, hlive, hfr, rfl⟩
  refine AWP.block ?_
  refine AWP.seq ?_
  -- region 3
  refine AWP.region ?_
  refine AList.p rfl (pure_assign ev_int) ?_
  refine AList.nil ?_
  refine Next.go ?_
  refine AWP.meet (fun env H2 => ∃ j : Nat, j = lead (fun x => rNeedsOne G x left) left ∧ j ≤ left.length ∧ env = [(0, .ptr (some ⟨b, 0, none⟩)), (6, .slice 1 (left.map (.int .i64)) tl2), (7, .slice 1 (o.map (.int .i64)) (.own t)), (8, .int .i64 j)] ∧ H1 = H2) ?_ ?_
  · refine AWP.block ?_
    -- L1
    refine AWP.loopW (rord_K b G o left t tl2 H1) (left.length) ⟨0, Nat.zero_le _, Nat.zero_le _, rfl, rfl, rfl⟩ (sub_c rfl (sub_c rfl (sub_c rfl (sub_c rfl sub_n)))) (Heap.le.refl _) ?_
    rintro _ _ _ ⟨j, hj, hjl, rfl, rfl, rfl⟩
    refine AWP.seq ?_
    refine AWP.seq ?_
    -- region 4
    refine AWP.region ?_
    refine AList.p rfl (pure_move (.tmp _ _ rfl)) ?_
    refine AList.p rfl (pure_move (.tmp _ _ rfl)) ?_
    first | (refine AList.p rfl (pure_lenL Try.underlying23 (.tmp _ _ rfl)) ?_) | (refine AList.p rfl (pure_lenS Try.underlying23 (.tmp _ _ rfl)) ?_) | (refine AList.p rfl (pure_lenM Try.underlying23 (.tmp _ _ rfl)) ?_)
    refine AList.p rfl (pure_lss (.tmp _ _ rfl) (.tmp _ _ rfl)) ?_
    refine AList.p rfl (pure_move (.tmp _ _ rfl)) ?_
    -- the guard in slot 15
    refine bool_casesL (t := 15) rfl (fun hg15 => ?_) (fun hg15 => ?_)
    · have hh15 := hg15; try simp only [decide_eq_true_eq] at hh15
      refine AList.gp rfl rfl rfl (by first | rfl | assumption) (pure_move (.tmp _ _ rfl)) ?_
      refine AList.gp rfl rfl rfl (by first | rfl | assumption) (pure_move (.tmp _ _ rfl)) ?_
      refine AList.gp rfl rfl rfl (by first | rfl | assumption) (pure_move (.tmp _ _ rfl)) ?_
      first | (refine AList.gp rfl rfl rfl (by first | rfl | assumption) (pure_indexL Try.underlying23 Try.sizeOf3 (.tmp _ _ rfl) (.tmp _ _ rfl) (by omega) (by omega)) ?_) | (refine AList.gp rfl rfl rfl (by first | rfl | assumption) (pure_indexM Try.underlying23 Try.sizeOf3 (.tmp _ _ rfl) (.tmp _ _ rfl) (by omega) (by omega)) ?_)
      first | (refine AList.gp rfl rfl rfl (by first | rfl | assumption) (pure_load1 Try.isAgg3 (.tmp _ _ rfl)) ?_) | (refine AList.gs rfl rfl rfl (by first | rfl | assumption) (step_load1 Try.isAgg3 (.tmp _ _ rfl) (by first | exact hb | exact hle.objs _ _ hb | assumption | exact (by assumption : Heap.le _ _).objs _ _ (by assumption) | exact Heap.objs_set_same _ _ _ | exact (Heap.objs_set_ne _ _ (by assumption)).trans (Heap.objs_set_same _ _ _) | exact (Heap.objs_set_ne _ _ (by assumption)).trans ((Heap.objs_set_ne _ _ (by assumption)).trans (Heap.objs_set_same _ _ _)) | exact (Heap.objs_set_ne _ _ (by assumption)).trans (by assumption)) rfl) ?_; rintro _ _ ⟨rfl, hH⟩; obtain rfl := hH.symm)
      refine AList.gp rfl rfl rfl (by first | rfl | assumption) (pure_move (.tmp _ _ rfl)) ?_
      refine AList.gs rfl rfl rfl (by first | rfl | assumption) (step_call0 Try.call36 (.cons (.tmp _ _ rfl) (.cons (.tmp _ _ rfl) (.cons (.tmp _ _ rfl) .nil))) (rNeedsOne_calls _ _ hG hA _ _ _ (by omega) h64 _ (hb.mono hle))) ?_
      rintro _ _ ⟨rfl, rfl⟩
      refine AList.p rfl (pure_pickT (.tmp _ _ rfl) (by first | rfl | assumption) (.tmp _ _ rfl)) ?_
      refine AList.nil ?_
      refine Next.go ?_
      -- c0
      refine AWP.cond (.tmp _ _ rfl) (fun hc23 => ?_) (fun hc23 => ?_)
      · try simp only [decide_eq_true_eq, decide_eq_false_iff_not, Bool.not_eq_true', Bool.not_eq_false', Int.not_lt, Int.not_le, ne_eq, Decidable.not_not] at hc23
        refine AWP.skip ?_
        refine Next.go ?_
        refine AWP.block ?_
        -- region 5
        refine AWP.region ?_
        refine AList.p rfl (pure_move (.tmp _ _ rfl)) ?_
        refine AList.p rfl (pure_add (.tmp _ _ rfl) ev_int (by omega)) ?_
        refine AList.p rfl (pure_assign (.tmp _ _ rfl)) ?_
        refine AList.nil ?_
        refine Block.go ?_
        refine Next.go ?_
        refine Round.mk (J := rord_K b G o left t tl2 H1) ⟨j + 1, by omega, lead_next hjl (by omega) (by simpa using hc23), rfl, rfl, rfl⟩ (sub_c rfl (sub_c rfl (sub_c rfl (sub_c rfl sub_n)))) (Heap.le.refl _) (by omega)
      · try simp only [decide_eq_true_eq, decide_eq_false_iff_not, Bool.not_eq_true', Bool.not_eq_false', Int.not_lt, Int.not_le, ne_eq, Decidable.not_not] at hc23
        refine AWP.exit ?_
        refine Next.ex ?_
        refine Next.ex ?_
        refine Block.hit ?_
        refine Next.go ?_
        refine Meets.mk (M := fun env H2 => ∃ j : Nat, j = lead (fun x => rNeedsOne G x left) left ∧ j ≤ left.length ∧ env = [(0, .ptr (some ⟨b, 0, none⟩)), (6, .slice 1 (left.map (.int .i64)) tl2), (7, .slice 1 (o.map (.int .i64)) (.own t)), (8, .int .i64 j)] ∧ H1 = H2) ⟨j, lead_stop hjl (fun h => by simpa using hc23), hj, rfl, rfl⟩ (sub_c rfl (sub_c rfl (sub_c rfl (sub_c rfl sub_n)))) (Heap.le.refl _)
    · have hh15 := hg15; try simp only [decide_eq_false_iff_not, Int.not_lt] at hh15
      refine AList.gn rfl rfl rfl (by first | rfl | assumption) ?_
      refine AList.gn rfl rfl rfl (by first | rfl | assumption) ?_
      refine AList.gn rfl rfl rfl (by first | rfl | assumption) ?_
      refine AList.gn rfl rfl rfl (by first | rfl | assumption) ?_
      refine AList.gn rfl rfl rfl (by first | rfl | assumption) ?_
      refine AList.gn rfl rfl rfl (by first | rfl | assumption) ?_
      refine AList.gn rfl rfl rfl (by first | rfl | assumption) ?_
      refine AList.p rfl (pure_pickF (.tmp _ _ rfl) (by first | rfl | assumption) ev_bool) ?_
      refine AList.nil ?_
      refine Next.go ?_
      -- c0
      refine AWP.cond_false (.tmp _ _ rfl) (by first | rfl | assumption) ?_
      refine AWP.exit ?_
      refine Next.ex ?_
      refine Next.ex ?_
      refine Block.hit ?_
      refine Next.go ?_
      refine Meets.mk (M := fun env H2 => ∃ j : Nat, j = lead (fun x => rNeedsOne G x left) left ∧ j ≤ left.length ∧ env = [(0, .ptr (some ⟨b, 0, none⟩)), (6, .slice 1 (left.map (.int .i64)) tl2), (7, .slice 1 (o.map (.int .i64)) (.own t)), (8, .int .i64 j)] ∧ H1 = H2) ⟨j, lead_stop hjl (fun h => by omega), hj, rfl, rfl⟩ (sub_c rfl (sub_c rfl (sub_c rfl (sub_c rfl sub_n)))) (Heap.le.refl _)
  · rintro _ _ ⟨j, hk, hj, rfl, rfl⟩
    refine AWP.seq ?_
    refine AWP.seq ?_
    -- region 6
    refine AWP.region ?_
    refine AList.p rfl (pure_move (.tmp _ _ rfl)) ?_
    refine AList.p rfl (pure_move (.tmp _ _ rfl)) ?_
    first | (refine AList.p rfl (pure_lenL Try.underlying23 (.tmp _ _ rfl)) ?_) | (refine AList.p rfl (pure_lenS Try.underlying23 (.tmp _ _ rfl)) ?_) | (refine AList.p rfl (pure_lenM Try.underlying23 (.tmp _ _ rfl)) ?_)
    refine AList.p rfl (pure_eql (.tmp _ _ rfl) (.tmp _ _ rfl)) ?_
    refine AList.nil ?_
    refine Next.go ?_
    -- c1
    refine AWP.cond (.tmp _ _ rfl) (fun hc29 => ?_) (fun hc29 => ?_)
    · try simp only [decide_eq_true_eq] at hc29
      refine AWP.seq ?_
      -- region 7
      refine AWP.region ?_
      refine AList.p rfl (pure_move (.tmp _ _ rfl)) ?_
      refine AList.p rfl (pure_move (.tmp _ _ rfl)) ?_
      refine AList.p rfl (pure_assign (.tmp _ _ rfl)) ?_
      refine AList.p rfl (pure_assign (.tmp _ _ rfl)) ?_
      refine AList.nil ?_
      refine Next.go ?_
      refine AWP.ret ?_
      refine Next.rt ?_
      refine Block.rt ?_
      refine Next.rt ?_
      refine Block.rt ?_
      -- ret 0
      refine Ret.go (.cons (.weak _ _ _ rfl (.slice _ _ _)) (.cons (.weak _ _ _ rfl (.slice _ _ _)) .nil)) _ (hle) ?_
      refine ⟨?_, rfl⟩
      have hj2 : left[lead (fun x => rNeedsOne G x left) left]? = none := by rw [← hk]; exact List.getElem?_eq_none (by omega)
      have hord2 : order (rNeedsOne G) left.length o left = (o, left) := by
        cases left.length with
        | zero => rfl
        | succ m => rw [order, hj2]
      rw [← hord, hord2]
      rfl
    · try simp only [decide_eq_false_iff_not] at hc29
      refine AWP.skip ?_
      refine Next.go ?_
      refine AWP.seq ?_
      -- region 8
      refine AWP.region ?_
      refine AList.p rfl (pure_move (.tmp _ _ rfl)) ?_
      refine AList.p rfl (pure_move (.tmp _ _ rfl)) ?_
      refine AList.p rfl (pure_move (.tmp _ _ rfl)) ?_
      first | (refine AList.p rfl (pure_indexL Try.underlying23 Try.sizeOf3 (.tmp _ _ rfl) (.tmp _ _ rfl) (by omega) (by omega)) ?_) | (refine AList.p rfl (pure_indexM Try.underlying23 Try.sizeOf3 (.tmp _ _ rfl) (.tmp _ _ rfl) (by omega) (by omega)) ?_)
      first | (refine AList.p rfl (pure_load1 Try.isAgg3 (.tmp _ _ rfl)) ?_) | (refine AList.s rfl (step_load1 Try.isAgg3 (.tmp _ _ rfl) (by first | exact hb | exact hle.objs _ _ hb | assumption | exact (by assumption : Heap.le _ _).objs _ _ (by assumption) | exact Heap.objs_set_same _ _ _ | exact (Heap.objs_set_ne _ _ (by assumption)).trans (Heap.objs_set_same _ _ _) | exact (Heap.objs_set_ne _ _ (by assumption)).trans ((Heap.objs_set_ne _ _ (by assumption)).trans (Heap.objs_set_same _ _ _)) | exact (Heap.objs_set_ne _ _ (by assumption)).trans (by assumption)) rfl) ?_; rintro _ _ ⟨rfl, hH⟩; obtain rfl := hH.symm)
      refine AList.s rfl (step_bs1 Try.underlying23 Try.sizeOf3 Try.zeroValue3 rfl (.tmp _ _ rfl) (.inl rfl) ⟨rfl, rfl⟩) ?_
      rintro _ _ ⟨rfl, hH⟩
      obtain rfl := hH.symm
      refine AList.s rfl (step_append Try.underlying23 Try.underlying23 Try.sizeOf3 Try.typeInfo3 Try.zeroValue3 rfl (by decide) (.tmp _ _ rfl) (.tmp _ _ rfl) (by exact .own _ (by first | assumption | exact Heap.toks_live_same _ _)) (by show (_ + _) * 8 ≤ _; simp; omega) (by repeat' (first | exact row_int _ | exact row_n | exact row_c ⟨rfl, rfl⟩ row_n | exact row_drop (row_int _) | exact row_take (row_int _) | refine row_app ?_ ?_)) (by repeat' (first | exact row_int _ | exact row_n | exact row_c ⟨rfl, rfl⟩ row_n | exact row_drop (row_int _) | exact row_take (row_int _) | refine row_app ?_ ?_))) ?_
      rintro _ _ ⟨t38, ht38, rfl, hH⟩
      obtain rfl := hH.symm
      have hf38 := Heap.fresh_of hle ht38
      have hle38 := Heap.le_in (Heap.le_out (t := t) hle (by assumption)) t38
      refine AList.p rfl (pure_assign (.tmp _ _ rfl)) ?_
      refine AList.nil ?_
      refine Next.go ?_
      -- region 9
      refine AWP.draw [(0, true), (1, true), (2, true), (3, true), (5, true), (6, true), (7, true), (8, true), (4, false), (9, false), (10, true)] rfl (by decide +kernel) ?_
      refine APlan.f rfl rfl (fun _ => step_bs0 Try.underlying23 Try.sizeOf3 Try.zeroValue3 ) ?_
      refine APlan.p rfl rfl (pure_move (.tmp _ _ rfl)) ?_
      refine APlan.p rfl rfl (pure_move (.tmp _ _ rfl)) ?_
      refine APlan.p rfl rfl (pure_sliceHiL Try.underlying23 Try.sizeOf3 (.tmp _ _ rfl) (.tmp _ _ rfl) (by omega) (by omega)) ?_
      refine APlan.p rfl rfl (pure_move (.tmp _ _ rfl)) ?_
      refine APlan.p rfl rfl (pure_move (.tmp _ _ rfl)) ?_
      refine APlan.p rfl rfl (pure_add (.tmp _ _ rfl) ev_int (by omega)) ?_
      refine APlan.p rfl rfl (pure_sliceLoL Try.underlying23 Try.sizeOf3 (.tmp _ _ rfl) (.tmp _ _ rfl) (by omega) (by omega)) ?_
      refine APlan.s rfl rfl (step_append Try.underlying23 Try.underlying23 Try.sizeOf3 Try.typeInfo3 Try.zeroValue3 rfl (by decide) (.tmp _ _ rfl) (.tmp _ _ rfl) (by exact .full) (by show (_ + _) * 8 ≤ _; simp; omega) (by repeat' (first | exact row_int _ | exact row_n | exact row_c ⟨rfl, rfl⟩ row_n | exact row_drop (row_int _) | exact row_take (row_int _) | refine row_app ?_ ?_)) (by repeat' (first | exact row_int _ | exact row_n | exact row_c ⟨rfl, rfl⟩ row_n | exact row_drop (row_int _) | exact row_take (row_int _) | refine row_app ?_ ?_))) ?_
      rintro _ _ ⟨t43, ht43, rfl, hH⟩
      obtain rfl := hH.symm
      have hf43 := Heap.fresh_of hle38 ht43
      have hle43 := Heap.le_in hle38 t43
      refine APlan.s rfl rfl (step_append Try.underlying23 Try.underlying23 Try.sizeOf3 Try.typeInfo3 Try.zeroValue3 rfl (by decide) (.tmp _ _ rfl) (.tmp _ _ rfl) (by exact .own _ (by first | assumption | exact Heap.toks_live_same _ _)) (by show (_ + _) * 8 ≤ _; simp; omega) (by repeat' (first | exact row_int _ | exact row_n | exact row_c ⟨rfl, rfl⟩ row_n | exact row_drop (row_int _) | exact row_take (row_int _) | refine row_app ?_ ?_)) (by repeat' (first | exact row_int _ | exact row_n | exact row_c ⟨rfl, rfl⟩ row_n | exact row_drop (row_int _) | exact row_take (row_int _) | refine row_app ?_ ?_))) ?_
      rintro _ _ ⟨t48, ht48, rfl, hH⟩
      obtain rfl := hH.symm
      have hf48 := Heap.fresh_of hle43 ht48
      have hle48 := Heap.le_in (Heap.le_out (t := t43) hle43 (by assumption)) t48
      refine APlan.p rfl rfl (pure_assign (.tmp _ _ rfl)) ?_
      refine APlan.nil ?_
      refine Block.go ?_
      refine Next.go ?_
      have hjl : j < left.length := by omega
      have hlenj : (left.take j ++ left.drop (j + 1)).length = left.length - 1 := by simp; omega
      have hx : left[lead (fun x => rNeedsOne G x left) left]? = some left[j] := by rw [← hk]; exact List.getElem?_eq_getElem hjl
      have hord2 : order (rNeedsOne G) (left.take j ++ left.drop (j + 1)).length (o ++ [left[j]]) (left.take j ++ left.drop (j + 1)) = order (rNeedsOne G) (rising l).length [] (rising l) := by
        rw [← hord, hlenj]
        obtain ⟨m, hm⟩ : ∃ m, left.length = m + 1 := ⟨left.length - 1, by omega⟩
        rw [hm, order, hx]
        simp only [← hk, Nat.add_sub_cancel]
      have h64b : I64s (left.take j ++ left.drop (j + 1)) := fun x hx => by rcases List.mem_append.1 hx with h | h; exact h64 x (List.mem_of_mem_take h); exact h64 x (List.mem_of_mem_drop h)
      have hlenb : (left.take j ++ left.drop (j + 1)).length + (o ++ [left[j]]).length = (rising l).length := by rw [hlenj]; simp; omega
      have hdec : (left.take j ++ left.drop (j + 1)).length < left.length := by omega
      refine Round.mk (J := rord_J b G (rising l) H) ⟨_, left.take j ++ left.drop (j + 1), t38, _, rfl, hord2, h64b, hlenb, hle48, Heap.toks_live (Heap.toks_kill (Heap.toks_live (Heap.toks_live_same _ _) _) (Heap.tok_ne (Heap.toks_live_same _ _) ht43)) _, hf38, rfl⟩ (sub_c rfl (sub_e rfl (slice_eq (by simp)) (sub_e rfl (slice_eq (by simp only [List.map_append, List.map_cons, List.map_nil, Int.toNat_natCast])) sub_n))) (Heap.le.refl _) (by exact hdec)

end Go.Proofs.Ytdibiongjkmlpaa
