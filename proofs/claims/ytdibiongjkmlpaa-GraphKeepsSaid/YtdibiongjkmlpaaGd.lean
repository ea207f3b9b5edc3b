/-
  The reference's graph: Set.
-/
import Derived.Test.YtdibiongjkmlpaaGc
namespace Go.Proofs.Ytdibiongjkmlpaa
open Go Go.RowKit

def rLeft (G : List Node) (at_ : Int) : List Node := G.filter fun n => decide (n.at_ ≠ at_)
def rPlace (at_ : Int) (l : List Node) : Nat := lead (fun n => decide (n.at_ < at_)) l
def rErr (G : List Node) (at_ : Int) (l : List Area) : Int :=
  if isCell at_ = false then 14 else if l.all Area.ok = false then 1 else if l.length > 500 ∨ ((rLeft G at_).length ≥ 2000 ∧ l.length > 0) then 5 else 0
def rPut (G : List Node) (at_ : Int) (l : List Area) : List Node :=
  if l.length > 0 then (rLeft G at_).take (rPlace at_ (rLeft G at_)) ++ [⟨at_, l⟩] ++ (rLeft G at_).drop (rPlace at_ (rLeft G at_)) else rLeft G at_
def rSet (G : List Node) (at_ : Int) (l : List Area) : List Node := if rErr G at_ l = 0 then rPut G at_ l else G
def GBox (G : List Node) : AObj := .box 56 [.slice 2 (G.map Node.av) .shared]
theorem rLeft_len (G : List Node) (at_ : Int) : (rLeft G at_).length ≤ G.length := List.length_filter_le _ _
theorem RBox.le_set {H : Heap} {b : Nat} {G : List Node} (h : RBox H b G) : H.set b (GBox G) = H := by
  cases H with
  | mk objs toks =>
    simp only [Heap.set, Heap.mk.injEq, and_true]
    funext k
    split
    · rename_i e; subst e; exact h.symm
    · rfl

theorem zr70 : ∀ g, RelCells g [.int .i64 0, .slice 8 [] .full] (Value.cells (Go.Value.agg #[Go.Value.int Go.IntKind.i64 0, Go.Value.slice none 0 0])) := fun g => RelL.cells (.cons (.int _ _) (.cons (.nilSlice _ _) .nil))
theorem pl70 (fs : Array Field) (hfs : Try.prog.underlying 70 = some (.struct fs)) : ∀ (i : Nat) f p, fs[i]? = some f → [(0, 1), (1, 1)][i]? = some p → ∀ w, (sizeOf f.type).run Try.prog w = .ok p.2 w := by
  have e := (Option.some.inj (hfs.symm.trans Try.underlying70))
  cases e
  intro i f p hf hp w
  match i with
  | 0 => cases hf; cases hp; exact Try.sizeOf3 w
  | 1 => cases hf; cases hp; exact Try.sizeOf41 w
  | i + 2 => simp at hp

def rset_I (b : Nat) (at_ : Int) (l : List Area) (tl : Tail) (H : Heap) : Nat → Env → Heap → Prop := fun k env H1 => ∃ i : Nat, i ≤ l.length ∧ (l.take i).all Area.ok = true ∧ env = [(0, .ptr (some ⟨b, 0, none⟩)), (1, .int .i64 at_), (2, .slice 8 (l.map Area.av) tl), (8, .int .i64 i)] ∧ H = H1 ∧ k = l.length - i

def rset_J (b : Nat) (G : List Node) (at_ : Int) (l : List Area) (tl : Tail) (H : Heap) : Nat → Env → Heap → Prop := fun k env H1 => ∃ (i t : Nat), i ≤ G.length ∧ env = [(0, .ptr (some ⟨b, 0, none⟩)), (1, .int .i64 at_), (2, .slice 8 (l.map Area.av) tl), (10, .slice 2 ((rLeft (G.take i) at_).map Node.av) (.own t)), (11, .int .i64 i)] ∧ H.le H1 ∧ H1.toks t = true ∧ H.toks t = false ∧ k = G.length - i

def rset_L (b : Nat) (G : List Node) (at_ : Int) (l : List Area) (tl : Tail) (t : Nat) (H : Heap) : Nat → Env → Heap → Prop := fun k env H1 => ∃ j : Nat, j ≤ (rLeft G at_).length ∧ j ≤ rPlace at_ (rLeft G at_) ∧ env = [(0, .ptr (some ⟨b, 0, none⟩)), (1, .int .i64 at_), (2, .slice 8 (l.map Area.av) tl), (10, .slice 2 ((rLeft G at_).map Node.av) (.own t)), (12, .int .i64 j)] ∧ H = H1 ∧ k = (rLeft G at_).length - j

set_option maxRecDepth 100000 in
set_option maxHeartbeats 1000000 in
theorem rSet_calls (b : Nat) (G : List Node) (hG : G.length ≤ 10000) (hA : ∀ n, n ∈ G → n.areas.length ≤ 10000) (at_ : Int) (l : List Area) (tl : Tail) (hl : l.length ≤ 10000) (H : Heap) (hb : RBox H b G) : ACall Try.prog 32 [.ptr (some ⟨b, 0, none⟩), .int .i64 at_, .slice 8 (l.map Area.av) tl] H (fun x H' => x = .int .i64 (rErr G at_ l) ∧ H' = H.set b (GBox (rSet G at_ l))) := by
  have hle := Heap.le.refl H
  refine ACall.of_body Try.func32 rfl Try.ntmps32 Try.results32 rfl ?_
  refine AWP.seq ?_
  -- region 0
  refine AWP.region ?_
  refine AList.p rfl (pure_assign ev_int) ?_
  refine AList.nil ?_
  refine Next.go ?_
  refine AWP.seq ?_
  -- region 1
  refine AWP.region ?_
  refine AList.p rfl (pure_move (.tmp _ _ rfl)) ?_
  refine AList.s rfl (step_call0 Try.call44 (.cons (.tmp _ _ rfl) .nil) (cell_calls _ _)) ?_
  rintro _ _ ⟨rfl, hH⟩
  obtain rfl := hH.symm
  refine AList.p rfl (pure_assign (.tmp _ _ rfl)) ?_
  refine AList.nil ?_
  refine Next.go ?_
  refine AWP.seq ?_
  refine AWP.seq ?_
  -- region 2
  refine AWP.region ?_
  refine AList.p rfl (pure_move (.tmp _ _ rfl)) ?_
  refine AList.p rfl (pure_not (.tmp _ _ rfl)) ?_
  refine AList.nil ?_
  refine Next.go ?_
  -- c0
  refine AWP.cond (.tmp _ _ rfl) (fun hc16 => ?_) (fun hc16 => ?_)
  · try simp only [Bool.not_eq_true'] at hc16
    refine AWP.seq ?_
    -- region 3
    refine AWP.region ?_
    refine AList.p rfl (pure_assign ev_int) ?_
    refine AList.nil ?_
    refine Next.go ?_
    refine AWP.ret ?_
    refine Next.rt ?_
    -- ret 0
    refine Ret.go (.cons (.tmp _ _ rfl) .nil) _ (hle) ?_
    have he : rErr G at_ l = 14 := by simp [rErr, hc16]
    refine ⟨by rw [he]; rfl, ?_⟩
    rw [rSet, he, if_neg (by decide)]
    exact (RBox.le_set hb).symm
  · try simp only [Bool.not_eq_false'] at hc16
    refine AWP.skip ?_
    refine Next.go ?_
    refine AWP.seq ?_
    refine AWP.seq ?_
    -- region 4
    refine AWP.region ?_
    refine AList.p rfl (pure_assign ev_int) ?_
    refine AList.nil ?_
    refine Next.go ?_
    refine AWP.block ?_
    -- L0
    refine AWP.loopW (rset_I b at_ l tl H) (l.length) ⟨0, Nat.zero_le _, by simp, rfl, rfl, by omega⟩ (sub_c rfl (sub_c rfl (sub_c rfl (sub_c rfl sub_n)))) (Heap.le.refl _) ?_
    rintro _ _ _ ⟨i, hi, hp, rfl, rfl, rfl⟩
    refine AWP.seq ?_
    refine AWP.seq ?_
    -- region 5
    refine AWP.region ?_
    refine AList.p rfl (pure_move (.tmp _ _ rfl)) ?_
    refine AList.p rfl (pure_move (.tmp _ _ rfl)) ?_
    first | (refine AList.p rfl (pure_lenL Try.underlying41 (.tmp _ _ rfl)) ?_) | (refine AList.p rfl (pure_lenS Try.underlying41 (.tmp _ _ rfl)) ?_) | (refine AList.p rfl (pure_lenM Try.underlying41 (.tmp _ _ rfl)) ?_)
    refine AList.p rfl (pure_lss (.tmp _ _ rfl) (.tmp _ _ rfl)) ?_
    refine AList.nil ?_
    refine Next.go ?_
    -- c1
    refine AWP.cond (.tmp _ _ rfl) (fun hc20 => ?_) (fun hc20 => ?_)
    · try simp only [decide_eq_true_eq] at hc20
      refine AWP.skip ?_
      refine Next.go ?_
      refine AWP.seq ?_
      refine AWP.block ?_
      refine AWP.seq ?_
      -- region 7
      refine AWP.region ?_
      refine AList.p rfl (pure_move (.tmp _ _ rfl)) ?_
      refine AList.p rfl (pure_move (.tmp _ _ rfl)) ?_
      first | (refine AList.p rfl (pure_indexL Try.underlying41 Try.sizeOf60 (.tmp _ _ rfl) (.tmp _ _ rfl) (by omega) (by omega)) ?_) | (refine AList.p rfl (pure_indexM Try.underlying41 Try.sizeOf60 (.tmp _ _ rfl) (.tmp _ _ rfl) (by omega) (by omega)) ?_)
      first | (refine AList.p rfl (pure_loadN Try.isAgg60 Try.sizeOf60 (.tmp _ _ rfl) (Nat.le_of_ble_eq_true rfl)) ?_) | (refine AList.s rfl (step_loadN Try.isAgg60 Try.sizeOf60 (.tmp _ _ rfl) (by first | exact hb | exact hle.objs _ _ hb | exact hbS | exact hle110.objs _ _ (Heap.objs_set_same _ _ _) | assumption | exact (by assumption : Heap.le _ _).objs _ _ (by assumption) | exact Heap.objs_set_same _ _ _ | exact (Heap.objs_set_ne _ _ (by assumption)).trans (Heap.objs_set_same _ _ _) | exact (Heap.objs_set_ne _ _ (by assumption)).trans ((Heap.objs_set_ne _ _ (by assumption)).trans (Heap.objs_set_same _ _ _)) | exact (Heap.objs_set_ne _ _ (by assumption)).trans (by assumption)) (Nat.le_of_ble_eq_true rfl)) ?_; rintro _ _ ⟨rfl, hH⟩; obtain rfl := hH.symm)
      refine AList.s rfl (step_call0 Try.call55 (.cons (.tmp _ _ rfl) .nil) (refArea_calls ⟨⟨_, _, _, _⟩, ⟨_, _, _, _⟩⟩ _)) ?_
      rintro _ _ ⟨rfl, hH⟩
      obtain rfl := hH.symm
      refine AList.p rfl (pure_assign (.tmp _ _ rfl)) ?_
      refine AList.nil ?_
      refine Next.go ?_
      refine AWP.seq ?_
      -- region 8
      refine AWP.region ?_
      refine AList.p rfl (pure_move (.tmp _ _ rfl)) ?_
      refine AList.p rfl (pure_not (.tmp _ _ rfl)) ?_
      refine AList.nil ?_
      refine Next.go ?_
      -- c2
      refine AWP.cond (.tmp _ _ rfl) (fun hc29 => ?_) (fun hc29 => ?_)
      · try simp only [Bool.not_eq_true'] at hc29
        refine AWP.seq ?_
        -- region 9
        refine AWP.region ?_
        refine AList.p rfl (pure_assign ev_int) ?_
        refine AList.nil ?_
        refine Next.go ?_
        refine AWP.ret ?_
        refine Block.rt ?_
        refine Next.rt ?_
        refine Next.rt ?_
        refine Block.rt ?_
        refine Next.rt ?_
        -- ret 1
        refine Ret.go (.cons (.tmp _ _ rfl) .nil) _ (hle) ?_
        have hno : l.all Area.ok = false := List.all_eq_false.2 ⟨_, List.getElem_mem (show i < l.length by omega), by simpa using hc29⟩
        have he : rErr G at_ l = 1 := by simp [rErr, hc16, hno]
        refine ⟨by rw [he]; rfl, ?_⟩
        rw [rSet, he, if_neg (by decide)]
        exact (RBox.le_set hb).symm
      · try simp only [Bool.not_eq_false'] at hc29
        refine AWP.skip ?_
        refine Block.go ?_
        refine Next.go ?_
        -- region 6
        refine AWP.region ?_
        refine AList.p rfl (pure_move (.tmp _ _ rfl)) ?_
        refine AList.p rfl (pure_add (.tmp _ _ rfl) ev_int (by omega)) ?_
        refine AList.p rfl (pure_assign (.tmp _ _ rfl)) ?_
        refine AList.nil ?_
        refine Next.go ?_
        refine Round.mk (J := rset_I b at_ l tl H) ⟨i + 1, by omega, by rw [take_succ_get l i (by omega), List.all_append, hp]; simpa using hc29, rfl, rfl, rfl⟩ (sub_c rfl (sub_c rfl (sub_c rfl (sub_c rfl sub_n)))) (Heap.le.refl _) (by omega)
    · try simp only [decide_eq_false_iff_not, Int.not_lt] at hc20
      refine AWP.exit ?_
      refine Next.ex ?_
      refine Next.ex ?_
      refine Block.hit ?_
      refine Next.go ?_
      refine AWP.seq ?_
      have hall : l.all Area.ok = true := by rw [List.take_of_length_le (by omega)] at hp; exact hp
      -- region 10
      refine AWP.region ?_
      refine AList.p rfl (pure_assign (ev_nil (sz := 2) (tl := .full))) ?_
      refine AList.nil ?_
      refine Next.go ?_
      refine AWP.seq ?_
      refine AWP.seq ?_
      -- region 11
      refine AWP.region ?_
      refine AList.p rfl (pure_assign ev_int) ?_
      refine AList.nil ?_
      refine Next.go ?_
      refine AWP.block ?_
      -- L1
      refine AWP.tag (t := 10) rfl (fun u10 hu10 => ?_)
      have hfu10 := Heap.fresh_of hle hu10
      have hleu10 := Heap.le_in hle u10
      refine AWP.loopW (rset_J b G at_ l tl H) (G.length) ⟨0, u10, Nat.zero_le _, rfl, hleu10, Heap.toks_live_same _ _, hfu10, by omega⟩ (sub_c rfl (sub_c rfl (sub_c rfl (sub_c rfl (sub_c rfl sub_n))))) (Heap.le.refl _) ?_
      rintro _ _ H1 ⟨i, t, hi, rfl, hle, hlive, hfr, rfl⟩
      refine AWP.seq ?_
      refine AWP.seq ?_
      -- region 12
      refine AWP.region ?_
      refine AList.p rfl (pure_move (.tmp _ _ rfl)) ?_
      refine AList.p rfl (pure_move (.tmp _ _ rfl)) ?_
      first | (refine AList.p rfl (pure_nilCheckI (.tmp _ _ rfl)) ?_) | (refine AList.p rfl (pure_nilCheck (.tmp _ _ rfl)) ?_) | (refine AList.p rfl (pure_nilCheckF (.tmp _ _ rfl)) ?_)
      first | (refine AList.p rfl (pure_fieldI Try.underlying56 rfl Try.sizeOf54 (.tmp _ _ rfl)) ?_) | (refine AList.p rfl (pure_field Try.underlying56 rfl Try.sizeOf54 (.tmp _ _ rfl)) ?_)
      first | (refine AList.p rfl (pure_load1 Try.isAgg54 (.tmp _ _ rfl)) ?_) | (refine AList.s rfl (step_load1 Try.isAgg54 (.tmp _ _ rfl) (by first | exact hb | exact hle.objs _ _ hb | exact hbS | exact hle110.objs _ _ (Heap.objs_set_same _ _ _) | assumption | exact (by assumption : Heap.le _ _).objs _ _ (by assumption) | exact Heap.objs_set_same _ _ _ | exact (Heap.objs_set_ne _ _ (by assumption)).trans (Heap.objs_set_same _ _ _) | exact (Heap.objs_set_ne _ _ (by assumption)).trans ((Heap.objs_set_ne _ _ (by assumption)).trans (Heap.objs_set_same _ _ _)) | exact (Heap.objs_set_ne _ _ (by assumption)).trans (by assumption)) rfl) ?_; rintro _ _ ⟨rfl, hH⟩; obtain rfl := hH.symm)
      first | (refine AList.p rfl (pure_lenL Try.underlying54 (.tmp _ _ rfl)) ?_) | (refine AList.p rfl (pure_lenS Try.underlying54 (.tmp _ _ rfl)) ?_) | (refine AList.p rfl (pure_lenM Try.underlying54 (.tmp _ _ rfl)) ?_)
      refine AList.p rfl (pure_lss (.tmp _ _ rfl) (.tmp _ _ rfl)) ?_
      refine AList.nil ?_
      refine Next.go ?_
      -- c3
      refine AWP.cond (.tmp _ _ rfl) (fun hc36 => ?_) (fun hc36 => ?_)
      · try simp only [decide_eq_true_eq] at hc36
        refine AWP.skip ?_
        refine Next.go ?_
        refine AWP.seq ?_
        refine AWP.block ?_
        refine AWP.seq ?_
        -- region 14
        refine AWP.region ?_
        refine AList.p rfl (pure_move (.tmp _ _ rfl)) ?_
        first | (refine AList.p rfl (pure_nilCheckI (.tmp _ _ rfl)) ?_) | (refine AList.p rfl (pure_nilCheck (.tmp _ _ rfl)) ?_) | (refine AList.p rfl (pure_nilCheckF (.tmp _ _ rfl)) ?_)
        first | (refine AList.p rfl (pure_fieldI Try.underlying56 rfl Try.sizeOf54 (.tmp _ _ rfl)) ?_) | (refine AList.p rfl (pure_field Try.underlying56 rfl Try.sizeOf54 (.tmp _ _ rfl)) ?_)
        first | (refine AList.p rfl (pure_load1 Try.isAgg54 (.tmp _ _ rfl)) ?_) | (refine AList.s rfl (step_load1 Try.isAgg54 (.tmp _ _ rfl) (by first | exact hb | exact hle.objs _ _ hb | exact hbS | exact hle110.objs _ _ (Heap.objs_set_same _ _ _) | assumption | exact (by assumption : Heap.le _ _).objs _ _ (by assumption) | exact Heap.objs_set_same _ _ _ | exact (Heap.objs_set_ne _ _ (by assumption)).trans (Heap.objs_set_same _ _ _) | exact (Heap.objs_set_ne _ _ (by assumption)).trans ((Heap.objs_set_ne _ _ (by assumption)).trans (Heap.objs_set_same _ _ _)) | exact (Heap.objs_set_ne _ _ (by assumption)).trans (by assumption)) rfl) ?_; rintro _ _ ⟨rfl, hH⟩; obtain rfl := hH.symm)
        refine AList.p rfl (pure_move (.tmp _ _ rfl)) ?_
        first | (refine AList.p rfl (pure_indexL Try.underlying54 Try.sizeOf70 (.tmp _ _ rfl) (.tmp _ _ rfl) (by omega) (by omega)) ?_) | (refine AList.p rfl (pure_indexM Try.underlying54 Try.sizeOf70 (.tmp _ _ rfl) (.tmp _ _ rfl) (by omega) (by omega)) ?_)
        first | (refine AList.p rfl (pure_fieldI Try.underlying70 rfl Try.sizeOf3 (.tmp _ _ rfl)) ?_) | (refine AList.p rfl (pure_field Try.underlying70 rfl Try.sizeOf3 (.tmp _ _ rfl)) ?_)
        first | (refine AList.p rfl (pure_load1 Try.isAgg3 (.tmp _ _ rfl)) ?_) | (refine AList.s rfl (step_load1 Try.isAgg3 (.tmp _ _ rfl) (by first | exact hb | exact hle.objs _ _ hb | exact hbS | exact hle110.objs _ _ (Heap.objs_set_same _ _ _) | assumption | exact (by assumption : Heap.le _ _).objs _ _ (by assumption) | exact Heap.objs_set_same _ _ _ | exact (Heap.objs_set_ne _ _ (by assumption)).trans (Heap.objs_set_same _ _ _) | exact (Heap.objs_set_ne _ _ (by assumption)).trans ((Heap.objs_set_ne _ _ (by assumption)).trans (Heap.objs_set_same _ _ _)) | exact (Heap.objs_set_ne _ _ (by assumption)).trans (by assumption)) rfl) ?_; rintro _ _ ⟨rfl, hH⟩; obtain rfl := hH.symm)
        refine AList.p rfl (pure_move (.tmp _ _ rfl)) ?_
        refine AList.p rfl (pure_neq (.tmp _ _ rfl) (.tmp _ _ rfl)) ?_
        refine AList.nil ?_
        refine Next.go ?_
        -- c4
        refine AWP.cond (.tmp _ _ rfl) (fun hc48 => ?_) (fun hc48 => ?_)
        · try simp only [decide_eq_true_eq, ne_eq] at hc48
          -- region 15
          refine AWP.region ?_
          refine AList.p rfl (pure_move (.tmp _ _ rfl)) ?_
          refine AList.p rfl (pure_move (.tmp _ _ rfl)) ?_
          first | (refine AList.p rfl (pure_nilCheckI (.tmp _ _ rfl)) ?_) | (refine AList.p rfl (pure_nilCheck (.tmp _ _ rfl)) ?_) | (refine AList.p rfl (pure_nilCheckF (.tmp _ _ rfl)) ?_)
          first | (refine AList.p rfl (pure_fieldI Try.underlying56 rfl Try.sizeOf54 (.tmp _ _ rfl)) ?_) | (refine AList.p rfl (pure_field Try.underlying56 rfl Try.sizeOf54 (.tmp _ _ rfl)) ?_)
          first | (refine AList.p rfl (pure_load1 Try.isAgg54 (.tmp _ _ rfl)) ?_) | (refine AList.s rfl (step_load1 Try.isAgg54 (.tmp _ _ rfl) (by first | exact hb | exact hle.objs _ _ hb | exact hbS | exact hle110.objs _ _ (Heap.objs_set_same _ _ _) | assumption | exact (by assumption : Heap.le _ _).objs _ _ (by assumption) | exact Heap.objs_set_same _ _ _ | exact (Heap.objs_set_ne _ _ (by assumption)).trans (Heap.objs_set_same _ _ _) | exact (Heap.objs_set_ne _ _ (by assumption)).trans ((Heap.objs_set_ne _ _ (by assumption)).trans (Heap.objs_set_same _ _ _)) | exact (Heap.objs_set_ne _ _ (by assumption)).trans (by assumption)) rfl) ?_; rintro _ _ ⟨rfl, hH⟩; obtain rfl := hH.symm)
          refine AList.p rfl (pure_move (.tmp _ _ rfl)) ?_
          first | (refine AList.p rfl (pure_indexL Try.underlying54 Try.sizeOf70 (.tmp _ _ rfl) (.tmp _ _ rfl) (by omega) (by omega)) ?_) | (refine AList.p rfl (pure_indexM Try.underlying54 Try.sizeOf70 (.tmp _ _ rfl) (.tmp _ _ rfl) (by omega) (by omega)) ?_)
          first | (refine AList.p rfl (pure_loadN Try.isAgg70 Try.sizeOf70 (.tmp _ _ rfl) (Nat.le_of_ble_eq_true rfl)) ?_) | (refine AList.s rfl (step_loadN Try.isAgg70 Try.sizeOf70 (.tmp _ _ rfl) (by first | exact hb | exact hle.objs _ _ hb | exact hbS | exact hle110.objs _ _ (Heap.objs_set_same _ _ _) | assumption | exact (by assumption : Heap.le _ _).objs _ _ (by assumption) | exact Heap.objs_set_same _ _ _ | exact (Heap.objs_set_ne _ _ (by assumption)).trans (Heap.objs_set_same _ _ _) | exact (Heap.objs_set_ne _ _ (by assumption)).trans ((Heap.objs_set_ne _ _ (by assumption)).trans (Heap.objs_set_same _ _ _)) | exact (Heap.objs_set_ne _ _ (by assumption)).trans (by assumption)) (Nat.le_of_ble_eq_true rfl)) ?_; rintro _ _ ⟨rfl, hH⟩; obtain rfl := hH.symm)
          refine AList.s rfl (step_bs1 Try.underlying54 Try.sizeOf70 Try.zeroValue70 rfl (.tmp _ _ rfl) (.inr ⟨_, rfl⟩) ⟨rfl, rfl⟩) ?_
          rintro _ _ ⟨rfl, hH⟩
          obtain rfl := hH.symm
          refine AList.s rfl (step_append Try.underlying54 Try.underlying54 Try.sizeOf70 Try.typeInfo70 Try.zeroValue70 rfl (by decide) (.tmp _ _ rfl) (.tmp _ _ rfl) (by exact .own _ (by first | assumption | exact Heap.toks_live_same _ _)) (by have := rLeft_len (G.take i) at_; show (_ + _) * 32 ≤ _; simp at this ⊢; omega) (by repeat' (first | exact row_int _ | exact row_n | exact row_c ⟨rfl, rfl⟩ row_n | exact row_drop (row_int _) | exact row_take (row_int _) | refine row_app ?_ ?_ | exact row_node _)) (by repeat' (first | exact row_int _ | exact row_n | exact row_c ⟨rfl, rfl⟩ row_n | exact row_drop (row_int _) | exact row_take (row_int _) | refine row_app ?_ ?_))) ?_
          rintro _ _ ⟨t58, ht58, rfl, hH⟩
          obtain rfl := hH.symm
          have hf58 := Heap.fresh_of hle ht58
          have hle58 := Heap.le_in (Heap.le_out (t := t) hle (by assumption)) t58
          refine AList.p rfl (pure_assign (.tmp _ _ rfl)) ?_
          refine AList.nil ?_
          refine Block.go ?_
          refine Next.go ?_
          -- region 13
          refine AWP.region ?_
          refine AList.p rfl (pure_move (.tmp _ _ rfl)) ?_
          refine AList.p rfl (pure_add (.tmp _ _ rfl) ev_int (by omega)) ?_
          refine AList.p rfl (pure_assign (.tmp _ _ rfl)) ?_
          refine AList.nil ?_
          refine Next.go ?_
          refine Round.mk (J := rset_J b G at_ l tl H) ⟨i + 1, t58, by omega, rfl, hle58, Heap.toks_live_same _ _, hf58, rfl⟩ (sub_c rfl (sub_c rfl (sub_c rfl (sub_e rfl (slice_eq (by rw [take_succ_get G i (by omega)]; simp only [rLeft, List.map_append, List.filter_append, List.filter_cons, Int.toNat_natCast] at hc48 ⊢; rw [if_pos (by simpa using hc48)]; simp [Node.av, AV.cells])) (sub_c rfl sub_n))))) (Heap.le.refl _) (by omega)
        · try simp only [decide_eq_false_iff_not, ne_eq, Decidable.not_not] at hc48
          refine AWP.skip ?_
          refine Block.go ?_
          refine Next.go ?_
          -- region 13
          refine AWP.region ?_
          refine AList.p rfl (pure_move (.tmp _ _ rfl)) ?_
          refine AList.p rfl (pure_add (.tmp _ _ rfl) ev_int (by omega)) ?_
          refine AList.p rfl (pure_assign (.tmp _ _ rfl)) ?_
          refine AList.nil ?_
          refine Next.go ?_
          refine Round.mk (J := rset_J b G at_ l tl H) ⟨i + 1, t, by omega, rfl, hle, hlive, hfr, rfl⟩ (sub_c rfl (sub_c rfl (sub_c rfl (sub_e rfl (slice_eq (by rw [take_succ_get G i (by omega)]; simp only [rLeft, List.map_append, List.filter_append, List.filter_cons, Int.toNat_natCast] at hc48 ⊢; rw [if_neg (by simpa using hc48)]; simp [])) (sub_c rfl sub_n))))) (Heap.le.refl _) (by omega)
      · try simp only [decide_eq_false_iff_not, Int.not_lt] at hc36
        refine AWP.exit ?_
        refine Next.ex ?_
        refine Next.ex ?_
        refine Block.hit ?_
        refine Next.go ?_
        refine AWP.seq ?_
        refine AWP.seqTo 71 (.bool (decide (l.length > 500 ∨ ((rLeft G at_).length ≥ 2000 ∧ l.length > 0)))) [0, 1, 2, 10, 11, 36] ?_ ?_
        · obtain rfl : i = G.length := by omega
          rw [List.take_length]
          -- region 16
          refine AWP.region ?_
          refine AList.p rfl (pure_move (.tmp _ _ rfl)) ?_
          first | (refine AList.p rfl (pure_lenL Try.underlying41 (.tmp _ _ rfl)) ?_) | (refine AList.p rfl (pure_lenS Try.underlying41 (.tmp _ _ rfl)) ?_) | (refine AList.p rfl (pure_lenM Try.underlying41 (.tmp _ _ rfl)) ?_)
          refine AList.p rfl (pure_gtr (.tmp _ _ rfl) ev_int) ?_
          refine AList.p rfl (pure_move (.tmp _ _ rfl)) ?_
          -- the guard in slot 62
          refine bool_casesL (t := 62) rfl (fun hg62 => ?_) (fun hg62 => ?_)
          · have hh62 := hg62; try simp only [decide_eq_true_eq] at hh62
            refine AList.gn rfl rfl rfl (by first | rfl | assumption) ?_
            refine AList.gn rfl rfl rfl (by first | rfl | assumption) ?_
            refine AList.gn rfl rfl rfl (by first | rfl | assumption) ?_
            refine AList.gn rfl rfl rfl (by first | rfl | assumption) ?_
            refine AList.gdead rfl rfl rfl ?_
            refine AList.gdead rfl rfl rfl ?_
            refine AList.gdead rfl rfl rfl ?_
            refine AList.gn rfl rfl rfl (by first | rfl | assumption) ?_
            refine AList.p rfl (pure_pickT (.tmp _ _ rfl) (by first | rfl | assumption) ev_bool) ?_
            refine AList.nil ?_
            exact ⟨rfl, sub_b rfl (by first | rfl | (refine decide_eq_decide.2 ?_; omega) | (refine (decide_eq_true ?_).symm; omega) | (refine (decide_eq_false ?_).symm; omega) | (simp [*]; done) | simp_all) (sub_c rfl (sub_c rfl (sub_c rfl (sub_c rfl (sub_c rfl (sub_c rfl sub_n)))))), rfl⟩
          · have hh62 := hg62; try simp only [decide_eq_false_iff_not, Int.not_lt] at hh62
            refine AList.gp rfl rfl rfl (by first | rfl | assumption) (pure_move (.tmp _ _ rfl)) ?_
            first | (refine AList.gp rfl rfl rfl (by first | rfl | assumption) (pure_lenL Try.underlying54 (.tmp _ _ rfl)) ?_) | (refine AList.gp rfl rfl rfl (by first | rfl | assumption) (pure_lenS Try.underlying54 (.tmp _ _ rfl)) ?_) | (refine AList.gp rfl rfl rfl (by first | rfl | assumption) (pure_lenM Try.underlying54 (.tmp _ _ rfl)) ?_)
            refine AList.gp rfl rfl rfl (by first | rfl | assumption) (pure_geq (.tmp _ _ rfl) ev_int) ?_
            refine AList.gp rfl rfl rfl (by first | rfl | assumption) (pure_move (.tmp _ _ rfl)) ?_
            -- the guard in slot 66
            refine bool_casesL (t := 66) rfl (fun hg66 => ?_) (fun hg66 => ?_)
            · have hh66 := hg66; try simp only [decide_eq_true_eq] at hh66
              refine AList.gp rfl rfl rfl (by first | rfl | assumption) (pure_move (.tmp _ _ rfl)) ?_
              first | (refine AList.gp rfl rfl rfl (by first | rfl | assumption) (pure_lenL Try.underlying41 (.tmp _ _ rfl)) ?_) | (refine AList.gp rfl rfl rfl (by first | rfl | assumption) (pure_lenS Try.underlying41 (.tmp _ _ rfl)) ?_) | (refine AList.gp rfl rfl rfl (by first | rfl | assumption) (pure_lenM Try.underlying41 (.tmp _ _ rfl)) ?_)
              refine AList.gp rfl rfl rfl (by first | rfl | assumption) (pure_gtr (.tmp _ _ rfl) ev_int) ?_
              refine AList.gp rfl rfl rfl (by first | rfl | assumption) (pure_pickT (.tmp _ _ rfl) (by first | rfl | assumption) (.tmp _ _ rfl)) ?_
              refine AList.p rfl (pure_pickF (.tmp _ _ rfl) (by first | rfl | assumption) (.tmp _ _ rfl)) ?_
              refine AList.nil ?_
              exact ⟨rfl, sub_b rfl (by first | rfl | (refine decide_eq_decide.2 ?_; omega) | (refine (decide_eq_true ?_).symm; omega) | (refine (decide_eq_false ?_).symm; omega) | (simp [*]; done) | simp_all) (sub_c rfl (sub_c rfl (sub_c rfl (sub_c rfl (sub_c rfl (sub_c rfl sub_n)))))), rfl⟩
            · have hh66 := hg66; try simp only [decide_eq_false_iff_not, Int.not_le] at hh66
              refine AList.gn rfl rfl rfl (by first | rfl | assumption) ?_
              refine AList.gn rfl rfl rfl (by first | rfl | assumption) ?_
              refine AList.gn rfl rfl rfl (by first | rfl | assumption) ?_
              refine AList.gp rfl rfl rfl (by first | rfl | assumption) (pure_pickF (.tmp _ _ rfl) (by first | rfl | assumption) ev_bool) ?_
              refine AList.p rfl (pure_pickF (.tmp _ _ rfl) (by first | rfl | assumption) (.tmp _ _ rfl)) ?_
              refine AList.nil ?_
              exact ⟨rfl, sub_b rfl (by first | rfl | (refine decide_eq_decide.2 ?_; omega) | (refine (decide_eq_true ?_).symm; omega) | (refine (decide_eq_false ?_).symm; omega) | (simp [*]; done) | simp_all) (sub_c rfl (sub_c rfl (sub_c rfl (sub_c rfl (sub_c rfl (sub_c rfl sub_n)))))), rfl⟩
        · -- c5
          refine AWP.cond (.tmp _ _ rfl) (fun hc71 => ?_) (fun hc71 => ?_)
          · try simp only [decide_eq_true_eq] at hc71
            refine AWP.seq ?_
            -- region 17
            refine AWP.region ?_
            refine AList.p rfl (pure_assign ev_int) ?_
            refine AList.nil ?_
            refine Next.go ?_
            refine AWP.ret ?_
            refine Next.rt ?_
            -- ret 2
            refine Ret.go (.cons (.tmp _ _ rfl) .nil) _ (hle) ?_
            have he : rErr G at_ l = 5 := by unfold rErr; rw [if_neg (by simp [hc16]), if_neg (by simp [hall]), if_pos (by simpa using hc71)]
            refine ⟨by rw [he]; rfl, ?_⟩
            rw [rSet, he, if_neg (by decide)]
            exact (RBox.le_set hb).symm
          · try simp only [decide_eq_false_iff_not] at hc71
            refine AWP.skip ?_
            refine Next.go ?_
            refine AWP.seq ?_
            -- region 18
            refine AWP.region ?_
            refine AList.p rfl (pure_move (.tmp _ _ rfl)) ?_
            refine AList.p rfl (pure_move (.tmp _ _ rfl)) ?_
            first | (refine AList.p rfl (pure_nilCheckI (.tmp _ _ rfl)) ?_) | (refine AList.p rfl (pure_nilCheck (.tmp _ _ rfl)) ?_) | (refine AList.p rfl (pure_nilCheckF (.tmp _ _ rfl)) ?_)
            first | (refine AList.p rfl (pure_fieldI Try.underlying56 rfl Try.sizeOf54 (.tmp _ _ rfl)) ?_) | (refine AList.p rfl (pure_field Try.underlying56 rfl Try.sizeOf54 (.tmp _ _ rfl)) ?_)
            refine AList.s0 (step_store Try.sizeOf54 (.tmp _ _ rfl) (.tmp _ _ rfl) rfl rfl (.inl rfl) (by first | exact hb | exact hle.objs _ _ hb | exact hbS | exact hle110.objs _ _ (Heap.objs_set_same _ _ _) | assumption | exact (by assumption : Heap.le _ _).objs _ _ (by assumption) | exact Heap.objs_set_same _ _ _ | exact (Heap.objs_set_ne _ _ (by assumption)).trans (Heap.objs_set_same _ _ _) | exact (Heap.objs_set_ne _ _ (by assumption)).trans ((Heap.objs_set_ne _ _ (by assumption)).trans (Heap.objs_set_same _ _ _)) | exact (Heap.objs_set_ne _ _ (by assumption)).trans (by assumption)) (Nat.le_of_ble_eq_true rfl)) ?_
            rintro _ _ ⟨rfl, hH⟩
            obtain rfl := hH.symm
            try first | rw [Heap.set_set] | rw [Heap.set_under (by assumption)]
            refine AList.nil ?_
            refine Next.go ?_
            refine AWP.seq ?_
            refine AWP.seq ?_
            obtain rfl : i = G.length := by omega
            rw [List.take_length]
            refine AWP.weakbox1 (b := b) (T := 56) (sz := 2) (xs := (rLeft G at_).map Node.av) (tl := .own t) ?_
            change AWP _ _ _ _ _ (H1.set b (GBox (rLeft G at_)))
            have hbS : (H1.set b (GBox (rLeft G at_))).objs b = some (GBox (rLeft G at_)) := Heap.objs_set_same _ _ _
            have hle := Heap.le_same_set hle b (GBox (rLeft G at_))
            have hfr : (H.set b (GBox (rLeft G at_))).toks t = false := hfr
            -- region 19
            refine AWP.region ?_
            refine AList.p rfl (pure_move (.tmp _ _ rfl)) ?_
            first | (refine AList.p rfl (pure_lenL Try.underlying41 (.tmp _ _ rfl)) ?_) | (refine AList.p rfl (pure_lenS Try.underlying41 (.tmp _ _ rfl)) ?_) | (refine AList.p rfl (pure_lenM Try.underlying41 (.tmp _ _ rfl)) ?_)
            refine AList.p rfl (pure_gtr (.tmp _ _ rfl) ev_int) ?_
            refine AList.nil ?_
            refine Next.go ?_
            -- c6
            refine AWP.cond (.tmp _ _ rfl) (fun hc78 => ?_) (fun hc78 => ?_)
            · try simp only [decide_eq_true_eq] at hc78
              refine AWP.seq ?_
              -- region 20
              refine AWP.region ?_
              refine AList.p rfl (pure_assign ev_int) ?_
              refine AList.nil ?_
              refine Next.go ?_
              refine AWP.meet (fun env H2 => ∃ j : Nat, j = rPlace at_ (rLeft G at_) ∧ j ≤ (rLeft G at_).length ∧ env = [(0, .ptr (some ⟨b, 0, none⟩)), (1, .int .i64 at_), (2, .slice 8 (l.map Area.av) tl), (10, .slice 2 ((rLeft G at_).map Node.av) (.own t)), (12, .int .i64 j)] ∧ H1.set b (GBox (rLeft G at_)) = H2) ?_ ?_
              · refine AWP.block ?_
                -- L2
                refine AWP.loopW (rset_L b G at_ l tl t (H1.set b (GBox (rLeft G at_)))) ((rLeft G at_).length) ⟨0, Nat.zero_le _, Nat.zero_le _, rfl, rfl, rfl⟩ (sub_c rfl (sub_c rfl (sub_c rfl (sub_c rfl (sub_c rfl sub_n))))) (Heap.le.refl _) ?_
                rintro _ _ _ ⟨j, hj, hjl, rfl, rfl, rfl⟩
                refine AWP.seq ?_
                refine AWP.seq ?_
                -- region 21
                refine AWP.region ?_
                refine AList.p rfl (pure_move (.tmp _ _ rfl)) ?_
                refine AList.p rfl (pure_move (.tmp _ _ rfl)) ?_
                first | (refine AList.p rfl (pure_lenL Try.underlying54 (.tmp _ _ rfl)) ?_) | (refine AList.p rfl (pure_lenS Try.underlying54 (.tmp _ _ rfl)) ?_) | (refine AList.p rfl (pure_lenM Try.underlying54 (.tmp _ _ rfl)) ?_)
                refine AList.p rfl (pure_lss (.tmp _ _ rfl) (.tmp _ _ rfl)) ?_
                refine AList.p rfl (pure_move (.tmp _ _ rfl)) ?_
                -- the guard in slot 83
                refine bool_casesL (t := 83) rfl (fun hg83 => ?_) (fun hg83 => ?_)
                · have hh83 := hg83; try simp only [decide_eq_true_eq] at hh83
                  refine AList.gp rfl rfl rfl (by first | rfl | assumption) (pure_move (.tmp _ _ rfl)) ?_
                  refine AList.gp rfl rfl rfl (by first | rfl | assumption) (pure_move (.tmp _ _ rfl)) ?_
                  first | (refine AList.gp rfl rfl rfl (by first | rfl | assumption) (pure_indexL Try.underlying54 Try.sizeOf70 (.tmp _ _ rfl) (.tmp _ _ rfl) (by omega) (by omega)) ?_) | (refine AList.gp rfl rfl rfl (by first | rfl | assumption) (pure_indexM Try.underlying54 Try.sizeOf70 (.tmp _ _ rfl) (.tmp _ _ rfl) (by omega) (by omega)) ?_)
                  first | (refine AList.gp rfl rfl rfl (by first | rfl | assumption) (pure_fieldI Try.underlying70 rfl Try.sizeOf3 (.tmp _ _ rfl)) ?_) | (refine AList.gp rfl rfl rfl (by first | rfl | assumption) (pure_field Try.underlying70 rfl Try.sizeOf3 (.tmp _ _ rfl)) ?_)
                  first | (refine AList.gp rfl rfl rfl (by first | rfl | assumption) (pure_load1 Try.isAgg3 (.tmp _ _ rfl)) ?_) | (refine AList.gs rfl rfl rfl (by first | rfl | assumption) (step_load1 Try.isAgg3 (.tmp _ _ rfl) (by first | exact hb | exact hle.objs _ _ hb | exact hbS | exact hle110.objs _ _ (Heap.objs_set_same _ _ _) | assumption | exact (by assumption : Heap.le _ _).objs _ _ (by assumption) | exact Heap.objs_set_same _ _ _ | exact (Heap.objs_set_ne _ _ (by assumption)).trans (Heap.objs_set_same _ _ _) | exact (Heap.objs_set_ne _ _ (by assumption)).trans ((Heap.objs_set_ne _ _ (by assumption)).trans (Heap.objs_set_same _ _ _)) | exact (Heap.objs_set_ne _ _ (by assumption)).trans (by assumption)) rfl) ?_; rintro _ _ ⟨rfl, hH⟩; obtain rfl := hH.symm)
                  refine AList.gp rfl rfl rfl (by first | rfl | assumption) (pure_move (.tmp _ _ rfl)) ?_
                  refine AList.gp rfl rfl rfl (by first | rfl | assumption) (pure_lss (.tmp _ _ rfl) (.tmp _ _ rfl)) ?_
                  refine AList.p rfl (pure_pickT (.tmp _ _ rfl) (by first | rfl | assumption) (.tmp _ _ rfl)) ?_
                  refine AList.nil ?_
                  refine Next.go ?_
                  -- c7
                  refine AWP.cond (.tmp _ _ rfl) (fun hc91 => ?_) (fun hc91 => ?_)
                  · try simp only [decide_eq_true_eq] at hc91
                    refine AWP.skip ?_
                    refine Next.go ?_
                    refine AWP.block ?_
                    -- region 22
                    refine AWP.region ?_
                    refine AList.p rfl (pure_move (.tmp _ _ rfl)) ?_
                    refine AList.p rfl (pure_add (.tmp _ _ rfl) ev_int (by omega)) ?_
                    refine AList.p rfl (pure_assign (.tmp _ _ rfl)) ?_
                    refine AList.nil ?_
                    refine Block.go ?_
                    refine Next.go ?_
                    refine Round.mk (J := rset_L b G at_ l tl t (H1.set b (GBox (rLeft G at_)))) ⟨j + 1, by omega, lead_next hjl (by omega) (by simpa using hc91), rfl, rfl, rfl⟩ (sub_c rfl (sub_c rfl (sub_c rfl (sub_c rfl (sub_c rfl sub_n))))) (Heap.le.refl _) (by omega)
                  · try simp only [decide_eq_false_iff_not, Int.not_lt] at hc91
                    refine AWP.exit ?_
                    refine Next.ex ?_
                    refine Next.ex ?_
                    refine Block.hit ?_
                    refine Next.go ?_
                    refine Meets.mk (M := fun env H2 => ∃ j : Nat, j = rPlace at_ (rLeft G at_) ∧ j ≤ (rLeft G at_).length ∧ env = [(0, .ptr (some ⟨b, 0, none⟩)), (1, .int .i64 at_), (2, .slice 8 (l.map Area.av) tl), (10, .slice 2 ((rLeft G at_).map Node.av) (.own t)), (12, .int .i64 j)] ∧ H1.set b (GBox (rLeft G at_)) = H2) ⟨j, lead_stop hjl (fun h => by simpa using hc91), hj, rfl, rfl⟩ (sub_c rfl (sub_c rfl (sub_c rfl (sub_c rfl (sub_c rfl sub_n))))) (Heap.le.refl _)
                · have hh83 := hg83; try simp only [decide_eq_false_iff_not, Int.not_lt] at hh83
                  refine AList.gn rfl rfl rfl (by first | rfl | assumption) ?_
                  refine AList.gn rfl rfl rfl (by first | rfl | assumption) ?_
                  refine AList.gn rfl rfl rfl (by first | rfl | assumption) ?_
                  refine AList.gn rfl rfl rfl (by first | rfl | assumption) ?_
                  refine AList.gn rfl rfl rfl (by first | rfl | assumption) ?_
                  refine AList.gn rfl rfl rfl (by first | rfl | assumption) ?_
                  refine AList.gn rfl rfl rfl (by first | rfl | assumption) ?_
                  refine AList.p rfl (pure_pickF (.tmp _ _ rfl) (by first | rfl | assumption) ev_bool) ?_
                  refine AList.nil ?_
                  refine Next.go ?_
                  -- c7
                  refine AWP.cond_false (.tmp _ _ rfl) (by first | rfl | assumption) ?_
                  refine AWP.exit ?_
                  refine Next.ex ?_
                  refine Next.ex ?_
                  refine Block.hit ?_
                  refine Next.go ?_
                  refine Meets.mk (M := fun env H2 => ∃ j : Nat, j = rPlace at_ (rLeft G at_) ∧ j ≤ (rLeft G at_).length ∧ env = [(0, .ptr (some ⟨b, 0, none⟩)), (1, .int .i64 at_), (2, .slice 8 (l.map Area.av) tl), (10, .slice 2 ((rLeft G at_).map Node.av) (.own t)), (12, .int .i64 j)] ∧ H1.set b (GBox (rLeft G at_)) = H2) ⟨j, lead_stop hjl (fun h => by omega), hj, rfl, rfl⟩ (sub_c rfl (sub_c rfl (sub_c rfl (sub_c rfl (sub_c rfl sub_n))))) (Heap.le.refl _)
              · rintro _ _ ⟨j, hk, hj, rfl, rfl⟩
                -- region 23
                refine AWP.draw [(0, true), (1, true), (2, true), (3, true), (4, true), (6, true), (7, true), (8, true), (13, true), (14, true), (15, true), (5, false), (9, false), (10, true), (11, true), (12, false), (16, false), (17, true), (18, true), (19, false)] rfl (by decide +kernel) ?_
                refine APlan.p rfl rfl (pure_move (.tmp _ _ rfl)) ?_
                refine APlan.f rfl rfl (fun _ => step_bs0 Try.underlying54 Try.sizeOf70 Try.zeroValue70 ) ?_
                refine APlan.p rfl rfl (pure_move (.tmp _ _ rfl)) ?_
                refine APlan.p rfl rfl (pure_move (.tmp _ _ rfl)) ?_
                refine APlan.p rfl rfl (pure_sliceHiL Try.underlying54 Try.sizeOf70 (.tmp _ _ rfl) (.tmp _ _ rfl) (by omega) (by omega)) ?_
                refine APlan.p rfl rfl (pure_move (.tmp _ _ rfl)) ?_
                refine APlan.f rfl rfl (fun _ => step_bs0 Try.underlying41 Try.sizeOf60 Try.zeroValue60 ) ?_
                refine APlan.p rfl rfl (pure_move (.tmp _ _ rfl)) ?_
                refine APlan.p rfl rfl (pure_move (.tmp _ _ rfl)) ?_
                refine APlan.p rfl rfl (pure_move (.tmp _ _ rfl)) ?_
                refine APlan.p rfl rfl (pure_sliceLoL Try.underlying54 Try.sizeOf70 (.tmp _ _ rfl) (.tmp _ _ rfl) (by omega) (by omega)) ?_
                refine APlan.s rfl rfl (step_append Try.underlying54 Try.underlying54 Try.sizeOf70 Try.typeInfo70 Try.zeroValue70 rfl (by decide) (.tmp _ _ rfl) (.tmp _ _ rfl) (by exact .full) (by have hrl := rLeft_len G at_; show (_ + _) * 32 ≤ _; simp; omega) (by repeat' (first | exact row_int _ | exact row_n | exact row_c ⟨rfl, rfl⟩ row_n | exact row_drop (row_int _) | exact row_take (row_int _) | refine row_app ?_ ?_ | exact row_take (row_node _) | exact row_drop (row_node _) | exact row_node _ | exact row_area _)) (by repeat' (first | exact row_int _ | exact row_n | exact row_c ⟨rfl, rfl⟩ row_n | exact row_drop (row_int _) | exact row_take (row_int _) | refine row_app ?_ ?_ | exact row_take (row_node _) | exact row_drop (row_node _) | exact row_node _ | exact row_area _))) ?_
                rintro _ _ ⟨t99, ht99, rfl, hH⟩
                obtain rfl := hH.symm
                have hf99 := Heap.fresh_of hle ht99
                have hle99 := Heap.le_in hle t99
                refine APlan.s rfl rfl (step_appendS Try.underlying41 Try.underlying41 Try.sizeOf60 Try.typeInfo60 Try.zeroValue60 rfl (by decide) (.tmp _ _ rfl) (.tmp _ _ rfl) (by have hrl := rLeft_len G at_; show (_ + _) * 48 ≤ _; simp; omega) (by repeat' (first | exact row_int _ | exact row_n | exact row_c ⟨rfl, rfl⟩ row_n | exact row_drop (row_int _) | exact row_take (row_int _) | refine row_app ?_ ?_ | exact row_take (row_node _) | exact row_drop (row_node _) | exact row_node _ | exact row_area _)) (by repeat' (first | exact row_int _ | exact row_n | exact row_c ⟨rfl, rfl⟩ row_n | exact row_drop (row_int _) | exact row_take (row_int _) | refine row_app ?_ ?_ | exact row_take (row_node _) | exact row_drop (row_node _) | exact row_node _ | exact row_area _))) ?_
                rintro _ _ ⟨rfl, hH⟩
                obtain rfl := hH.symm
                refine APlan.p rfl rfl (pure_build [(0, 1), (1, 1)] Try.underlying70 Try.zeroValue70 (zr70) rfl (pl70 _ Try.underlying70) (.cons (.tmp _ _ rfl) (.inl rfl) (.cons (.tmp _ _ rfl) (.inl rfl) .nil)) rfl) ?_
                refine APlan.f rfl rfl (fun _ => step_bs1 Try.underlying54 Try.sizeOf70 Try.zeroValue70 rfl (.tmp _ _ rfl) (.inr ⟨_, rfl⟩) ⟨rfl, rfl⟩) ?_
                refine APlan.s rfl rfl (step_append Try.underlying54 Try.underlying54 Try.sizeOf70 Try.typeInfo70 Try.zeroValue70 rfl (by decide) (.tmp _ _ rfl) (.tmp _ _ rfl) (by exact .own _ (by first | assumption | exact Heap.toks_live_same _ _)) (by have hrl := rLeft_len G at_; show (_ + _) * 32 ≤ _; simp; omega) (by repeat' (first | exact row_int _ | exact row_n | exact row_c ⟨rfl, rfl⟩ row_n | exact row_drop (row_int _) | exact row_take (row_int _) | refine row_app ?_ ?_ | exact row_take (row_node _) | exact row_drop (row_node _) | exact row_node _ | exact row_area _)) (by repeat' (first | exact row_int _ | exact row_n | exact row_c ⟨rfl, rfl⟩ row_n | exact row_drop (row_int _) | exact row_take (row_int _) | refine row_app ?_ ?_ | exact row_take (row_node _) | exact row_drop (row_node _) | exact row_node _ | exact row_area _))) ?_
                rintro _ _ ⟨t106, ht106, rfl, hH⟩
                obtain rfl := hH.symm
                have hf106 := Heap.fresh_of hle99 ht106
                have hle106 := Heap.le_in (Heap.le_out (t := t99) hle99 (by assumption)) t106
                refine APlan.s rfl rfl (step_append Try.underlying54 Try.underlying54 Try.sizeOf70 Try.typeInfo70 Try.zeroValue70 rfl (by decide) (.tmp _ _ rfl) (.tmp _ _ rfl) (by exact .own _ (by first | assumption | exact Heap.toks_live_same _ _)) (by have hrl := rLeft_len G at_; show (_ + _) * 32 ≤ _; simp; omega) (by repeat' (first | exact row_int _ | exact row_n | exact row_c ⟨rfl, rfl⟩ row_n | exact row_drop (row_int _) | exact row_take (row_int _) | refine row_app ?_ ?_ | exact row_take (row_node _) | exact row_drop (row_node _) | exact row_node _ | exact row_area _)) (by repeat' (first | exact row_int _ | exact row_n | exact row_c ⟨rfl, rfl⟩ row_n | exact row_drop (row_int _) | exact row_take (row_int _) | refine row_app ?_ ?_ | exact row_take (row_node _) | exact row_drop (row_node _) | exact row_node _ | exact row_area _))) ?_
                rintro _ _ ⟨t110, ht110, rfl, hH⟩
                obtain rfl := hH.symm
                have hf110 := Heap.fresh_of hle106 ht110
                have hle110 := Heap.le_in (Heap.le_out (t := t106) hle106 (by assumption)) t110
                first | (refine APlan.p rfl rfl (pure_nilCheckI (.tmp _ _ rfl)) ?_) | (refine APlan.p rfl rfl (pure_nilCheck (.tmp _ _ rfl)) ?_) | (refine APlan.p rfl rfl (pure_nilCheckF (.tmp _ _ rfl)) ?_)
                first | (refine APlan.p rfl rfl (pure_fieldI Try.underlying56 rfl Try.sizeOf54 (.tmp _ _ rfl)) ?_) | (refine APlan.p rfl rfl (pure_field Try.underlying56 rfl Try.sizeOf54 (.tmp _ _ rfl)) ?_)
                refine APlan.s0 rfl (step_store Try.sizeOf54 (.tmp _ _ rfl) (.tmp _ _ rfl) rfl rfl (.inl rfl) (by first | exact hb | exact hle.objs _ _ hb | exact hbS | exact hle110.objs _ _ (Heap.objs_set_same _ _ _) | assumption | exact (by assumption : Heap.le _ _).objs _ _ (by assumption) | exact Heap.objs_set_same _ _ _ | exact (Heap.objs_set_ne _ _ (by assumption)).trans (Heap.objs_set_same _ _ _) | exact (Heap.objs_set_ne _ _ (by assumption)).trans ((Heap.objs_set_ne _ _ (by assumption)).trans (Heap.objs_set_same _ _ _)) | exact (Heap.objs_set_ne _ _ (by assumption)).trans (by assumption)) (Nat.le_of_ble_eq_true rfl)) ?_
                rintro _ _ ⟨rfl, hH⟩
                obtain rfl := hH.symm
                try first | rw [Heap.set_set] | rw [Heap.set_under (by assumption)]
                refine APlan.nil ?_
                refine Next.go ?_
                refine AWP.seq ?_
                first | refine AWP.weakbox1 (b := b) (T := 56) (sz := 2) (tl := .own t110) ?_ | skip
                -- region 24
                refine AWP.region ?_
                refine AList.p rfl (pure_assign ev_int) ?_
                refine AList.nil ?_
                refine Next.go ?_
                refine AWP.ret ?_
                -- ret 3
                refine Ret.go (.cons (.tmp _ _ rfl) .nil) _ (Heap.le_set_twice hle110 _) ?_
                have hnb : ¬ (l.length > 500 ∨ ((rLeft G at_).length ≥ 2000 ∧ l.length > 0)) := by simpa [Nat.not_lt, Nat.not_le] using hc71
                have he : rErr G at_ l = 0 := by unfold rErr; rw [if_neg (by simp [hc16]), if_neg (by simp [hall]), if_neg hnb]
                have hpos : l.length > 0 := by omega
                refine ⟨by rw [he]; rfl, ?_⟩
                rw [rSet, if_pos he, rPut, if_pos hpos]
                simp only [GBox, List.map_append, List.map_cons, List.map_nil, Int.toNat_natCast, List.nil_append, ← hk]
                rfl
            · try simp only [decide_eq_false_iff_not, Int.not_lt] at hc78
              refine AWP.skip ?_
              refine Next.go ?_
              refine AWP.seq ?_
              first | refine AWP.weakbox1 (b := b) (T := 56) (sz := 2) (tl := .own t110) ?_ | skip
              -- region 24
              refine AWP.region ?_
              refine AList.p rfl (pure_assign ev_int) ?_
              refine AList.nil ?_
              refine Next.go ?_
              refine AWP.ret ?_
              -- ret 4
              refine Ret.go (.cons (.tmp _ _ rfl) .nil) _ (hle) ?_
              have hnb : ¬ (l.length > 500 ∨ ((rLeft G at_).length ≥ 2000 ∧ l.length > 0)) := by simpa [Nat.not_lt, Nat.not_le] using hc71
              have he : rErr G at_ l = 0 := by unfold rErr; rw [if_neg (by simp [hc16]), if_neg (by simp [hall]), if_neg hnb]
              have hpos : ¬ l.length > 0 := by omega
              refine ⟨by rw [he]; rfl, ?_⟩
              rw [rSet, if_pos he, rPut, if_neg hpos]

end Go.Proofs.Ytdibiongjkmlpaa
