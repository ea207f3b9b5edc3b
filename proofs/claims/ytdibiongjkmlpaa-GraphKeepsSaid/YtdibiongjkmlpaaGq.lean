/-
  The law's made: both graphs of some raw nodes.
-/
import Derived.Test.YtdibiongjkmlpaaGp
namespace Go.Proofs.Ytdibiongjkmlpaa
open Go Go.RowKit
/-- Four raw numbers; a raw node. -/
structure Q4 where
  a : Int
  b : Int
  c : Int
  d : Int
def Q4.av (q : Q4) : AV := .agg [.int .i64 q.a, .int .i64 q.b, .int .i64 q.c, .int .i64 q.d]
structure RNode where
  at_ : Int
  areas : List Q4
def RNode.av (r : RNode) : AV := .agg [.int .i64 r.at_, .slice 4 (r.areas.map Q4.av) .shared]
def In64 (n : Int) : Prop := -9223372036854775808 ≤ n ∧ n ≤ 9223372036854775807
def Q4.ok (q : Q4) : Prop := In64 q.a ∧ In64 q.b ∧ In64 q.c ∧ In64 q.d
structure RNode.ok (r : RNode) : Prop where
  at_ : In64 r.at_
  len : r.areas.length ≤ maxLen
  areas : ∀ q, q ∈ r.areas → q.ok
def nodeAt (r : RNode) : Int := if r.at_.tmod 61 = 0 ∧ r.at_ ≠ 0 then r.at_ else atRaw r.at_
def areaR (q : Q4) : Area := if q.d.tmod 53 = 0 ∧ q.d ≠ 0 then ⟨(areaOf q.a q.b q.c).a, ⟨q.d, (areaOf q.a q.b q.c).b.row, (areaOf q.a q.b q.c).b.ac, (areaOf q.a q.b q.c).b.ar⟩⟩ else areaOf q.a q.b q.c
def areasR (r : RNode) : List Area := (r.areas.take 8).map areaR
def mM (l : List RNode) : PG := l.foldl (fun M r => pSet M (nodeAt r) (areasR r)) []
def mG (l : List RNode) : List Node := l.foldl (fun G r => rSet G (nodeAt r) (areasR r)) []
theorem mM_snoc (l : List RNode) (r : RNode) : mM (l ++ [r]) = pSet (mM l) (nodeAt r) (areasR r) := by simp [mM]
theorem mG_snoc (l : List RNode) (r : RNode) : mG (l ++ [r]) = rSet (mG l) (nodeAt r) (areasR r) := by simp [mG]
theorem nodeAt_64 {r : RNode} (h : r.ok) : In64 (nodeAt r) := by
  unfold nodeAt
  split
  · exact h.at_
  · have := atRaw_bd r.at_ h.at_; unfold In64; omega
theorem areasR_len (r : RNode) : (areasR r).length ≤ 8 := by simp [areasR]; omega
/-- Both graphs, small. -/
structure GOK (M : PG) (G : List Node) (n : Nat) : Prop where
  tie : Tie M G
  lenM : M.length ≤ n
  lenG : G.length ≤ n
  areasM : ∀ c, (pAreas M c).length ≤ 500
  areasG : ∀ x, x ∈ G → x.areas.length ≤ 500
theorem rErr_len {G : List Node} {a : Int} {l : List Area} (h : rErr G a l = 0) : l.length ≤ 500 := by
  unfold rErr at h
  split at h
  · cases h
  · split at h
    · cases h
    · split at h
      · cases h
      · omega
theorem GOK.set {M : PG} {G : List Node} {n : Nat} (h : GOK M G n) (hn : n ≤ 900) (a : Int) (l : List Area) : GOK (pSet M a l) (rSet G a l) (n + 1) := by
  have hM := h.lenM
  have hG := h.lenG
  have ht := h.tie.set (by omega) (by omega) a l
  have hl1 := pSet_len M a l
  have hl2 := rSet_len G a l
  have hx : ∀ x, x ∈ rSet G a l → x.areas.length ≤ 500 := by
    intro x hx
    unfold rSet at hx
    split at hx
    · rename_i h0
      have hl := rErr_len h0
      unfold rPut at hx
      have hleft : ∀ x, x ∈ rLeft G a → x.areas.length ≤ 500 := fun x hx => h.areasG x (List.mem_filter.1 hx).1
      split at hx
      · simp only [List.append_assoc, List.mem_append, List.mem_singleton] at hx
        rcases hx with hx | hx | hx
        · exact hleft x (List.mem_of_mem_take hx)
        · subst hx; exact hl
        · exact hleft x (List.mem_of_mem_drop hx)
      · exact hleft x hx
    · exact h.areasG x hx
  refine ⟨ht, by omega, by omega, fun c => ?_, hx⟩
  rw [ht.areas c, rAreas_get]
  unfold gGet
  cases hf : (rSet G a l).find? fun n => decide (n.at_ = c) with
  | none => simp
  | some x => exact hx x (List.mem_of_find?_eq_some hf)
theorem GOK.nil : GOK [] [] 0 := ⟨Tie.nil, by simp, by simp, fun c => by simp [pAreas, pGet], fun x hx => by simp at hx⟩
theorem GOK.mono {M : PG} {G : List Node} {n k : Nat} (h : GOK M G n) (hk : n ≤ k) : GOK M G k := ⟨h.tie, Nat.le_trans h.lenM hk, Nat.le_trans h.lenG hk, h.areasM, h.areasG⟩
theorem mk_ok_from : ∀ (l : List RNode) (M : PG) (G : List Node) (n : Nat), GOK M G n → n + l.length ≤ 900 → GOK (l.foldl (fun M r => pSet M (nodeAt r) (areasR r)) M) (l.foldl (fun G r => rSet G (nodeAt r) (areasR r)) G) (n + l.length)
  | [], M, G, n, h, _ => h
  | r :: l, M, G, n, h, hl => by
    simp only [List.length_cons] at hl
    have := mk_ok_from l _ _ _ (h.set (by omega) (nodeAt r) (areasR r)) (by omega)
    rw [List.length_cons, show n + (l.length + 1) = n + 1 + l.length by omega]
    exact this
theorem mk_ok (l : List RNode) (hl : l.length ≤ 40) : GOK (mM l) (mG l) l.length := by
  have := mk_ok_from l [] [] 0 GOK.nil (by omega)
  rwa [Nat.zero_add] at this
theorem GOK.err {M : PG} {G : List Node} {n : Nat} (h : GOK M G n) (hn : n ≤ 900) (a : Int) (l : List Area) : pErr M a l = rErr G a l :=
  Tie.err (by have := h.lenM; omega) (by have := h.lenG; omega) a l
theorem PBox.ne {H : Heap} {b m : Nat} {M : PG} (h : PBox H b m M) : b ≠ m := by
  rintro rfl
  have h1 := h.box
  rw [h.map] at h1
  cases h1
theorem PBox.set {H : Heap} {b m : Nat} {M : PG} (h : PBox H b m M) (M' : PG) : PBox (H.set m (.map (ents .i64 (pents M')))) b m M' :=
  ⟨(Heap.objs_set_ne _ _ h.ne).trans h.box, Heap.objs_set_same _ _ _⟩
theorem PBox.ob {H H' : Heap} {b m : Nat} {M : PG} (h : PBox H b m M) (hs : ∀ k x, H.objs k = some x → H'.objs k = some x) : PBox H' b m M := ⟨hs _ _ h.box, hs _ _ h.map⟩
theorem PBox.set_ne {H : Heap} {b m k : Nat} {M : PG} (h : PBox H b m M) (h1 : b ≠ k) (h2 : m ≠ k) (o : AObj) : PBox (H.set k o) b m M :=
  ⟨(Heap.objs_set_ne _ _ h1).trans h.box, (Heap.objs_set_ne _ _ h2).trans h.map⟩
theorem row_q4 (l : List Q4) : ∀ x, x ∈ l.map Q4.av → x.row 4 := row_map (f := Q4.av) (fun _ => ⟨rfl, rfl⟩) l

theorem zr56 : ∀ g, RelCells g [.slice 2 [] .full] (Value.cells (Go.Value.agg #[Go.Value.slice none 0 0])) := fun g => RelL.cells (.cons (.nilSlice _ _) .nil)
theorem pl56 (fs : Array Field) (hfs : Try.prog.underlying 56 = some (.struct fs)) : ∀ (i : Nat) f p, fs[i]? = some f → [(0, 1)][i]? = some p → ∀ w, (sizeOf f.type).run Try.prog w = .ok p.2 w := by
  have e := (Option.some.inj (hfs.symm.trans Try.underlying56))
  cases e
  intro i f p hf hp w
  match i with
  | 0 => cases hf; cases hp; exact Try.sizeOf54 w
  | i + 1 => simp at hp

def made_J (l : List RNode) (tl : Tail) (b m b2 : Nat) (H : Heap) : Nat → Env → Heap → Prop := fun k env H1 => ∃ i : Nat, i ≤ l.length ∧ i ≤ 40 ∧ env = [(0, .slice 2 (l.map RNode.av) tl), (5, .ptr (some ⟨b, 0, none⟩)), (6, .ptr (some ⟨b2, 0, none⟩)), (7, .int .i64 i)] ∧ PBox H1 b m (mM (l.take i)) ∧ RBox H1 b2 (mG (l.take i)) ∧ H.le H1 ∧ k = 40 - i

def made_K (l : List RNode) (tl : Tail) (b m b2 : Nat) (i : Nat) (r : RNode) (at_ : Int) (M : PG) (G : List Node) (H : Heap) : Nat → Env → Heap → Prop := fun k env H1 => ∃ (j t t2 : Nat), j ≤ r.areas.length ∧ j ≤ 8 ∧ env = [(0, .slice 2 (l.map RNode.av) tl), (5, .ptr (some ⟨b, 0, none⟩)), (6, .ptr (some ⟨b2, 0, none⟩)), (7, .int .i64 i), (8, .int .i64 at_), (9, .slice 8 ((((r.areas.take j).map areaR).map Area.av)) (.own t)), (10, .slice 8 ((((r.areas.take j).map areaR).map Area.av)) (.own t2)), (11, .int .i64 j)] ∧ PBox H1 b m M ∧ RBox H1 b2 G ∧ H.le H1 ∧ H1.toks t = true ∧ H1.toks t2 = true ∧ t ≠ t2 ∧ H.toks t = false ∧ H.toks t2 = false ∧ k = 8 - j

set_option maxRecDepth 100000 in
theorem made_calls (l : List RNode) (tl : Tail) (hl : l.length ≤ maxLen) (hall : ∀ r, r ∈ l → r.ok) (H : Heap) : ACall Try.prog 10 [.slice 2 (l.map RNode.av) tl] H (fun x H' => ∃ b m b2, x = .tuple [.ptr (some ⟨b, 0, none⟩), .ptr (some ⟨b2, 0, none⟩), .bool true] ∧ H.le H' ∧ H.objs b = none ∧ H.objs m = none ∧ H.objs b2 = none ∧ b2 ≠ m ∧ b2 ≠ b ∧ PBox H' b m (mM (l.take 40)) ∧ RBox H' b2 (mG (l.take 40))) := by
  have hmax : maxLen ≤ 9223372036854775807 := by decide
  refine ACall.of_body Try.func10 rfl Try.ntmps10 Try.results10 rfl ?_
  refine AWP.seq ?_
  -- region 0
  refine AWP.region ?_
  refine AList.p rfl (pure_assign ev_nilptr) ?_
  refine AList.p rfl (pure_assign ev_nilptr) ?_
  refine AList.p rfl (pure_assign ev_bool) ?_
  refine AList.nil ?_
  refine Next.go ?_
  refine AWP.seq ?_
  -- region 1
  refine AWP.region ?_
  refine AList.s rfl (step_call0 Try.call29 .nil (New_calls _)) ?_
  rintro _ _ ⟨b, m, hm0, hbm, hb0, rfl, hH⟩
  obtain rfl := hH.symm
  refine AList.p rfl (pure_assign (.tmp _ _ rfl)) ?_
  refine AList.nil ?_
  refine Next.go ?_
  refine AWP.seq ?_
  -- region 2
  refine AWP.region ?_
  refine AList.p rfl (pure_build [(0, 1)] Try.underlying56 Try.zeroValue56 (zr56) rfl (pl56 _ Try.underlying56) .nil rfl) ?_
  refine AList.s rfl (step_box (.tmp _ _ rfl) (.inr ⟨_, rfl⟩)) ?_
  rintro _ _ ⟨b15, hb15, rfl, hH⟩
  obtain rfl := hH.symm
  refine AList.p rfl (pure_assign (.tmp _ _ rfl)) ?_
  refine AList.nil ?_
  refine Next.go ?_
  refine AWP.seq ?_
  refine AWP.seq ?_
  refine AWP.weakbox1 ?_
  have hb15m : b15 ≠ m := by rintro rfl; rw [Heap.objs_set_ne _ _ hbm.symm, Heap.objs_set_same] at hb15; cases hb15
  have hb15b : b15 ≠ b := by rintro rfl; rw [Heap.objs_set_same] at hb15; cases hb15
  have hb150 : H.objs b15 = none := by rwa [Heap.objs_set_ne _ _ hb15b, Heap.objs_set_ne _ _ hb15m] at hb15
  have hp0 : PBox ((H.set m (.map (ents .i64 (pents [])))).set b (.box 80 [.map (some m)])) b m [] := ⟨Heap.objs_set_same _ _ _, (Heap.objs_set_ne _ _ hbm.symm).trans (Heap.objs_set_same _ _ _)⟩
  have hle0 := Heap.le_set_new (Heap.le_set_new (Heap.le_set_new (Heap.le.refl H) hm0 (.map (ents .i64 (pents [])))) hb0 (.box 80 [.map (some m)])) hb150 (.box 56 [.slice 2 ([].map Node.av) .shared])
  -- region 3
  refine AWP.region ?_
  refine AList.p rfl (pure_move (.tmp _ _ rfl)) ?_
  first | (refine AList.p rfl (pure_eqlPN Try.underlying25 (.tmp _ _ rfl) ev_nilptr) ?_) | (refine AList.p rfl (pure_eqlPI Try.underlying25 (.tmp _ _ rfl) ev_nilptr) ?_)
  refine AList.nil ?_
  refine Next.go ?_
  -- c0
  refine AWP.cond_false (.tmp _ _ rfl) (by rfl) ?_
  refine AWP.skip ?_
  refine Next.go ?_
  refine AWP.seq ?_
  refine AWP.seq ?_
  -- region 5
  refine AWP.region ?_
  refine AList.p rfl (pure_assign ev_int) ?_
  refine AList.nil ?_
  refine Next.go ?_
  refine AWP.block ?_
  -- L0
  refine AWP.loopW (made_J l tl b m b15 H) (40) ⟨0, Nat.zero_le _, Nat.zero_le _, rfl, hp0.set_ne hb15b.symm hb15m.symm _, Heap.objs_set_same _ _ _, hle0, rfl⟩ (sub_c rfl (sub_c rfl (sub_c rfl (sub_c rfl sub_n)))) (Heap.le.refl _) ?_
  rintro _ _ H1 ⟨i, hi, hi40, rfl, hp, hrb, hle, rfl⟩
  have hok := mk_ok (l.take i) (by simp; omega)
  have hln : (l.take i).length ≤ 40 := by simp; omega
  refine AWP.seq ?_
  refine AWP.seq ?_
  -- region 6
  refine AWP.region ?_
  refine AList.p rfl (pure_move (.tmp _ _ rfl)) ?_
  refine AList.p rfl (pure_move (.tmp _ _ rfl)) ?_
  first | (refine AList.p rfl (pure_lenL Try.underlying22 (.tmp _ _ rfl)) ?_) | (refine AList.p rfl (pure_lenS Try.underlying22 (.tmp _ _ rfl)) ?_) | (refine AList.p rfl (pure_lenM Try.underlying22 (.tmp _ _ rfl)) ?_)
  refine AList.p rfl (pure_lss (.tmp _ _ rfl) (.tmp _ _ rfl)) ?_
  refine AList.p rfl (pure_move (.tmp _ _ rfl)) ?_
  -- the guard in slot 22
  refine bool_casesL (t := 22) rfl (fun hg22 => ?_) (fun hg22 => ?_)
  · have hh22 := hg22; try simp only [decide_eq_true_eq] at hh22
    refine AList.gp rfl rfl rfl (by first | rfl | assumption) (pure_move (.tmp _ _ rfl)) ?_
    refine AList.gp rfl rfl rfl (by first | rfl | assumption) (pure_lss (.tmp _ _ rfl) ev_int) ?_
    refine AList.p rfl (pure_pickT (.tmp _ _ rfl) (by first | rfl | assumption) (.tmp _ _ rfl)) ?_
    refine AList.nil ?_
    refine Next.go ?_
    -- c1
    refine AWP.cond (.tmp _ _ rfl) (fun hc25 => ?_) (fun hc25 => ?_)
    · try simp only [decide_eq_true_eq] at hc25
      refine AWP.skip ?_
      refine Next.go ?_
      refine AWP.seq ?_
      refine AWP.block ?_
      refine AWP.seq ?_
      have hr := hall (l[(i : Int).toNat]'(by omega)) (List.getElem_mem _)
      -- region 8
      refine AWP.region ?_
      refine AList.p rfl (pure_move (.tmp _ _ rfl)) ?_
      refine AList.p rfl (pure_move (.tmp _ _ rfl)) ?_
      first | (refine AList.p rfl (pure_indexL Try.underlying22 Try.sizeOf59 (.tmp _ _ rfl) (.tmp _ _ rfl) (by omega) (by omega)) ?_) | (refine AList.p rfl (pure_indexM Try.underlying22 Try.sizeOf59 (.tmp _ _ rfl) (.tmp _ _ rfl) (by omega) (by omega)) ?_)
      first | (refine AList.p rfl (pure_fieldI Try.underlying59 rfl Try.sizeOf3 (.tmp _ _ rfl)) ?_) | (refine AList.p rfl (pure_field Try.underlying59 rfl Try.sizeOf3 (.tmp _ _ rfl)) ?_)
      first | (refine AList.p rfl (pure_load1 Try.isAgg3 (.tmp _ _ rfl)) ?_) | (refine AList.s rfl (step_load1 Try.isAgg3 (.tmp _ _ rfl) (by first | assumption | exact (by assumption : Heap.le _ _).objs _ _ (by assumption) | exact Heap.objs_set_same _ _ _ | exact (Heap.objs_set_ne _ _ (by assumption)).trans (Heap.objs_set_same _ _ _) | exact (Heap.objs_set_ne _ _ (by assumption)).trans ((Heap.objs_set_ne _ _ (by assumption)).trans (Heap.objs_set_same _ _ _)) | exact (Heap.objs_set_ne _ _ (by assumption)).trans (by assumption)) rfl) ?_; rintro _ _ ⟨rfl, hH⟩; obtain rfl := hH.symm)
      refine AList.s rfl (step_call0 Try.call27 (.cons (.tmp _ _ rfl) .nil) (atRaw_calls _ hr.at_ _)) ?_
      rintro _ _ ⟨rfl, hH⟩
      obtain rfl := hH.symm
      refine AList.p rfl (pure_assign (.tmp _ _ rfl)) ?_
      refine AList.nil ?_
      refine Next.go ?_
      refine AWP.meet (fun env H2 => env = [(0, .slice 2 (l.map RNode.av) tl), (5, .ptr (some ⟨b, 0, none⟩)), (6, .ptr (some ⟨b15, 0, none⟩)), (7, .int .i64 i), (8, .int .i64 (nodeAt (l[(i : Int).toNat]'(by omega))))] ∧ H1 = H2) ?_ ?_
      · refine AWP.seq ?_
        -- region 9
        refine AWP.region ?_
        refine AList.p rfl (pure_move (.tmp _ _ rfl)) ?_
        refine AList.p rfl (pure_move (.tmp _ _ rfl)) ?_
        first | (refine AList.p rfl (pure_indexL Try.underlying22 Try.sizeOf59 (.tmp _ _ rfl) (.tmp _ _ rfl) (by omega) (by omega)) ?_) | (refine AList.p rfl (pure_indexM Try.underlying22 Try.sizeOf59 (.tmp _ _ rfl) (.tmp _ _ rfl) (by omega) (by omega)) ?_)
        first | (refine AList.p rfl (pure_fieldI Try.underlying59 rfl Try.sizeOf3 (.tmp _ _ rfl)) ?_) | (refine AList.p rfl (pure_field Try.underlying59 rfl Try.sizeOf3 (.tmp _ _ rfl)) ?_)
        first | (refine AList.p rfl (pure_load1 Try.isAgg3 (.tmp _ _ rfl)) ?_) | (refine AList.s rfl (step_load1 Try.isAgg3 (.tmp _ _ rfl) (by first | assumption | exact (by assumption : Heap.le _ _).objs _ _ (by assumption) | exact Heap.objs_set_same _ _ _ | exact (Heap.objs_set_ne _ _ (by assumption)).trans (Heap.objs_set_same _ _ _) | exact (Heap.objs_set_ne _ _ (by assumption)).trans ((Heap.objs_set_ne _ _ (by assumption)).trans (Heap.objs_set_same _ _ _)) | exact (Heap.objs_set_ne _ _ (by assumption)).trans (by assumption)) rfl) ?_; rintro _ _ ⟨rfl, hH⟩; obtain rfl := hH.symm)
        refine AList.p rfl (pure_rem (.tmp _ _ rfl) ev_int (by omega)) ?_
        refine AList.p rfl (pure_eql (.tmp _ _ rfl) ev_int) ?_
        refine AList.p rfl (pure_move (.tmp _ _ rfl)) ?_
        -- the guard in slot 41
        refine bool_casesL (t := 41) rfl (fun hg41 => ?_) (fun hg41 => ?_)
        · have hh41 := hg41; try simp only [decide_eq_true_eq] at hh41
          refine AList.gp rfl rfl rfl (by first | rfl | assumption) (pure_move (.tmp _ _ rfl)) ?_
          refine AList.gp rfl rfl rfl (by first | rfl | assumption) (pure_move (.tmp _ _ rfl)) ?_
          first | (refine AList.gp rfl rfl rfl (by first | rfl | assumption) (pure_indexL Try.underlying22 Try.sizeOf59 (.tmp _ _ rfl) (.tmp _ _ rfl) (by omega) (by omega)) ?_) | (refine AList.gp rfl rfl rfl (by first | rfl | assumption) (pure_indexM Try.underlying22 Try.sizeOf59 (.tmp _ _ rfl) (.tmp _ _ rfl) (by omega) (by omega)) ?_)
          first | (refine AList.gp rfl rfl rfl (by first | rfl | assumption) (pure_fieldI Try.underlying59 rfl Try.sizeOf3 (.tmp _ _ rfl)) ?_) | (refine AList.gp rfl rfl rfl (by first | rfl | assumption) (pure_field Try.underlying59 rfl Try.sizeOf3 (.tmp _ _ rfl)) ?_)
          first | (refine AList.gp rfl rfl rfl (by first | rfl | assumption) (pure_load1 Try.isAgg3 (.tmp _ _ rfl)) ?_) | (refine AList.gs rfl rfl rfl (by first | rfl | assumption) (step_load1 Try.isAgg3 (.tmp _ _ rfl) (by first | assumption | exact (by assumption : Heap.le _ _).objs _ _ (by assumption) | exact Heap.objs_set_same _ _ _ | exact (Heap.objs_set_ne _ _ (by assumption)).trans (Heap.objs_set_same _ _ _) | exact (Heap.objs_set_ne _ _ (by assumption)).trans ((Heap.objs_set_ne _ _ (by assumption)).trans (Heap.objs_set_same _ _ _)) | exact (Heap.objs_set_ne _ _ (by assumption)).trans (by assumption)) rfl) ?_; rintro _ _ ⟨rfl, hH⟩; obtain rfl := hH.symm)
          refine AList.gp rfl rfl rfl (by first | rfl | assumption) (pure_neq (.tmp _ _ rfl) ev_int) ?_
          refine AList.p rfl (pure_pickT (.tmp _ _ rfl) (by first | rfl | assumption) (.tmp _ _ rfl)) ?_
          refine AList.nil ?_
          refine Next.go ?_
          -- c2
          refine AWP.cond (.tmp _ _ rfl) (fun hc48 => ?_) (fun hc48 => ?_)
          · try simp only [decide_eq_true_eq, ne_eq] at hc48
            -- region 10
            refine AWP.region ?_
            refine AList.p rfl (pure_move (.tmp _ _ rfl)) ?_
            refine AList.p rfl (pure_move (.tmp _ _ rfl)) ?_
            first | (refine AList.p rfl (pure_indexL Try.underlying22 Try.sizeOf59 (.tmp _ _ rfl) (.tmp _ _ rfl) (by omega) (by omega)) ?_) | (refine AList.p rfl (pure_indexM Try.underlying22 Try.sizeOf59 (.tmp _ _ rfl) (.tmp _ _ rfl) (by omega) (by omega)) ?_)
            first | (refine AList.p rfl (pure_fieldI Try.underlying59 rfl Try.sizeOf3 (.tmp _ _ rfl)) ?_) | (refine AList.p rfl (pure_field Try.underlying59 rfl Try.sizeOf3 (.tmp _ _ rfl)) ?_)
            first | (refine AList.p rfl (pure_load1 Try.isAgg3 (.tmp _ _ rfl)) ?_) | (refine AList.s rfl (step_load1 Try.isAgg3 (.tmp _ _ rfl) (by first | assumption | exact (by assumption : Heap.le _ _).objs _ _ (by assumption) | exact Heap.objs_set_same _ _ _ | exact (Heap.objs_set_ne _ _ (by assumption)).trans (Heap.objs_set_same _ _ _) | exact (Heap.objs_set_ne _ _ (by assumption)).trans ((Heap.objs_set_ne _ _ (by assumption)).trans (Heap.objs_set_same _ _ _)) | exact (Heap.objs_set_ne _ _ (by assumption)).trans (by assumption)) rfl) ?_; rintro _ _ ⟨rfl, hH⟩; obtain rfl := hH.symm)
            refine AList.p rfl (pure_assign (.tmp _ _ rfl)) ?_
            refine AList.nil ?_
            refine Next.go ?_
            refine Meets.mk (M := fun env H2 => env = [(0, .slice 2 (l.map RNode.av) tl), (5, .ptr (some ⟨b, 0, none⟩)), (6, .ptr (some ⟨b15, 0, none⟩)), (7, .int .i64 i), (8, .int .i64 (nodeAt (l[(i : Int).toNat]'(by omega))))] ∧ H1 = H2) ⟨by rw [nodeAt, if_pos ⟨by simpa using hg41, by simpa using hc48⟩], rfl⟩ (sub_c rfl (sub_c rfl (sub_c rfl (sub_c rfl (sub_c rfl sub_n))))) (Heap.le.refl _)
          · try simp only [decide_eq_false_iff_not, ne_eq, Decidable.not_not] at hc48
            refine AWP.skip ?_
            refine Next.go ?_
            refine Meets.mk (M := fun env H2 => env = [(0, .slice 2 (l.map RNode.av) tl), (5, .ptr (some ⟨b, 0, none⟩)), (6, .ptr (some ⟨b15, 0, none⟩)), (7, .int .i64 i), (8, .int .i64 (nodeAt (l[(i : Int).toNat]'(by omega))))] ∧ H1 = H2) ⟨by rw [nodeAt, if_neg (fun h => h.2 (by simpa using hc48))], rfl⟩ (sub_c rfl (sub_c rfl (sub_c rfl (sub_c rfl (sub_c rfl sub_n))))) (Heap.le.refl _)
        · have hh41 := hg41; try simp only [decide_eq_false_iff_not] at hh41
          refine AList.gn rfl rfl rfl (by first | rfl | assumption) ?_
          refine AList.gn rfl rfl rfl (by first | rfl | assumption) ?_
          refine AList.gn rfl rfl rfl (by first | rfl | assumption) ?_
          refine AList.gn rfl rfl rfl (by first | rfl | assumption) ?_
          refine AList.gn rfl rfl rfl (by first | rfl | assumption) ?_
          refine AList.gn rfl rfl rfl (by first | rfl | assumption) ?_
          refine AList.p rfl (pure_pickF (.tmp _ _ rfl) (by first | rfl | assumption) ev_bool) ?_
          refine AList.nil ?_
          refine Next.go ?_
          -- c2
          refine AWP.cond_false (.tmp _ _ rfl) (by first | rfl | assumption) ?_
          refine AWP.skip ?_
          refine Next.go ?_
          refine Meets.mk (M := fun env H2 => env = [(0, .slice 2 (l.map RNode.av) tl), (5, .ptr (some ⟨b, 0, none⟩)), (6, .ptr (some ⟨b15, 0, none⟩)), (7, .int .i64 i), (8, .int .i64 (nodeAt (l[(i : Int).toNat]'(by omega))))] ∧ H1 = H2) ⟨by rw [nodeAt, if_neg (fun h => hh41 h.1)], rfl⟩ (sub_c rfl (sub_c rfl (sub_c rfl (sub_c rfl (sub_c rfl sub_n))))) (Heap.le.refl _)
      · rintro _ _ ⟨rfl, rfl⟩
        refine AWP.seq ?_
        -- region 11
        refine AWP.region ?_
        refine AList.p rfl (pure_assign (ev_nil (sz := 8) (tl := .full))) ?_
        refine AList.nil ?_
        refine Next.go ?_
        refine AWP.seq ?_
        -- region 12
        refine AWP.region ?_
        refine AList.p rfl (pure_assign (ev_nil (sz := 8) (tl := .full))) ?_
        refine AList.nil ?_
        refine Next.go ?_
        refine AWP.seq ?_
        refine AWP.seq ?_
        -- region 13
        refine AWP.region ?_
        refine AList.p rfl (pure_assign ev_int) ?_
        refine AList.nil ?_
        refine Next.go ?_
        refine AWP.block ?_
        -- L1
        refine AWP.tag (t := 9) rfl (fun u9 hu9 => ?_)
        have hfu9 := Heap.fresh_of hle hu9
        have hleu9 := Heap.le_in hle u9
        refine AWP.tag (t := 10) rfl (fun u10 hu10 => ?_)
        have hfu10 := Heap.fresh_of hleu9 hu10
        have hleu10 := Heap.le_in hleu9 u10
        refine AWP.loopW (made_K l tl b m b15 i (l[(i : Int).toNat]'(by omega)) (nodeAt (l[(i : Int).toNat]'(by omega))) (mM (l.take i)) (mG (l.take i)) H) (8) ⟨0, u9, u10, Nat.zero_le _, Nat.zero_le _, rfl, hp.ob (H' := (H1.live u9).live u10) (fun _ _ h => h), hrb, hleu10, Heap.toks_live (Heap.toks_live_same _ _) _, Heap.toks_live_same _ _, Heap.tok_ne (Heap.toks_live_same _ _) hu10, hfu9, hfu10, rfl⟩ (sub_c rfl (sub_c rfl (sub_c rfl (sub_c rfl (sub_c rfl (sub_c rfl (sub_c rfl (sub_c rfl sub_n)))))))) (Heap.le.refl _) ?_
        rintro _ _ H1 ⟨j, t, t2, hj, hj8, rfl, hp, hrb, hle, hlive, hlive2, htt, hfr, hfr2, rfl⟩
        refine AWP.seq ?_
        refine AWP.seq ?_
        -- region 14
        refine AWP.region ?_
        refine AList.p rfl (pure_move (.tmp _ _ rfl)) ?_
        refine AList.p rfl (pure_move (.tmp _ _ rfl)) ?_
        refine AList.p rfl (pure_move (.tmp _ _ rfl)) ?_
        first | (refine AList.p rfl (pure_indexL Try.underlying22 Try.sizeOf59 (.tmp _ _ rfl) (.tmp _ _ rfl) (by omega) (by omega)) ?_) | (refine AList.p rfl (pure_indexM Try.underlying22 Try.sizeOf59 (.tmp _ _ rfl) (.tmp _ _ rfl) (by omega) (by omega)) ?_)
        first | (refine AList.p rfl (pure_fieldI Try.underlying59 rfl Try.sizeOf57 (.tmp _ _ rfl)) ?_) | (refine AList.p rfl (pure_field Try.underlying59 rfl Try.sizeOf57 (.tmp _ _ rfl)) ?_)
        first | (refine AList.p rfl (pure_load1 Try.isAgg57 (.tmp _ _ rfl)) ?_) | (refine AList.s rfl (step_load1 Try.isAgg57 (.tmp _ _ rfl) (by first | assumption | exact (by assumption : Heap.le _ _).objs _ _ (by assumption) | exact Heap.objs_set_same _ _ _ | exact (Heap.objs_set_ne _ _ (by assumption)).trans (Heap.objs_set_same _ _ _) | exact (Heap.objs_set_ne _ _ (by assumption)).trans ((Heap.objs_set_ne _ _ (by assumption)).trans (Heap.objs_set_same _ _ _)) | exact (Heap.objs_set_ne _ _ (by assumption)).trans (by assumption)) rfl) ?_; rintro _ _ ⟨rfl, hH⟩; obtain rfl := hH.symm)
        first | (refine AList.p rfl (pure_lenL Try.underlying57 (.tmp _ _ rfl)) ?_) | (refine AList.p rfl (pure_lenS Try.underlying57 (.tmp _ _ rfl)) ?_) | (refine AList.p rfl (pure_lenM Try.underlying57 (.tmp _ _ rfl)) ?_)
        refine AList.p rfl (pure_lss (.tmp _ _ rfl) (.tmp _ _ rfl)) ?_
        refine AList.p rfl (pure_move (.tmp _ _ rfl)) ?_
        -- the guard in slot 62
        refine bool_casesL (t := 62) rfl (fun hg62 => ?_) (fun hg62 => ?_)
        · have hh62 := hg62; try simp only [decide_eq_true_eq] at hh62
          refine AList.gp rfl rfl rfl (by first | rfl | assumption) (pure_move (.tmp _ _ rfl)) ?_
          refine AList.gp rfl rfl rfl (by first | rfl | assumption) (pure_lss (.tmp _ _ rfl) ev_int) ?_
          refine AList.p rfl (pure_pickT (.tmp _ _ rfl) (by first | rfl | assumption) (.tmp _ _ rfl)) ?_
          refine AList.nil ?_
          refine Next.go ?_
          -- c3
          refine AWP.cond (.tmp _ _ rfl) (fun hc65 => ?_) (fun hc65 => ?_)
          · try simp only [decide_eq_true_eq] at hc65
            refine AWP.skip ?_
            refine Next.go ?_
            refine AWP.seq ?_
            refine AWP.block ?_
            refine AWP.seq ?_
            have hq := hr.areas ((l[(i : Int).toNat]'(by omega)).areas[(j : Int).toNat]'(by omega)) (List.getElem_mem _)
            -- region 16
            refine AWP.region ?_
            refine AList.p rfl (pure_move (.tmp _ _ rfl)) ?_
            refine AList.p rfl (pure_move (.tmp _ _ rfl)) ?_
            first | (refine AList.p rfl (pure_indexL Try.underlying22 Try.sizeOf59 (.tmp _ _ rfl) (.tmp _ _ rfl) (by omega) (by omega)) ?_) | (refine AList.p rfl (pure_indexM Try.underlying22 Try.sizeOf59 (.tmp _ _ rfl) (.tmp _ _ rfl) (by omega) (by omega)) ?_)
            first | (refine AList.p rfl (pure_fieldI Try.underlying59 rfl Try.sizeOf57 (.tmp _ _ rfl)) ?_) | (refine AList.p rfl (pure_field Try.underlying59 rfl Try.sizeOf57 (.tmp _ _ rfl)) ?_)
            first | (refine AList.p rfl (pure_load1 Try.isAgg57 (.tmp _ _ rfl)) ?_) | (refine AList.s rfl (step_load1 Try.isAgg57 (.tmp _ _ rfl) (by first | assumption | exact (by assumption : Heap.le _ _).objs _ _ (by assumption) | exact Heap.objs_set_same _ _ _ | exact (Heap.objs_set_ne _ _ (by assumption)).trans (Heap.objs_set_same _ _ _) | exact (Heap.objs_set_ne _ _ (by assumption)).trans ((Heap.objs_set_ne _ _ (by assumption)).trans (Heap.objs_set_same _ _ _)) | exact (Heap.objs_set_ne _ _ (by assumption)).trans (by assumption)) rfl) ?_; rintro _ _ ⟨rfl, hH⟩; obtain rfl := hH.symm)
            refine AList.p rfl (pure_move (.tmp _ _ rfl)) ?_
            first | (refine AList.p rfl (pure_indexL Try.underlying57 Try.sizeOf62 (.tmp _ _ rfl) (.tmp _ _ rfl) (by omega) (by omega)) ?_) | (refine AList.p rfl (pure_indexM Try.underlying57 Try.sizeOf62 (.tmp _ _ rfl) (.tmp _ _ rfl) (by omega) (by omega)) ?_)
            first | (refine AList.p rfl (pure_loadN Try.isAgg62 Try.sizeOf62 (.tmp _ _ rfl) (Nat.le_of_ble_eq_true rfl)) ?_) | (refine AList.s rfl (step_loadN Try.isAgg62 Try.sizeOf62 (.tmp _ _ rfl) (by first | assumption | exact (by assumption : Heap.le _ _).objs _ _ (by assumption) | exact Heap.objs_set_same _ _ _ | exact (Heap.objs_set_ne _ _ (by assumption)).trans (Heap.objs_set_same _ _ _) | exact (Heap.objs_set_ne _ _ (by assumption)).trans ((Heap.objs_set_ne _ _ (by assumption)).trans (Heap.objs_set_same _ _ _)) | exact (Heap.objs_set_ne _ _ (by assumption)).trans (by assumption)) (Nat.le_of_ble_eq_true rfl)) ?_; rintro _ _ ⟨rfl, hH⟩; obtain rfl := hH.symm)
            refine AList.s rfl (step_call0 Try.call31 (.cons (.tmp _ _ rfl) .nil) (area_calls _ _ _ _ hq.1 hq.2.1 hq.2.2.1 _)) ?_
            rintro _ _ ⟨rfl, hH⟩
            obtain rfl := hH.symm
            refine AList.s rfl (step_alloc Try.zeroValue60 (zr60)) ?_
            rintro _ _ ⟨b12, hb12, rfl, hH⟩
            obtain rfl := hH.symm
            have hn15_12 := Heap.ne_of (by first | assumption | exact (by assumption : Heap.le _ _).objs _ _ (by assumption) | exact Heap.objs_set_same _ _ _ | exact (Heap.objs_set_ne _ _ (by assumption)).trans (Heap.objs_set_same _ _ _) | exact (Heap.objs_set_ne _ _ (by assumption)).trans ((Heap.objs_set_ne _ _ (by assumption)).trans (Heap.objs_set_same _ _ _)) | exact (Heap.objs_set_ne _ _ (by assumption)).trans (by assumption)) hb12
            refine AList.s0 (step_store Try.sizeOf60 (.tmp _ _ rfl) (.tmp _ _ rfl) rfl rfl (.inr ⟨_, rfl⟩) (Heap.objs_set_same _ _ _) (Nat.le_of_ble_eq_true rfl)) ?_
            rintro _ _ ⟨rfl, hH⟩
            obtain rfl := hH.symm
            rw [Heap.set_set]
            refine AList.nil ?_
            refine Next.go ?_
            refine AWP.meet (fun env H2 => env = [(0, .slice 2 (l.map RNode.av) tl), (5, .ptr (some ⟨b, 0, none⟩)), (6, .ptr (some ⟨b15, 0, none⟩)), (7, .int .i64 i), (8, .int .i64 (nodeAt (l[(i : Int).toNat]'(by omega)))), (9, .slice 8 (((((l[(i : Int).toNat]'(by omega)).areas.take j).map areaR).map Area.av)) (.own t)), (10, .slice 8 (((((l[(i : Int).toNat]'(by omega)).areas.take j).map areaR).map Area.av)) (.own t2)), (11, .int .i64 j), (12, .ptr (some ⟨b12, 0, none⟩))] ∧ H2 = H1.set b12 (.box 60 (areaR ((l[(i : Int).toNat]'(by omega)).areas[(j : Int).toNat]'(by omega))).av.cells)) ?_ ?_
            · refine AWP.seq ?_
              -- region 17
              refine AWP.region ?_
              refine AList.p rfl (pure_move (.tmp _ _ rfl)) ?_
              refine AList.p rfl (pure_move (.tmp _ _ rfl)) ?_
              first | (refine AList.p rfl (pure_indexL Try.underlying22 Try.sizeOf59 (.tmp _ _ rfl) (.tmp _ _ rfl) (by omega) (by omega)) ?_) | (refine AList.p rfl (pure_indexM Try.underlying22 Try.sizeOf59 (.tmp _ _ rfl) (.tmp _ _ rfl) (by omega) (by omega)) ?_)
              first | (refine AList.p rfl (pure_fieldI Try.underlying59 rfl Try.sizeOf57 (.tmp _ _ rfl)) ?_) | (refine AList.p rfl (pure_field Try.underlying59 rfl Try.sizeOf57 (.tmp _ _ rfl)) ?_)
              first | (refine AList.p rfl (pure_load1 Try.isAgg57 (.tmp _ _ rfl)) ?_) | (refine AList.s rfl (step_load1 Try.isAgg57 (.tmp _ _ rfl) (by first | assumption | exact (by assumption : Heap.le _ _).objs _ _ (by assumption) | exact Heap.objs_set_same _ _ _ | exact (Heap.objs_set_ne _ _ (by assumption)).trans (Heap.objs_set_same _ _ _) | exact (Heap.objs_set_ne _ _ (by assumption)).trans ((Heap.objs_set_ne _ _ (by assumption)).trans (Heap.objs_set_same _ _ _)) | exact (Heap.objs_set_ne _ _ (by assumption)).trans (by assumption)) rfl) ?_; rintro _ _ ⟨rfl, hH⟩; obtain rfl := hH.symm)
              refine AList.p rfl (pure_move (.tmp _ _ rfl)) ?_
              first | (refine AList.p rfl (pure_indexL Try.underlying57 Try.sizeOf62 (.tmp _ _ rfl) (.tmp _ _ rfl) (by omega) (by omega)) ?_) | (refine AList.p rfl (pure_indexM Try.underlying57 Try.sizeOf62 (.tmp _ _ rfl) (.tmp _ _ rfl) (by omega) (by omega)) ?_)
              first | (refine AList.p rfl (pure_indexA Try.underlying62 Try.sizeOf3 (.tmp _ _ rfl) ev_int (by omega) (by omega)) ?_) | (refine AList.p rfl (pure_indexB Try.underlying62 Try.sizeOf3 (.tmp _ _ rfl) ev_int (by omega) (by omega)) ?_)
              first | (refine AList.p rfl (pure_load1 Try.isAgg3 (.tmp _ _ rfl)) ?_) | (refine AList.s rfl (step_load1 Try.isAgg3 (.tmp _ _ rfl) (by first | assumption | exact (by assumption : Heap.le _ _).objs _ _ (by assumption) | exact Heap.objs_set_same _ _ _ | exact (Heap.objs_set_ne _ _ (by assumption)).trans (Heap.objs_set_same _ _ _) | exact (Heap.objs_set_ne _ _ (by assumption)).trans ((Heap.objs_set_ne _ _ (by assumption)).trans (Heap.objs_set_same _ _ _)) | exact (Heap.objs_set_ne _ _ (by assumption)).trans (by assumption)) rfl) ?_; rintro _ _ ⟨rfl, hH⟩; obtain rfl := hH.symm)
              refine AList.p rfl (pure_rem (.tmp _ _ rfl) ev_int (by omega)) ?_
              refine AList.p rfl (pure_eql (.tmp _ _ rfl) ev_int) ?_
              refine AList.p rfl (pure_move (.tmp _ _ rfl)) ?_
              -- the guard in slot 88
              refine bool_casesL (t := 88) rfl (fun hg88 => ?_) (fun hg88 => ?_)
              · have hh88 := hg88; try simp only [decide_eq_true_eq] at hh88
                refine AList.gp rfl rfl rfl (by first | rfl | assumption) (pure_move (.tmp _ _ rfl)) ?_
                refine AList.gp rfl rfl rfl (by first | rfl | assumption) (pure_move (.tmp _ _ rfl)) ?_
                first | (refine AList.gp rfl rfl rfl (by first | rfl | assumption) (pure_indexL Try.underlying22 Try.sizeOf59 (.tmp _ _ rfl) (.tmp _ _ rfl) (by omega) (by omega)) ?_) | (refine AList.gp rfl rfl rfl (by first | rfl | assumption) (pure_indexM Try.underlying22 Try.sizeOf59 (.tmp _ _ rfl) (.tmp _ _ rfl) (by omega) (by omega)) ?_)
                first | (refine AList.gp rfl rfl rfl (by first | rfl | assumption) (pure_fieldI Try.underlying59 rfl Try.sizeOf57 (.tmp _ _ rfl)) ?_) | (refine AList.gp rfl rfl rfl (by first | rfl | assumption) (pure_field Try.underlying59 rfl Try.sizeOf57 (.tmp _ _ rfl)) ?_)
                first | (refine AList.gp rfl rfl rfl (by first | rfl | assumption) (pure_load1 Try.isAgg57 (.tmp _ _ rfl)) ?_) | (refine AList.gs rfl rfl rfl (by first | rfl | assumption) (step_load1 Try.isAgg57 (.tmp _ _ rfl) (by first | assumption | exact (by assumption : Heap.le _ _).objs _ _ (by assumption) | exact Heap.objs_set_same _ _ _ | exact (Heap.objs_set_ne _ _ (by assumption)).trans (Heap.objs_set_same _ _ _) | exact (Heap.objs_set_ne _ _ (by assumption)).trans ((Heap.objs_set_ne _ _ (by assumption)).trans (Heap.objs_set_same _ _ _)) | exact (Heap.objs_set_ne _ _ (by assumption)).trans (by assumption)) rfl) ?_; rintro _ _ ⟨rfl, hH⟩; obtain rfl := hH.symm)
                refine AList.gp rfl rfl rfl (by first | rfl | assumption) (pure_move (.tmp _ _ rfl)) ?_
                first | (refine AList.gp rfl rfl rfl (by first | rfl | assumption) (pure_indexL Try.underlying57 Try.sizeOf62 (.tmp _ _ rfl) (.tmp _ _ rfl) (by omega) (by omega)) ?_) | (refine AList.gp rfl rfl rfl (by first | rfl | assumption) (pure_indexM Try.underlying57 Try.sizeOf62 (.tmp _ _ rfl) (.tmp _ _ rfl) (by omega) (by omega)) ?_)
                first | (refine AList.gp rfl rfl rfl (by first | rfl | assumption) (pure_indexA Try.underlying62 Try.sizeOf3 (.tmp _ _ rfl) ev_int (by omega) (by omega)) ?_) | (refine AList.gp rfl rfl rfl (by first | rfl | assumption) (pure_indexB Try.underlying62 Try.sizeOf3 (.tmp _ _ rfl) ev_int (by omega) (by omega)) ?_)
                first | (refine AList.gp rfl rfl rfl (by first | rfl | assumption) (pure_load1 Try.isAgg3 (.tmp _ _ rfl)) ?_) | (refine AList.gs rfl rfl rfl (by first | rfl | assumption) (step_load1 Try.isAgg3 (.tmp _ _ rfl) (by first | assumption | exact (by assumption : Heap.le _ _).objs _ _ (by assumption) | exact Heap.objs_set_same _ _ _ | exact (Heap.objs_set_ne _ _ (by assumption)).trans (Heap.objs_set_same _ _ _) | exact (Heap.objs_set_ne _ _ (by assumption)).trans ((Heap.objs_set_ne _ _ (by assumption)).trans (Heap.objs_set_same _ _ _)) | exact (Heap.objs_set_ne _ _ (by assumption)).trans (by assumption)) rfl) ?_; rintro _ _ ⟨rfl, hH⟩; obtain rfl := hH.symm)
                refine AList.gp rfl rfl rfl (by first | rfl | assumption) (pure_neq (.tmp _ _ rfl) ev_int) ?_
                refine AList.p rfl (pure_pickT (.tmp _ _ rfl) (by first | rfl | assumption) (.tmp _ _ rfl)) ?_
                refine AList.nil ?_
                refine Next.go ?_
                -- c4
                refine AWP.cond (.tmp _ _ rfl) (fun hc99 => ?_) (fun hc99 => ?_)
                · try simp only [decide_eq_true_eq, ne_eq] at hc99
                  -- region 18
                  refine AWP.region ?_
                  refine AList.p rfl (pure_move (.tmp _ _ rfl)) ?_
                  refine AList.p rfl (pure_move (.tmp _ _ rfl)) ?_
                  first | (refine AList.p rfl (pure_indexL Try.underlying22 Try.sizeOf59 (.tmp _ _ rfl) (.tmp _ _ rfl) (by omega) (by omega)) ?_) | (refine AList.p rfl (pure_indexM Try.underlying22 Try.sizeOf59 (.tmp _ _ rfl) (.tmp _ _ rfl) (by omega) (by omega)) ?_)
                  first | (refine AList.p rfl (pure_fieldI Try.underlying59 rfl Try.sizeOf57 (.tmp _ _ rfl)) ?_) | (refine AList.p rfl (pure_field Try.underlying59 rfl Try.sizeOf57 (.tmp _ _ rfl)) ?_)
                  first | (refine AList.p rfl (pure_load1 Try.isAgg57 (.tmp _ _ rfl)) ?_) | (refine AList.s rfl (step_load1 Try.isAgg57 (.tmp _ _ rfl) (by first | assumption | exact (by assumption : Heap.le _ _).objs _ _ (by assumption) | exact Heap.objs_set_same _ _ _ | exact (Heap.objs_set_ne _ _ (by assumption)).trans (Heap.objs_set_same _ _ _) | exact (Heap.objs_set_ne _ _ (by assumption)).trans ((Heap.objs_set_ne _ _ (by assumption)).trans (Heap.objs_set_same _ _ _)) | exact (Heap.objs_set_ne _ _ (by assumption)).trans (by assumption)) rfl) ?_; rintro _ _ ⟨rfl, hH⟩; obtain rfl := hH.symm)
                  refine AList.p rfl (pure_move (.tmp _ _ rfl)) ?_
                  first | (refine AList.p rfl (pure_indexL Try.underlying57 Try.sizeOf62 (.tmp _ _ rfl) (.tmp _ _ rfl) (by omega) (by omega)) ?_) | (refine AList.p rfl (pure_indexM Try.underlying57 Try.sizeOf62 (.tmp _ _ rfl) (.tmp _ _ rfl) (by omega) (by omega)) ?_)
                  first | (refine AList.p rfl (pure_indexA Try.underlying62 Try.sizeOf3 (.tmp _ _ rfl) ev_int (by omega) (by omega)) ?_) | (refine AList.p rfl (pure_indexB Try.underlying62 Try.sizeOf3 (.tmp _ _ rfl) ev_int (by omega) (by omega)) ?_)
                  first | (refine AList.p rfl (pure_load1 Try.isAgg3 (.tmp _ _ rfl)) ?_) | (refine AList.s rfl (step_load1 Try.isAgg3 (.tmp _ _ rfl) (by first | assumption | exact (by assumption : Heap.le _ _).objs _ _ (by assumption) | exact Heap.objs_set_same _ _ _ | exact (Heap.objs_set_ne _ _ (by assumption)).trans (Heap.objs_set_same _ _ _) | exact (Heap.objs_set_ne _ _ (by assumption)).trans ((Heap.objs_set_ne _ _ (by assumption)).trans (Heap.objs_set_same _ _ _)) | exact (Heap.objs_set_ne _ _ (by assumption)).trans (by assumption)) rfl) ?_; rintro _ _ ⟨rfl, hH⟩; obtain rfl := hH.symm)
                  first | (refine AList.p rfl (pure_fieldI Try.underlying60 rfl Try.sizeOf50 (.tmp _ _ rfl)) ?_) | (refine AList.p rfl (pure_field Try.underlying60 rfl Try.sizeOf50 (.tmp _ _ rfl)) ?_)
                  first | (refine AList.p rfl (pure_fieldI Try.underlying50 rfl Try.sizeOf3 (.tmp _ _ rfl)) ?_) | (refine AList.p rfl (pure_field Try.underlying50 rfl Try.sizeOf3 (.tmp _ _ rfl)) ?_)
                  refine AList.s0 (step_store Try.sizeOf3 (.tmp _ _ rfl) (.tmp _ _ rfl) rfl rfl (.inl rfl) (Heap.objs_set_same _ _ _) (Nat.le_of_ble_eq_true rfl)) ?_
                  rintro _ _ ⟨rfl, hH⟩
                  obtain rfl := hH.symm
                  rw [Heap.set_set]
                  refine AList.nil ?_
                  refine Next.go ?_
                  refine Meets.mk (M := fun env H2 => env = [(0, .slice 2 (l.map RNode.av) tl), (5, .ptr (some ⟨b, 0, none⟩)), (6, .ptr (some ⟨b15, 0, none⟩)), (7, .int .i64 i), (8, .int .i64 (nodeAt (l[(i : Int).toNat]'(by omega)))), (9, .slice 8 (((((l[(i : Int).toNat]'(by omega)).areas.take j).map areaR).map Area.av)) (.own t)), (10, .slice 8 (((((l[(i : Int).toNat]'(by omega)).areas.take j).map areaR).map Area.av)) (.own t2)), (11, .int .i64 j), (12, .ptr (some ⟨b12, 0, none⟩))] ∧ H2 = H1.set b12 (.box 60 (areaR ((l[(i : Int).toNat]'(by omega)).areas[(j : Int).toNat]'(by omega))).av.cells)) ⟨rfl, by rw [areaR, if_pos ⟨by simpa using hg88, by simpa using hc99⟩]; rfl⟩ (sub_c rfl (sub_c rfl (sub_c rfl (sub_c rfl (sub_c rfl (sub_c rfl (sub_c rfl (sub_c rfl (sub_c rfl sub_n))))))))) (Heap.le.refl _)
                · try simp only [decide_eq_false_iff_not, ne_eq, Decidable.not_not] at hc99
                  refine AWP.skip ?_
                  refine Next.go ?_
                  refine Meets.mk (M := fun env H2 => env = [(0, .slice 2 (l.map RNode.av) tl), (5, .ptr (some ⟨b, 0, none⟩)), (6, .ptr (some ⟨b15, 0, none⟩)), (7, .int .i64 i), (8, .int .i64 (nodeAt (l[(i : Int).toNat]'(by omega)))), (9, .slice 8 (((((l[(i : Int).toNat]'(by omega)).areas.take j).map areaR).map Area.av)) (.own t)), (10, .slice 8 (((((l[(i : Int).toNat]'(by omega)).areas.take j).map areaR).map Area.av)) (.own t2)), (11, .int .i64 j), (12, .ptr (some ⟨b12, 0, none⟩))] ∧ H2 = H1.set b12 (.box 60 (areaR ((l[(i : Int).toNat]'(by omega)).areas[(j : Int).toNat]'(by omega))).av.cells)) ⟨rfl, by rw [areaR, if_neg (fun h => h.2 (by simpa using hc99))]; rfl⟩ (sub_c rfl (sub_c rfl (sub_c rfl (sub_c rfl (sub_c rfl (sub_c rfl (sub_c rfl (sub_c rfl (sub_c rfl sub_n))))))))) (Heap.le.refl _)
              · have hh88 := hg88; try simp only [decide_eq_false_iff_not] at hh88
                refine AList.gn rfl rfl rfl (by first | rfl | assumption) ?_
                refine AList.gn rfl rfl rfl (by first | rfl | assumption) ?_
                refine AList.gn rfl rfl rfl (by first | rfl | assumption) ?_
                refine AList.gn rfl rfl rfl (by first | rfl | assumption) ?_
                refine AList.gn rfl rfl rfl (by first | rfl | assumption) ?_
                refine AList.gn rfl rfl rfl (by first | rfl | assumption) ?_
                refine AList.gn rfl rfl rfl (by first | rfl | assumption) ?_
                refine AList.gn rfl rfl rfl (by first | rfl | assumption) ?_
                refine AList.gn rfl rfl rfl (by first | rfl | assumption) ?_
                refine AList.gn rfl rfl rfl (by first | rfl | assumption) ?_
                refine AList.p rfl (pure_pickF (.tmp _ _ rfl) (by first | rfl | assumption) ev_bool) ?_
                refine AList.nil ?_
                refine Next.go ?_
                -- c4
                refine AWP.cond_false (.tmp _ _ rfl) (by first | rfl | assumption) ?_
                refine AWP.skip ?_
                refine Next.go ?_
                refine Meets.mk (M := fun env H2 => env = [(0, .slice 2 (l.map RNode.av) tl), (5, .ptr (some ⟨b, 0, none⟩)), (6, .ptr (some ⟨b15, 0, none⟩)), (7, .int .i64 i), (8, .int .i64 (nodeAt (l[(i : Int).toNat]'(by omega)))), (9, .slice 8 (((((l[(i : Int).toNat]'(by omega)).areas.take j).map areaR).map Area.av)) (.own t)), (10, .slice 8 (((((l[(i : Int).toNat]'(by omega)).areas.take j).map areaR).map Area.av)) (.own t2)), (11, .int .i64 j), (12, .ptr (some ⟨b12, 0, none⟩))] ∧ H2 = H1.set b12 (.box 60 (areaR ((l[(i : Int).toNat]'(by omega)).areas[(j : Int).toNat]'(by omega))).av.cells)) ⟨rfl, by rw [areaR, if_neg (fun h => hh88 h.1)]; rfl⟩ (sub_c rfl (sub_c rfl (sub_c rfl (sub_c rfl (sub_c rfl (sub_c rfl (sub_c rfl (sub_c rfl (sub_c rfl sub_n))))))))) (Heap.le.refl _)
            · rintro _ _ ⟨rfl, rfl⟩
              have hb12n : H.objs b12 = none := by cases h : H.objs b12 with | none => rfl | some x => rw [hle.objs _ _ h] at hb12; cases hb12
              have hle12 := Heap.le_set_new hle hb12n (.box 60 (areaR ((l[(i : Int).toNat]'(by omega)).areas[(j : Int).toNat]'(by omega))).av.cells)
              refine AWP.seq ?_
              -- region 19
              refine AWP.region ?_
              refine AList.p rfl (pure_move (.tmp _ _ rfl)) ?_
              first | (refine AList.p rfl (pure_fieldI Try.underlying60 rfl Try.sizeOf50 (.tmp _ _ rfl)) ?_) | (refine AList.p rfl (pure_field Try.underlying60 rfl Try.sizeOf50 (.tmp _ _ rfl)) ?_)
              refine AList.s rfl (step_loadN Try.isAgg50 Try.sizeOf50 (.tmp _ _ rfl) (Heap.objs_set_same _ _ _) (Nat.le_of_ble_eq_true rfl)) ?_
              rintro _ _ ⟨rfl, hH⟩
              obtain rfl := hH.symm
              first | (refine AList.p rfl (pure_fieldI Try.underlying60 rfl Try.sizeOf50 (.tmp _ _ rfl)) ?_) | (refine AList.p rfl (pure_field Try.underlying60 rfl Try.sizeOf50 (.tmp _ _ rfl)) ?_)
              refine AList.s rfl (step_loadN Try.isAgg50 Try.sizeOf50 (.tmp _ _ rfl) (Heap.objs_set_same _ _ _) (Nat.le_of_ble_eq_true rfl)) ?_
              rintro _ _ ⟨rfl, hH⟩
              obtain rfl := hH.symm
              refine AList.p rfl (pure_build [(0, 4), (4, 4)] Try.underlying52 Try.zeroValue52 (zr52) rfl (pl52 _ Try.underlying52) (.cons (.tmp _ _ rfl) (.inr ⟨_, rfl⟩) (.cons (.tmp _ _ rfl) (.inr ⟨_, rfl⟩) .nil)) rfl) ?_
              refine AList.s rfl (step_bs1 Try.underlying39 Try.sizeOf52 Try.zeroValue52 rfl (.tmp _ _ rfl) (.inr ⟨_, rfl⟩) ⟨rfl, rfl⟩) ?_
              rintro _ _ ⟨rfl, hH⟩
              obtain rfl := hH.symm
              refine AList.s rfl (step_append Try.underlying39 Try.underlying39 Try.sizeOf52 Try.typeInfo52 Try.zeroValue52 rfl (by decide) (.tmp _ _ rfl) (.tmp _ _ rfl) (by exact .own _ hlive) (by show (_ + _) * 48 ≤ _; simp; omega) (by repeat' (first | exact row_int _ | exact row_n | exact row_c ⟨rfl, rfl⟩ row_n | exact row_drop (row_int _) | exact row_take (row_int _) | refine row_app ?_ ?_ | exact row_area _)) (by repeat' (first | exact row_int _ | exact row_n | exact row_c ⟨rfl, rfl⟩ row_n | exact row_drop (row_int _) | exact row_take (row_int _) | refine row_app ?_ ?_ | exact row_area _))) ?_
              rintro _ _ ⟨t118, ht118, rfl, hH⟩
              obtain rfl := hH.symm
              have hf118 := Heap.fresh_of hle12 ht118
              have hle118 := Heap.le_in (Heap.le_out (t := t) hle12 hfr) t118
              have hn118 : t2 ≠ t118 := Heap.tok_ne (H := H1.set b12 (.box 60 (areaR ((l[(i : Int).toNat]'(by omega)).areas[(j : Int).toNat]'(by omega))).av.cells)) hlive2 ht118
              refine AList.p rfl (pure_assign (.tmp _ _ rfl)) ?_
              refine AList.nil ?_
              refine Next.go ?_
              -- region 20
              refine AWP.region ?_
              refine AList.p rfl (pure_move (.tmp _ _ rfl)) ?_
              refine AList.s rfl (step_loadN Try.isAgg60 Try.sizeOf60 (.tmp _ _ rfl) (Heap.objs_set_same _ _ _) (Nat.le_of_ble_eq_true rfl)) ?_
              rintro _ _ ⟨rfl, hH⟩
              obtain rfl := hH.symm
              refine AList.s rfl (step_bs1 Try.underlying41 Try.sizeOf60 Try.zeroValue60 rfl (.tmp _ _ rfl) (.inr ⟨_, rfl⟩) ⟨rfl, rfl⟩) ?_
              rintro _ _ ⟨rfl, hH⟩
              obtain rfl := hH.symm
              refine AList.s rfl (step_append Try.underlying41 Try.underlying41 Try.sizeOf60 Try.typeInfo60 Try.zeroValue60 rfl (by decide) (.tmp _ _ rfl) (.tmp _ _ rfl) (by exact .own _ (Heap.toks_live (Heap.toks_kill hlive2 (fun h => htt h.symm)) _)) (by show (_ + _) * 48 ≤ _; simp; omega) (by repeat' (first | exact row_int _ | exact row_n | exact row_c ⟨rfl, rfl⟩ row_n | exact row_drop (row_int _) | exact row_take (row_int _) | refine row_app ?_ ?_ | exact row_area _)) (by repeat' (first | exact row_int _ | exact row_n | exact row_c ⟨rfl, rfl⟩ row_n | exact row_drop (row_int _) | exact row_take (row_int _) | refine row_app ?_ ?_ | exact row_area _))) ?_
              rintro _ _ ⟨t122, ht122, rfl, hH⟩
              obtain rfl := hH.symm
              have hf122 := Heap.fresh_of hle118 ht122
              have hle122 := Heap.le_in (Heap.le_out (t := t2) hle118 hfr2) t122
              have hn122 : t118 ≠ t122 := Heap.tok_ne (Heap.toks_live_same _ _) ht122
              refine AList.p rfl (pure_assign (.tmp _ _ rfl)) ?_
              refine AList.nil ?_
              refine Block.go ?_
              refine Next.go ?_
              -- region 15
              refine AWP.region ?_
              refine AList.p rfl (pure_move (.tmp _ _ rfl)) ?_
              refine AList.p rfl (pure_add (.tmp _ _ rfl) ev_int (by omega)) ?_
              refine AList.p rfl (pure_assign (.tmp _ _ rfl)) ?_
              refine AList.nil ?_
              refine Next.go ?_
              refine Round.mk (J := made_K l tl b m b15 i (l[(i : Int).toNat]'(by omega)) (nodeAt (l[(i : Int).toNat]'(by omega))) (mM (l.take i)) (mG (l.take i)) H) ⟨j + 1, t118, t122, by omega, by omega, rfl, hp.ob (H' := ((((H1.set b12 (.box 60 (areaR ((l[(i : Int).toNat]'(by omega)).areas[(j : Int).toNat]'(by omega))).av.cells)).kill t).live t118).kill t2).live t122) (fun k x hk => (Heap.le_set hb12 _).objs k x hk), (Heap.le_set hb12 _).objs _ _ hrb, hle122, Heap.toks_live (Heap.toks_kill (Heap.toks_live_same _ _) (fun h => hn118 h.symm)) _, Heap.toks_live_same _ _, hn122, hf118, hf122, rfl⟩ (sub_c rfl (sub_c rfl (sub_c rfl (sub_c rfl (sub_c rfl (sub_e rfl (slice_eq (by rw [take_succ_get _ j (by omega), List.map_append, List.map_append]; rfl)) (sub_e rfl (slice_eq (by rw [take_succ_get _ j (by omega), List.map_append, List.map_append]; rfl)) (sub_c rfl sub_n)))))))) (Heap.le.refl _) (by omega)
          · try simp only [decide_eq_false_iff_not, Int.not_lt] at hc65
            refine AWP.exit ?_
            refine Next.ex ?_
            refine Next.ex ?_
            refine Block.hit ?_
            refine Next.go ?_
            refine AWP.seq ?_
            have hjt : ((l[(i : Int).toNat]'(by omega)).areas.take j).map areaR = areasR (l[(i : Int).toNat]'(by omega)) := by
              unfold areasR
              rcases Nat.lt_or_ge j 8 with h8 | h8
              · rw [List.take_of_length_le (by omega), List.take_of_length_le (by omega)]
              · rw [show j = 8 by omega]
            rw [hjt]
            -- region 21
            refine AWP.region ?_
            refine AList.p rfl (pure_move (.tmp _ _ rfl)) ?_
            refine AList.p rfl (pure_move (.tmp _ _ rfl)) ?_
            refine AList.p rfl (pure_move (.tmp _ _ rfl)) ?_
            refine AList.s rfl (step_call0 Try.call28 (.cons (.tmp _ _ rfl) (.cons (.tmp _ _ rfl) (.cons (.tmp _ _ rfl) .nil))) (pSet_calls b m _ (fun c => Nat.le_trans (hok.areasM c) (by omega)) _ (nodeAt_64 hr) (areasR (l[(i : Int).toNat]'(by omega))) _ (Nat.le_trans (areasR_len _) (by omega)) _ hp)) ?_
            rintro _ _ ⟨rfl, hH⟩
            obtain rfl := hH.symm
            refine AList.p rfl (pure_move (.tmp _ _ rfl)) ?_
            refine AList.p rfl (pure_move (.tmp _ _ rfl)) ?_
            refine AList.p rfl (pure_move (.tmp _ _ rfl)) ?_
            refine AList.s rfl (step_call0 Try.call32 (.cons (.tmp _ _ rfl) (.cons (.tmp _ _ rfl) (.cons (.tmp _ _ rfl) .nil))) (rSet_calls b15 _ (by have := hok.lenG; omega) (fun n hn => Nat.le_trans (hok.areasG n hn) (by omega)) _ (areasR (l[(i : Int).toNat]'(by omega))) _ (Nat.le_trans (areasR_len _) (by omega)) _ ((Heap.objs_set_ne _ _ hb15m).trans hrb))) ?_
            rintro _ _ ⟨rfl, hH⟩
            obtain rfl := hH.symm
            refine AList.p rfl (pure_neq (.tmp _ _ rfl) (.tmp _ _ rfl)) ?_
            refine AList.nil ?_
            refine Next.go ?_
            -- c5
            refine AWP.cond_false (.tmp _ _ rfl) (by have h := hok.err (by omega) (nodeAt (l[(i : Int).toNat]'(by omega))) (areasR (l[(i : Int).toNat]'(by omega))); exact decide_eq_false (fun hne => hne h)) ?_
            refine AWP.skip ?_
            refine Block.go ?_
            refine Next.go ?_
            -- region 7
            refine AWP.region ?_
            refine AList.p rfl (pure_move (.tmp _ _ rfl)) ?_
            refine AList.p rfl (pure_add (.tmp _ _ rfl) ev_int (by omega)) ?_
            refine AList.p rfl (pure_assign (.tmp _ _ rfl)) ?_
            refine AList.nil ?_
            refine Next.go ?_
            have hle9 := Heap.le_set_new (Heap.le_set_new hle hm0 (.map (ents .i64 (pents (pSet (mM (l.take i)) (nodeAt (l[(i : Int).toNat]'(by omega))) (areasR (l[(i : Int).toNat]'(by omega)))))))) hb150 (GBox (rSet (mG (l.take i)) (nodeAt (l[(i : Int).toNat]'(by omega))) (areasR (l[(i : Int).toNat]'(by omega)))))
            refine Round.mk (J := made_J l tl b m b15 H) ⟨i + 1, by omega, by omega, rfl, by rw [take_succ_get l i (by omega), mM_snoc]; exact (hp.set _).set_ne (fun h => hb15b h.symm) (fun h => hb15m h.symm) _, by rw [take_succ_get l i (by omega), mG_snoc]; exact Heap.objs_set_same _ _ _, hle9, rfl⟩ (sub_c rfl (sub_c rfl (sub_c rfl (sub_c rfl sub_n)))) (Heap.le.refl _) (by omega)
        · have hh62 := hg62; try simp only [decide_eq_false_iff_not, Int.not_lt] at hh62
          refine AList.gn rfl rfl rfl (by first | rfl | assumption) ?_
          refine AList.gn rfl rfl rfl (by first | rfl | assumption) ?_
          refine AList.p rfl (pure_pickF (.tmp _ _ rfl) (by first | rfl | assumption) ev_bool) ?_
          refine AList.nil ?_
          refine Next.go ?_
          -- c3
          refine AWP.cond_false (.tmp _ _ rfl) (by first | rfl | assumption) ?_
          refine AWP.exit ?_
          refine Next.ex ?_
          refine Next.ex ?_
          refine Block.hit ?_
          refine Next.go ?_
          refine AWP.seq ?_
          have hjt : ((l[(i : Int).toNat]'(by omega)).areas.take j).map areaR = areasR (l[(i : Int).toNat]'(by omega)) := by
            unfold areasR
            rcases Nat.lt_or_ge j 8 with h8 | h8
            · rw [List.take_of_length_le (by omega), List.take_of_length_le (by omega)]
            · rw [show j = 8 by omega]
          rw [hjt]
          -- region 21
          refine AWP.region ?_
          refine AList.p rfl (pure_move (.tmp _ _ rfl)) ?_
          refine AList.p rfl (pure_move (.tmp _ _ rfl)) ?_
          refine AList.p rfl (pure_move (.tmp _ _ rfl)) ?_
          refine AList.s rfl (step_call0 Try.call28 (.cons (.tmp _ _ rfl) (.cons (.tmp _ _ rfl) (.cons (.tmp _ _ rfl) .nil))) (pSet_calls b m _ (fun c => Nat.le_trans (hok.areasM c) (by omega)) _ (nodeAt_64 hr) (areasR (l[(i : Int).toNat]'(by omega))) _ (Nat.le_trans (areasR_len _) (by omega)) _ hp)) ?_
          rintro _ _ ⟨rfl, hH⟩
          obtain rfl := hH.symm
          refine AList.p rfl (pure_move (.tmp _ _ rfl)) ?_
          refine AList.p rfl (pure_move (.tmp _ _ rfl)) ?_
          refine AList.p rfl (pure_move (.tmp _ _ rfl)) ?_
          refine AList.s rfl (step_call0 Try.call32 (.cons (.tmp _ _ rfl) (.cons (.tmp _ _ rfl) (.cons (.tmp _ _ rfl) .nil))) (rSet_calls b15 _ (by have := hok.lenG; omega) (fun n hn => Nat.le_trans (hok.areasG n hn) (by omega)) _ (areasR (l[(i : Int).toNat]'(by omega))) _ (Nat.le_trans (areasR_len _) (by omega)) _ ((Heap.objs_set_ne _ _ hb15m).trans hrb))) ?_
          rintro _ _ ⟨rfl, hH⟩
          obtain rfl := hH.symm
          refine AList.p rfl (pure_neq (.tmp _ _ rfl) (.tmp _ _ rfl)) ?_
          refine AList.nil ?_
          refine Next.go ?_
          -- c5
          refine AWP.cond_false (.tmp _ _ rfl) (by have h := hok.err (by omega) (nodeAt (l[(i : Int).toNat]'(by omega))) (areasR (l[(i : Int).toNat]'(by omega))); exact decide_eq_false (fun hne => hne h)) ?_
          refine AWP.skip ?_
          refine Block.go ?_
          refine Next.go ?_
          -- region 7
          refine AWP.region ?_
          refine AList.p rfl (pure_move (.tmp _ _ rfl)) ?_
          refine AList.p rfl (pure_add (.tmp _ _ rfl) ev_int (by omega)) ?_
          refine AList.p rfl (pure_assign (.tmp _ _ rfl)) ?_
          refine AList.nil ?_
          refine Next.go ?_
          have hle9 := Heap.le_set_new (Heap.le_set_new hle hm0 (.map (ents .i64 (pents (pSet (mM (l.take i)) (nodeAt (l[(i : Int).toNat]'(by omega))) (areasR (l[(i : Int).toNat]'(by omega)))))))) hb150 (GBox (rSet (mG (l.take i)) (nodeAt (l[(i : Int).toNat]'(by omega))) (areasR (l[(i : Int).toNat]'(by omega)))))
          refine Round.mk (J := made_J l tl b m b15 H) ⟨i + 1, by omega, by omega, rfl, by rw [take_succ_get l i (by omega), mM_snoc]; exact (hp.set _).set_ne (fun h => hb15b h.symm) (fun h => hb15m h.symm) _, by rw [take_succ_get l i (by omega), mG_snoc]; exact Heap.objs_set_same _ _ _, hle9, rfl⟩ (sub_c rfl (sub_c rfl (sub_c rfl (sub_c rfl sub_n)))) (Heap.le.refl _) (by omega)
    · try simp only [decide_eq_false_iff_not, Int.not_lt] at hc25
      refine AWP.exit ?_
      refine Next.ex ?_
      refine Next.ex ?_
      refine Block.hit ?_
      refine Next.go ?_
      refine AWP.seq ?_
      -- region 23
      refine AWP.region ?_
      refine AList.p rfl (pure_move (.tmp _ _ rfl)) ?_
      refine AList.p rfl (pure_move (.tmp _ _ rfl)) ?_
      refine AList.p rfl (pure_assign (.tmp _ _ rfl)) ?_
      refine AList.p rfl (pure_assign (.tmp _ _ rfl)) ?_
      refine AList.p rfl (pure_assign ev_bool) ?_
      refine AList.nil ?_
      refine Next.go ?_
      refine AWP.ret ?_
      -- ret 0
      refine Ret.go (.cons (.tmp _ _ rfl) (.cons (.tmp _ _ rfl) (.cons (.tmp _ _ rfl) .nil))) _ (Heap.le.refl _) ?_
      have hi' : l.take i = l.take 40 := by
        rcases Nat.lt_or_ge i 40 with h | h
        · rw [List.take_of_length_le (by omega), List.take_of_length_le (by omega)]
        · rw [show i = 40 by omega]
      rw [hi'] at hp hrb
      exact ⟨b, m, b15, rfl, hle, hb0, hm0, hb150, hb15m, hb15b, hp, hrb⟩
  · have hh22 := hg22; try simp only [decide_eq_false_iff_not, Int.not_lt] at hh22
    refine AList.gn rfl rfl rfl (by first | rfl | assumption) ?_
    refine AList.gn rfl rfl rfl (by first | rfl | assumption) ?_
    refine AList.p rfl (pure_pickF (.tmp _ _ rfl) (by first | rfl | assumption) ev_bool) ?_
    refine AList.nil ?_
    refine Next.go ?_
    -- c1
    refine AWP.cond_false (.tmp _ _ rfl) (by first | rfl | assumption) ?_
    refine AWP.exit ?_
    refine Next.ex ?_
    refine Next.ex ?_
    refine Block.hit ?_
    refine Next.go ?_
    refine AWP.seq ?_
    -- region 23
    refine AWP.region ?_
    refine AList.p rfl (pure_move (.tmp _ _ rfl)) ?_
    refine AList.p rfl (pure_move (.tmp _ _ rfl)) ?_
    refine AList.p rfl (pure_assign (.tmp _ _ rfl)) ?_
    refine AList.p rfl (pure_assign (.tmp _ _ rfl)) ?_
    refine AList.p rfl (pure_assign ev_bool) ?_
    refine AList.nil ?_
    refine Next.go ?_
    refine AWP.ret ?_
    -- ret 1
    refine Ret.go (.cons (.tmp _ _ rfl) (.cons (.tmp _ _ rfl) (.cons (.tmp _ _ rfl) .nil))) _ (Heap.le.refl _) ?_
    have hi' : l.take i = l.take 40 := by
      rcases Nat.lt_or_ge i 40 with h | h
      · rw [List.take_of_length_le (by omega), List.take_of_length_le (by omega)]
      · rw [show i = 40 by omega]
    rw [hi'] at hp hrb
    exact ⟨b, m, b15, rfl, hle, hb0, hm0, hb150, hb15m, hb15b, hp, hrb⟩

end Go.Proofs.Ytdibiongjkmlpaa
