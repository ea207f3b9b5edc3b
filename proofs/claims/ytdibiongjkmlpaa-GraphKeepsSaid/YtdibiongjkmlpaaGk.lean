/-
  The library's functions on rows of numbers, as contracts of the frame: slices.Sorted over a map's keys; Clone, Sort, Compact, Delete on a row that is written.
-/
import Derived.Test.YtdibiongjkmlpaaSm
import Derived.Test.YtdibiongjkmlpaaLp
import Derived.Test.YtdibiongjkmlpaaGb
namespace Go.Proofs.Ytdibiongjkmlpaa
open Go Go.RowKit Go.Maps Go.Sort Go.Shelf

theorem sortsA (m : Nat) : AnyZI.SortsIn Try.prog Try.sortedA_ren Fence.wide m :=
  ⟨fun blk off cap ss W hH hblk hsz => callsIn_wide.2 (AnyM.slices_Sort_int Try.sortA blk off cap ss W hH hblk hsz),
   fun p cap W => callsIn_wide.2 (AnyM.slices_Sort_int_none Try.sortA p cap W)⟩

theorem insert_perm {H : Type} (x : Lit × DataW H) : ∀ l : List (Lit × DataW H), (DataW.insert x l).Perm (x :: l)
  | [] => .refl _
  | y :: r => by
    unfold DataW.insert
    split
    · exact .refl _
    · exact ((insert_perm x r).cons y).trans (.swap x y r)
theorem foldr_insert_perm {H : Type} : ∀ l : List (Lit × DataW H), (l.foldr DataW.insert []).Perm l
  | [] => .refl _
  | x :: r => (insert_perm x _).trans ((foldr_insert_perm r).cons x)

theorem rg_of {H : Type} {P : Program} {k : TypeId} {R : Value → Option (DataW H × List MemPlace)} {x : MapEntry} {y : Lit × DataW H} (h : Go.WideElems.rd P k R x = some y) : Go.WideElems.rg P k R x = y := by
  unfold Go.WideElems.rg; rw [h]; rfl
/-- How a value of a map reads, where nobody asks. -/
def noR : Value → Option (DataW Unit × List MemPlace) := fun _ => some (.nil, [])
theorem keyOf3 {c : Int} (hc : -9223372036854775808 ≤ c ∧ c ≤ 9223372036854775807) : keyOf Try.prog 3 (.int .i64 c) = some (.int .i64 c) := by
  have hw : (Lit.int .i64 c).wf = true := by
    simp [Lit.wf, IntKind.min, IntKind.max, IntKind.bits, IntKind.signed]; omega
  unfold keyOf
  simp only [Try.underlying3]
  unfold mapKey
  simp only [Try.underlying3]
  simp [hw]
theorem owns_of {g : G} {H : Heap} {w : World} (s : Sat g H w) {m : Nat} {M : List (Int × AV)} (hm : H.objs m = some (.map (ents .i64 M))) (hl : M.length ≤ 200000) (h64 : I64s (M.map (·.1))) :
    ∃ D : DataW Unit, w.ownsMap Try.prog 3 noR m M.length D ∧ Maps.size D = M.length ∧ (intKeys D).Perm (M.map (·.1)) := by
  obtain ⟨es, clock, hw, hr, hst⟩ := s.entries hm
  have hkey : ∀ x ∈ es.toList, ∃ c, x.key = .int .i64 c ∧ (-9223372036854775808 ≤ c ∧ c ≤ 9223372036854775807) := by
    intro x hx
    have : ∀ {M : List (Int × AV)} {l : List MapEntry}, RelM g .i64 M l → I64s (M.map (·.1)) → ∀ x ∈ l, ∃ c, x.key = .int .i64 c ∧ (-9223372036854775808 ≤ c ∧ c ≤ 9223372036854775807) := by
      intro M l h
      induction h with
      | nil => intro _ x hx; simp at hx
      | @cons d x M e l hk hv hr ih =>
        intro h64 x hx
        rcases List.mem_cons.1 hx with rfl | hx
        · exact ⟨d, hk, h64 d (by simp)⟩
        · exact ih (fun y hy => h64 y (by simp only [List.map_cons, List.mem_cons]; exact .inr hy)) x hx
    exact this hr h64 x hx
  have hlen := hr.length
  rw [Array.length_toList] at hlen
  have hrd : ∀ x ∈ es.toList, ∃ c, x.key = .int .i64 c ∧ Go.WideElems.rd Try.prog 3 noR x = some (.int .i64 c, .nil) := by
    intro x hx
    obtain ⟨c, hk, hc⟩ := hkey x hx
    refine ⟨c, hk, ?_⟩
    unfold Go.WideElems.rd
    rw [hk, keyOf3 hc]; rfl
  refine ⟨.map ((es.toList.map (Go.WideElems.rg Try.prog 3 noR)).foldr DataW.insert []), ⟨es, clock, hw, ⟨by unfold maxLen; omega, hst, fun x hx => ?_⟩, by omega, rfl⟩, ?_, ?_⟩
  · obtain ⟨c, _, h⟩ := hrd x hx; exact ⟨_, h⟩
  · show (List.foldr DataW.insert [] _).length = _
    rw [(foldr_insert_perm _).length_eq]; simp; omega
  · show ((List.foldr DataW.insert [] (es.toList.map (Go.WideElems.rg Try.prog 3 noR))).map fun (p : Lit × DataW Unit) => Go.intOf p.1).Perm _
    refine ((foldr_insert_perm _).map _).trans ?_
    rw [List.map_map]
    have : ∀ {M : List (Int × AV)} {l : List MapEntry}, RelM g .i64 M l → (∀ x ∈ l, ∃ c, x.key = .int .i64 c ∧ Go.WideElems.rd Try.prog 3 noR x = some (.int .i64 c, .nil)) →
        l.map ((fun (p : Lit × DataW Unit) => Go.intOf p.1) ∘ Go.WideElems.rg Try.prog 3 noR) = M.map (·.1) := by
      intro M l h
      induction h with
      | nil => intro _; rfl
      | @cons d x M e l hk hv hr ih =>
        intro hall
        obtain ⟨c, hk', hc⟩ := hall e (by simp)
        rw [hk] at hk'
        cases hk'
        rw [List.map_cons, List.map_cons, ih (fun y hy => hall y (by simp [hy]))]
        have : ((fun (p : Lit × DataW Unit) => Go.intOf p.1) ∘ Go.WideElems.rg Try.prog 3 noR) e = d := by
          have e1 := rg_of hc
          generalize Go.WideElems.rg Try.prog 3 noR = F at e1 ⊢
          show Go.intOf (F e).1 = d
          rw [e1]; rfl
        rw [this]
    exact .of_eq (this hr hrd)

set_option maxHeartbeats 1000000 in
theorem sorted_ok (f T m q : Nat) (M : List (Int × AV)) (H : Heap) (hf : f = 58 ∨ f = 64) (hl : M.length ≤ 200000) (_hnd : (M.map (·.1)).Nodup) (h64 : I64s (M.map (·.1))) (hq : H.objs q = some (.box T [.map (some m)])) (hm : H.objs m = some (.map (ents .i64 M))) :
    ACall Try.prog 34 [.func f [.ptr (some ⟨q, 0, none⟩)]] H fun x H' => x = .slice 1 (((M.map (·.1)).mergeSort fun x y => decide (x ≤ y)).map (.int .i64)) .shared ∧ H' = H := by
  intro g vs w hvs s
  obtain ⟨hlen, hrel⟩ := hvs
  match vs, hlen with
  | [v], _ =>
    have hv := hrel 0 _ v rfl rfl
    cases hv with
    | func f cs us hn hr =>
      match us, hn with
      | ⟨[u]⟩, _ =>
        have hu := hr 0 _ u rfl rfl
        cases hu
        obtain ⟨D, hown, hsz, hperm⟩ := owns_of s hm hl h64
        obtain ⟨c, hc, hrc⟩ := s.box_cell hq (o := 0) (c := .map (some m)) rfl
        cases hrc
        have hqlt := s.obj_lt hq
        have key : ∀ e34, CallsIn Fence.wide 5 Try.prog 34 #[.func (.func f) #[] #[.pointer (some ⟨q, 0, none⟩)]] w e34 → Calls Try.prog 34 #[.func (.func f) #[] #[.pointer (some ⟨q, 0, none⟩)]] w e34 := fun _ h => callsIn_wide.1 h
        have fin : CallsIn Fence.wide 5 Try.prog 34 #[.func (.func f) #[] #[.pointer (some ⟨q, 0, none⟩)]] w fun e w' => ∃ (v : Value) (ss : List Int), e = .returned v ∧ ss.Perm (intKeys D) ∧
            w'.ownsRow w.heap.size 3 1 v ss.length ((ss.mergeSort (fun x y => decide (x ≤ y))).map encZ) ∧ (v = .slice none 0 0 ↔ ss = []) ∧ Below w.heap.size w w' := by
          rcases hf with rfl | rfl
          · have hseq : SeqGives Fence.wide 2 Try.prog 58 #[.pointer (some ⟨q, 0, none⟩)] encZ (fun ss => ss.Perm (intKeys D)) (Maps.size D) w :=
              AnyZI.keys_gives (ρ := Try.keysI_ren) { Try.keysI with } Fence.wide _ trivial rfl (by omega) q m M.length D w hqlt hc hown
            exact AnyZI.sorted_in Try.sortedA Fence.wide 5 trivial trivial trivial trivial rfl (by omega) (sortsA _) (enters_of Try.func57 (by kernel_rfl) rfl) 58 #[.pointer (some ⟨q, 0, none⟩)] trivial (enters_of Try.func58 (by kernel_rfl) rfl) _ _ (by rw [hsz]; unfold maxLen; omega) (by rw [hsz]; omega) _ hseq
          · have hseq : SeqGives Fence.wide 2 Try.prog 64 #[.pointer (some ⟨q, 0, none⟩)] encZ (fun ss => ss.Perm (intKeys D)) (Maps.size D) w :=
              AnyZI.keys_gives (ρ := Try.keysP_ren) { Try.keysP with } Fence.wide _ trivial rfl (by omega) q m M.length D w hqlt hc hown
            exact AnyZI.sorted_in Try.sortedA Fence.wide 5 trivial trivial trivial trivial rfl (by omega) (sortsA _) (enters_of Try.func57 (by kernel_rfl) rfl) 64 #[.pointer (some ⟨q, 0, none⟩)] trivial (enters_of Try.func64 (by kernel_rfl) rfl) _ _ (by rw [hsz]; unfold maxLen; omega) (by rw [hsz]; omega) _ hseq
        refine (key _ fin).mono ?_
        rintro e w' ⟨v, ss, rfl, hp, hrow, _, hb⟩
        obtain ⟨g', hle, hrv, s'⟩ := s.ownedRow hb hrow
        refine ⟨v, rfl, g', _, H, hle, hrv, s', ?_, rfl⟩
        have := mergeSort_of_perm_i (hp.trans hperm)
        rw [show (M.map (·.1)).mergeSort (fun x y => decide (x ≤ y)) = ss.mergeSort (fun x y => decide (x ≤ y)) from this.symm]

/-- slices.Clone: a row of its own. -/
theorem CloneM_calls (l : List Int) (tl : Tail) (H : Heap) (hlen : l.length ≤ 1000000) :
    ACall Try.prog 33 [.slice 1 (l.map (.int .i64)) tl] H fun x H' => ∃ a c, x = .mslice a l.length c ∧ H.le H' ∧ MRow (fun b => H.objs b = none) H' a l c := by
  intro g vs w hvs s
  obtain ⟨hl1, hrel⟩ := hvs
  match vs, hl1 with
  | [v], _ =>
    have hv := hrel 0 _ v rfl rfl
    generalize hL : l.map (AV.int .i64) = L at hv
    cases hv with
    | nilSlice =>
      have hl0 : l = [] := by simpa using hL
      subst hl0
      refine (Any.slices_Clone_int_nil Try.cloneA 0 0 w).mono ?_
      rintro e w' ⟨rfl, rfl⟩
      exact ⟨_, rfl, g, _, H, .id, .mslice _ _ _, s, none, 0, rfl, Heap.le.refl _, Nat.le_refl _, Nat.zero_le _, .inl ⟨rfl, rfl⟩, .inl rfl⟩
    | voidSlice sz a0 =>
      have hl0 : l = [] := by simpa using hL
      subst hl0
      refine (Any.slices_Clone_int_zero Try.cloneA a0 0 w).mono ?_
      rintro e w' ⟨v', rfl, hrow, _, hb⟩
      obtain ⟨a, c, H', h1, h2, h3, h4⟩ := s.ownedRowM (xs := []) hb hrow
      exact ⟨v', rfl, g, _, H', .id, h1, h2, a, c, rfl, h3, h4⟩
    | slice sz xs tl b off cap vs hsz himm hr hlen2 hcap htl =>
      subst hL
      have hcells : ∀ j, j < l.length → w.cell? ⟨b, off + j, none⟩ = some (.int .i64 (l.getD j 0)) := fun j hj => by
        have h1 := s.imm b (off + j) (vs j) (himm j (by simpa using hj))
        have h2 := hr j 0 (.int .i64 l[j]) (.int .i64 l[j]) (by simp [hj]) rfl
        rw [Nat.mul_one, Nat.add_zero] at h2
        generalize hvj : vs j = u at h1 h2
        cases h2
        rw [h1]; simp [hj]
      have fin : ∀ e w', (∃ v', e = Ending.returned v' ∧ w'.ownsRow w.heap.size 3 1 v' l.length (l.map (Value.int .i64)) ∧ Below w.heap.size w w') → ∃ v, e = .returned v ∧ ∃ g' x H', g.le g' ∧ RelV g' x v ∧ Sat g' H' w' ∧ ∃ a c, x = .mslice a l.length c ∧ H.le H' ∧ MRow (fun b => H.objs b = none) H' a l c := by
        rintro e w' ⟨v', rfl, hrow, hb⟩
        obtain ⟨a, c, H', h1, h2, h3, h4⟩ := s.ownedRowM hb hrow
        exact ⟨v', rfl, g, _, H', .id, h1, h2, a, c, rfl, h3, h4⟩
      rw [List.length_map]
      by_cases hl0 : l = []
      · subst hl0
        refine (Any.slices_Clone_int_zero Try.cloneA ⟨b, off, none⟩ cap w).mono ?_
        rintro e w' ⟨v', rfl, hrow, _, hb⟩
        exact fin _ _ ⟨v', rfl, hrow, hb⟩
      · refine (Any.slices_Clone_int Try.cloneA b off l.length cap l w (Nat.le_refl _) (by omega) hcells).mono ?_
        rintro e w' ⟨v', rfl, hrow, _, hb⟩
        rw [List.take_length] at hrow
        exact fin _ _ ⟨v', rfl, hrow, hb⟩

/-- The row behind a contract's own words. -/
theorem mrow_put {N : Nat → Prop} {H : Heap} {b : Nat} {T : TypeId} {cs : List AV} {c : Nat} (zs ts : List Int) (hN : N b) (hc : zs.length ≤ c) (hmax : c ≤ maxLen) :
    MRow N (H.set b (.box T ((zs ++ ts).map (.int .i64) ++ cs.drop (zs ++ ts).length))) (some ⟨b, 0, none⟩) zs c := by
  refine ⟨hc, hmax, .inr ⟨b, rfl⟩, Or.inr ⟨b, T, _, rfl, hN, Heap.objs_set_same _ _ _, ?_⟩⟩
  rw [List.map_append, List.append_assoc, List.take_left' (by simp)]
theorem relvs1 {g : G} {x : AV} {vs : List Value} (h : RelVs g [x] vs) : ∃ v, vs = [v] ∧ RelV g x v := by
  obtain ⟨h1, h2⟩ := h
  match vs, h1 with
  | [v], _ => exact ⟨v, rfl, h2 0 x v rfl rfl⟩

/-- slices.Sort on a row of its own. -/
theorem SortM_calls (N : Nat → Prop) (l : List Int) (a : Option Addr) (c : Nat) (H : Heap) (hm : MRow N H a l c) (hlen : l.length ≤ 1000000) :
    ACall Try.prog 57 [.mslice a l.length c] H fun x H' => x = .tuple [] ∧ MRow N H' a (l.mergeSort fun x y => decide (x ≤ y)) c ∧ MSame N a H H' := by
  intro g vs w hvs s
  obtain ⟨v, rfl, hv⟩ := relvs1 hvs
  cases hv
  have ht : ∀ g : G, RelV g (.tuple []) (.tuple #[]) := fun g => .tuple _ _ rfl (fun i c v hc _ => by simp at hc)
  rcases hm.at_ with rfl | ⟨b, T, cs, rfl, hN, hb, hcs⟩
  · refine (AnyM.slices_Sort_int_none Try.sortA a c w).mono ?_
    rintro e w' ⟨rfl, rfl⟩
    exact ⟨_, rfl, g, _, H, .id, ht g, s, rfl, by simpa using hm, .inl rfl⟩
  · refine (AnyM.slices_Sort_int Try.sortA b 0 c l w (s.holds hb hcs) (s.obj_lt hb) (by omega)).mono ?_
    rintro e w' ⟨rfl, q, os, rfl⟩
    have hl : (l.mergeSort fun x y => decide (x ≤ y)).length = l.length := List.length_mergeSort _
    refine ⟨_, rfl, g, _, _, .id, ht g, (s.putRow hb _ (by rw [hl]; exact mrow_len hcs) q).grown os, rfl, ?_, .inr ⟨b, T, _, rfl, hN, rfl⟩⟩
    have := mrow_put (H := H) (b := b) (T := T) (cs := cs) (c := c) (l.mergeSort fun x y => decide (x ≤ y)) [] hN (by rw [hl]; exact hm.cap) hm.max
    simpa using this

theorem compact_len (l : List Int) : (Lib.compact l).length ≤ l.length := by
  unfold Lib.compact Lib.compactUpTo
  rw [List.length_map]
  exact Nat.le_trans (List.length_filter_le _ _) (by simp)
/-- slices.Compact on a row of its own. -/
theorem CompactM_calls (N : Nat → Prop) (l : List Int) (a : Option Addr) (c : Nat) (H : Heap) (hm : MRow N H a l c) (hlen : l.length ≤ 1000000) :
    ACall Try.prog 61 [.mslice a l.length c] H fun x H' => x = .mslice a (Lib.compact l).length c ∧ MRow N H' a (Lib.compact l) c ∧ MSame N a H H' := by
  intro g vs w hvs s
  obtain ⟨v, rfl, hv⟩ := relvs1 hvs
  cases hv
  rcases hm.at_ with rfl | ⟨b, T, cs, rfl, hN, hb, hcs⟩
  · refine (Any.slices_Compact_int_empty Try.compactA a c w).mono ?_
    rintro e w' ⟨rfl, rfl⟩
    exact ⟨_, rfl, g, _, H, .id, .mslice _ _ _, s, rfl, hm, .inl rfl⟩
  · refine (Any.slices_Compact_int Try.compactA b 0 c l w (s.holds hb hcs) (by omega) hm.cap).mono ?_
    rintro e w' ⟨rfl, q, rfl⟩
    have hcl := compact_len l
    have hl : (Lib.compact l ++ List.replicate (l.length - (Lib.compact l).length) 0).length = l.length := by simp; omega
    refine ⟨_, rfl, g, _, _, .id, .mslice _ _ _, s.putRow hb _ (by rw [hl]; exact mrow_len hcs) q, rfl, mrow_put _ _ hN (Nat.le_trans hcl hm.cap) hm.max, .inr ⟨b, T, _, rfl, hN, rfl⟩⟩

/-- slices.Delete of one element of a row of its own. -/
theorem DeleteM_calls (N : Nat → Prop) (l : List Int) (i : Nat) (hi : i < l.length) (a : Option Addr) (c : Nat) (H : Heap) (hm : MRow N H a l c) (j : Int) (hj : j = (i : Int) + 1) :
    ACall Try.prog 43 [.mslice a l.length c, .int .i64 i, .int .i64 j] H fun x H' => x = .mslice a (l.eraseIdx i).length c ∧ MRow N H' a (l.eraseIdx i) c ∧ MSame N a H H' := by
  intro g vs w hvs s
  obtain ⟨h1, h2⟩ := hvs
  match vs, h1 with
  | [v1, v2, v3], _ =>
    have hv1 := h2 0 _ v1 rfl rfl
    have hv2 := h2 1 _ v2 rfl rfl
    have hv3 := h2 2 _ v3 rfl rfl
    cases hv1; cases hv2; cases hv3
    subst hj
    rcases hm.at_ with rfl | ⟨b, T, cs, rfl, hN, hb, hcs⟩
    · simp at hi
    · have hmax := hm.max
      unfold maxLen at hmax
      refine (Any.slices_Delete_int Try.deleteA b 0 c i (i + 1) l w (s.holds hb hcs) hm.cap (by omega) (by omega) (by omega)).mono ?_
      rintro e w' ⟨rfl, q, rfl⟩
      have he : l.take i ++ l.drop (i + 1) = l.eraseIdx i := (List.eraseIdx_eq_take_drop_succ l i).symm
      have hel : (l.eraseIdx i).length = l.length - (i + 1 - i) := by rw [List.length_eraseIdx]; simp [hi]
      have hl : (l.take i ++ l.drop (i + 1) ++ List.replicate (i + 1 - i) 0).length = l.length := by
        rw [he, List.length_append, hel]; simp; omega
      refine ⟨_, rfl, g, _, _, .id, by rw [hel]; exact .mslice _ _ _, s.putRow hb _ (by rw [hl]; exact mrow_len hcs) q, rfl, ?_, .inr ⟨b, T, _, rfl, hN, rfl⟩⟩
      rw [he]
      exact mrow_put _ _ hN (by have := hm.cap; omega) hm.max
end Go.Proofs.Ytdibiongjkmlpaa
