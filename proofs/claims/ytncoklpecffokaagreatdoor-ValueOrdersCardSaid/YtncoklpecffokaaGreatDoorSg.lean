/-
  The frame, part 7: pieces of slices, append.
-/
import Derived.Test.YtncoklpecffokaaGreatDoorSf
namespace Go.Proofs.YtncoklpecffokaaGreatDoor
open Go Go.RowKit

section
variable {P : Program} {env : Env} {H : Heap} {dst : Option Tmp} {ty : TypeId} {pos : String} {af : Array Edge} {gd : Option (Nat × Bool)}

inductive OptEv (env : Env) : Option Operand → Option Nat → Prop
  | no : OptEv env none none
  | yes (o k m) (h : Ev env o (.int k m)) (h0 : 0 ≤ m) : OptEv env (some o) (some m.toNat)
def OptIs (r : Option Nat) (o : Option Value) : Prop := match r with | none => o = none | some m => ∃ k, o = some (.int k (m : Int))
theorem OptEv.spec {o : Option Operand} {r : Option Nat} (h : OptEv env o r) {g : G} {n : Nat} {a : Act} (ka : RelAct g n env a) : OptIs r (o.map a.eval) := by
  cases h with
  | no => rfl
  | yes o k m h h0 =>
    obtain ⟨v, he, hv⟩ := ev1 h ka
    cases hv
    exact ⟨k, by simp [he]; omega⟩
theorem run_bounds {len cap : Nat} {lo hi : Option Value} {l h : Option Nat} (hlo : OptIs l lo) (hhi : OptIs h hi)
    (h1 : l.getD 0 ≤ h.getD len) (h2 : h.getD len ≤ cap) (w : World) : (Instr.sliceBounds true len cap lo hi none).run P w = .ok (l.getD 0, h.getD len, cap) w := by
  cases h with
  | none =>
    simp only [OptIs] at hhi; subst hhi
    cases l with
    | none => simp only [OptIs] at hlo; subst hlo; simp [Instr.sliceBounds]
    | some l =>
      obtain ⟨k, rfl⟩ := hlo
      simp only [Option.getD_some, Option.getD_none] at h1
      simp [Instr.sliceBounds, Instr.sliceBound, asIntOf, h1]
  | some h =>
    obtain ⟨k, rfl⟩ := hhi
    simp only [Option.getD_some] at h2
    cases l with
    | none => simp only [OptIs] at hlo; subst hlo; simp [Instr.sliceBounds, Instr.sliceBound, asIntOf, h2]
    | some l =>
      obtain ⟨k', rfl⟩ := hlo
      simp only [Option.getD_some] at h1
      simp [Instr.sliceBounds, Instr.sliceBound, asIntOf, h1, h2]
def pieceTail : Option Nat → Tail → Tail
  | none, tl => tl
  | some _, _ => .shared
/-- A piece of a slice: x[l:h]. -/
theorem pure_slice {T E : TypeId} {x : Operand} {lo hi : Option Operand} {l h : Option Nat} {sz : Nat} {xs : List AV} {tl : Tail} (hu : P.underlying T = some (.slice E)) (hs : ∀ w, (sizeOf E).run P w = .ok sz w)
    (hx : Ev env x (.slice sz xs tl)) (hlo : OptEv env lo l) (hhi : OptEv env hi h) (h1 : l.getD 0 ≤ h.getD xs.length) (h2 : h.getD xs.length ≤ xs.length) :
    APure P ⟨dst, .slice T x lo hi none, ty, pos, af, gd⟩ env (.slice sz ((xs.take (h.getD xs.length)).drop (l.getD 0)) (pieceTail h tl)) := by
  intro g n a ka
  obtain ⟨v, he, hv⟩ := ev1 hx ka
  have slo := hlo.spec ka
  have shi := hhi.spec ka
  cases hv with
  | nilSlice =>
    simp only [List.length_nil] at h1 h2
    have e1 : h.getD 0 = 0 := by omega
    have e2 : l.getD 0 = 0 := by omega
    have hb := run_bounds (P := P) (len := 0) (cap := 0) slo shi h1 h2
    refine ⟨.slice none 0 0, by simp only [List.take_nil, List.drop_nil]; exact .nilSlice _ _, fun w _ => ?_⟩
    simp [execOp, he, Instr.sliceAt, Instr.slice, underlying, hu, hs, hb w, e1, e2]
  | voidSlice _ a0 =>
    simp only [List.length_nil] at h1 h2
    have e1 : h.getD 0 = 0 := by omega
    have e2 : l.getD 0 = 0 := by omega
    have hb := run_bounds (P := P) (len := 0) (cap := 0) slo shi h1 h2
    refine ⟨.slice (some a0) 0 0, by simp only [List.take_nil, List.drop_nil]; cases h <;> exact .voidSlice _ _, fun w _ => ?_⟩
    simp [execOp, he, Instr.sliceAt, Instr.slice, underlying, hu, hs, hb w, e1, e2]
  | slice sz xs tl b off cap vs hsz himm hr hlen hcap htl =>
    have hb := run_bounds (P := P) (len := xs.length) (cap := cap) slo shi h1 (by omega)
    generalize hL : l.getD 0 = L at *
    generalize hH : h.getD xs.length = B at *
    have hlen' : ((xs.take B).drop L).length = B - L := by simp; omega
    have hmul : ∀ i, i < (B - L) * sz → L * sz + i < xs.length * sz := fun i hi => by
      have h3 : L * sz + (B - L) * sz = B * sz := by rw [← Nat.add_mul]; congr 1; omega
      have h4 := Nat.mul_le_mul_right sz h2
      omega
    have hrow : ∀ x, x ∈ (xs.take B).drop L → x.row sz := fun x hx => hsz x (List.mem_of_mem_take (List.mem_of_mem_drop hx))
    have hrel : ∀ (i j : Nat) x c, ((xs.take B).drop L)[i]? = some x → x.cells[j]? = some c → RelV g c (vs (L * sz + (i * sz + j))) := fun i j x c hx hc => by
      rw [List.getElem?_drop, List.getElem?_take] at hx
      split at hx
      · have := hr (L + i) j x c hx hc
        rwa [Nat.add_mul, Nat.add_assoc] at this
      · cases hx
    by_cases hm : cap = L
    · have hBL : B - L = 0 := by omega
      have hnil : (xs.take B).drop L = [] := List.eq_nil_of_length_eq_zero (by omega)
      refine ⟨.slice (some ⟨b, off, none⟩) (B - L) (cap - L), ?_, fun w _ => by have hbw := hb w; rw [hm] at hbw; simp [execOp, he, Instr.sliceAt, Instr.slice, underlying, hu, hs, hbw, hm]⟩
      rw [hnil, hBL]
      have := RelV.slice (g := g) sz [] (pieceTail h tl) b off (cap - L) vs (fun x hx => by simp at hx) (fun i hi => by simp at hi) (fun i j x c hx _ => by simp at hx) (Nat.zero_le _) (by omega) (by
        have e0 : (cap - L - ([] : List AV).length) * sz = 0 := by rw [show cap - L - ([] : List AV).length = 0 by simp; omega, Nat.zero_mul]
        rw [e0]
        cases h with
        | none => cases tl with
          | shared => trivial
          | full => rfl
          | own t => exact ⟨htl.1, .inl rfl⟩
        | some _ => trivial)
      simpa using this
    · refine ⟨.slice (some ⟨b, off + L * sz, none⟩) (B - L) (cap - L), ?_, fun w _ => by simp [execOp, he, Instr.sliceAt, Instr.slice, underlying, hu, hs, hb w, hm, Addr.add_off]⟩
      have := RelV.slice (g := g) sz ((xs.take B).drop L) (pieceTail h tl) b (off + L * sz) (cap - L) (fun i => vs (L * sz + i)) hrow (fun i hi => by
          rw [hlen'] at hi; rw [Nat.add_assoc]; exact himm _ (hmul i hi)) hrel (by omega) (by omega) (by
        cases h with
        | none =>
          simp only [Option.getD_none] at hH
          rw [hlen', ← hH, show off + L * sz + (xs.length - L) * sz = off + xs.length * sz by rw [Nat.add_assoc, ← Nat.add_mul]; congr 2; omega, show cap - L - (xs.length - L) = cap - xs.length by omega]
          exact htl
        | some _ => trivial)
      rwa [hlen'] at this

/-! ### append -/
/-- The cells of a slice that never turns, taken out. -/
theorem first_cells {g : G} {sz : Nat} {ys : List AV} {tl : Tail} {v : Value} (h : RelV g (.slice sz ys tl) v) (hrow : ∀ y, y ∈ ys → y.row sz) : ∃ us : Array Value, RelCells g (ys.flatMap AV.cells) us ∧ Builtin.lenOf v = (pure ys.length : Sem Nat) ∧
    ∀ w, (∀ b k u, g.imm b k = some u → w.cell? ⟨b, k, none⟩ = some u) → (Builtin.firstCells sz ys.length v).run P w = .ok us w := by
  cases h with
  | nilSlice => exact ⟨#[], RelCells.nil g, rfl, fun w _ => rfl⟩
  | voidSlice => exact ⟨#[], RelCells.nil g, rfl, fun w _ => by show (loadCells _ (([] : List AV).length * sz)).run P w = _; rw [List.length_nil, Nat.zero_mul]; rfl⟩
  | slice sz ys tl b off cap vs hsz himm hr hlen hcap htl =>
    have hl := flat_length (fun x hx => (hsz x hx).1)
    obtain ⟨h1, h2⟩ := imm_load (P := P) (g := g) (b := b) (off := off) (k := ys.length * sz) (cs := ys.flatMap AV.cells) (vs := vs) (fun i hi => himm i (by omega)) (fun i c hc => by
      have hi : i < ys.length * sz := by rw [← hl]; exact (List.getElem?_eq_some_iff.1 hc).1
      have hsz0 : 0 < sz := by
        rcases Nat.eq_zero_or_pos sz with e | e
        · subst e; simp at hi
        · exact e
      have hq : i / sz < ys.length := Nat.div_lt_of_lt_mul (by rw [Nat.mul_comm]; exact hi)
      have hx : ys[i / sz]? = some ys[i / sz] := List.getElem?_eq_getElem hq
      have hxr := (hsz _ (List.getElem_mem hq)).1
      have hc2 : ys[i / sz].cells[i % sz]? = some (ys[i / sz].cells[i % sz]'(by rw [hxr]; exact Nat.mod_lt _ hsz0)) := List.getElem?_eq_getElem _
      have := flat_get (fun x hx => (hsz x hx).1) hx hc2
      rw [Nat.mul_comm, Nat.div_add_mod] at this
      rw [this] at hc
      cases hc
      have := hr _ _ _ _ hx hc2
      rwa [Nat.mul_comm, Nat.div_add_mod] at this) (by omega)
    rw [← hl, List.take_length] at h1
    rw [← hl] at h2
    refine ⟨_, h1, rfl, fun w hw => ?_⟩
    show (loadCells ⟨b, off, none⟩ (ys.length * sz)).run P w = _
    rw [← hl]; exact h2 w hw
theorem RelCells.oneCells {g : G} {cs : List AV} {us : Array Value} (h : RelCells g cs us) (h1 : cs.all AV.one = true) : ∀ v ∈ us.toList, v.oneCell' = true := fun v hv => by
  obtain ⟨i, hi, hiv⟩ := List.getElem_of_mem hv
  have hi' : i < cs.length := by rw [h.1]; simpa using hi
  have h2 : us[i]? = some v := by rw [← Array.getElem?_toList, List.getElem?_eq_getElem hi, hiv]
  exact (h.2 i _ v (List.getElem?_eq_getElem hi') h2).oneCell (List.all_eq_true.1 h1 _ (List.getElem_mem hi'))
theorem flat_one {sz : Nat} {xs : List AV} (h : ∀ x, x ∈ xs → x.row sz) : (xs.flatMap AV.cells).all AV.one = true := by
  rw [List.all_eq_true]
  intro c hc
  obtain ⟨x, hx, hcx⟩ := List.mem_flatMap.1 hc
  exact List.all_eq_true.1 (h x hx).2 c hcx
/-- What may be appended to: it has no room, or room of its own under a name that is alive. -/
inductive Room (H : Heap) : Tail → Heap → Prop
  | full : Room H .full H
  | own (t) (h : H.toks t = true) : Room H (.own t) (H.kill t)
theorem Room.le {tl : Tail} {H' : Heap} (h : Room H tl H') : H'.le H := by
  cases h with
  | full => exact Heap.le.refl H
  | own t _ => exact Heap.kill_le H t
theorem step_append {T T' E E' : TypeId} {x y : Operand} {sz : Nat} {xs ys : List AV} {tl tl' : Tail} {ti : TypeInfo} {z : Value} {H0 : Heap} (hu : P.underlying T = some (.slice E)) (hu' : P.underlying T' = some (.slice E'))
    (hs : ∀ w, (sizeOf E).run P w = .ok sz w) (hti : ∀ w, (typeInfo E).run P w = .ok ti w) (hz : ∀ w, (zeroValue E).run P w = .ok z w) (hzl : z.cells.size = sz) (hb0 : ti.bytes ≠ 0)
    (hx : Ev env x (.slice sz xs tl)) (hy : Ev env y (.slice sz ys tl')) (hroom : Room H tl H0) (hfit : (xs.length + ys.length) * ti.bytes ≤ 140737488355328) (hrx : ∀ x, x ∈ xs → x.row sz) (hry : ∀ y, y ∈ ys → y.row sz) :
    AStep P ⟨dst, .call { callee := .builtin .append, args := #[x, y], argTypes := #[T, T'] }, ty, pos, af, gd⟩ env H (fun r H' => ∃ t, H.toks t = false ∧ r = .slice sz (xs ++ ys) (.own t) ∧ H' = H0.live t) := by
  intro g n a w ka s
  obtain ⟨vx, hex, hvx⟩ := ev1 hx ka
  obtain ⟨vy, hey, hvy⟩ := ev1 hy ka
  obtain ⟨us, hus, hlenY, hfirst⟩ := first_cells (P := P) hvy hry
  obtain ⟨os, hos, hlenX, hfirstX⟩ := first_cells (P := P) hvx hrx
  have hsy := flat_length (fun y hy => (hry y hy).1)
  have hsx := flat_length (fun x hx => (hrx x hx).1)
  have husz : us.size = ys.length * sz := by rw [← hus.1, hsy]
  have hosz : os.size = xs.length * sz := by rw [← hos.1, hsx]
  have hfresh : H.toks g.ntok = false := by
    cases e : H.toks g.ntok with
    | false => rfl
    | true => have := s.tokLt _ e; omega
  have hall : ∀ x, x ∈ xs ++ ys → x.row sz := fun x hx => by
    rcases List.mem_append.1 hx with h | h
    · exact hrx x h
    · exact hry x h
  have hflat : (xs ++ ys).flatMap AV.cells = xs.flatMap AV.cells ++ ys.flatMap AV.cells := List.flatMap_append
  have hzeros : (do pure ((← underlying T') matches .int _) : Sem Bool).run P w = .ok false w := by simp [underlying, hu']
  -- the two ways, by what is there
  have grows : ∀ (c : Nat), (∃ p, vx = .slice p xs.length c) → c < xs.length + ys.length → YieldsTo P (fun v w' => ∃ g' r H', g.le g' ∧ RelV g' r v ∧ Sat g' H' w' ∧ ∃ t, H.toks t = false ∧ r = .slice sz (xs ++ ys) (.own t) ∧ H' = H0.live t)
      ((execOp a.eval ⟨dst, .call { callee := .builtin .append, args := #[x, y], argTypes := #[T, T'] }, ty, pos, af, gd⟩).run P w) := by
    rintro c ⟨p, hvx'⟩ hc
    have hgrow := growslice_fits (bytes := ti.bytes) hc hfit
    let nc := (Question.appendCap (xs.length + ys.length) c E).cut (w.tape w.drawn (.appendCap (xs.length + ys.length) c E))
    have hneed : xs.length + ys.length ≤ 140737488355328 := Nat.le_trans (Nat.le_mul_of_pos_right _ (Nat.pos_of_ne_zero hb0)) hfit
    have hnc : xs.length + ys.length ≤ nc ∧ nc ≤ maxLen := by
      show xs.length + ys.length ≤ xs.length + ys.length + _ % (2 ^ 63 - (xs.length + ys.length)) ∧ _
      refine ⟨Nat.le_add_right _ _, ?_⟩
      show xs.length + ys.length + w.tape w.drawn (.appendCap (xs.length + ys.length) c E) % (2 ^ 63 - (xs.length + ys.length)) ≤ maxLen
      have : w.tape w.drawn (.appendCap (xs.length + ys.length) c E) % (2 ^ 63 - (xs.length + ys.length)) < 2 ^ 63 - (xs.length + ys.length) := Nat.mod_lt _ (by omega)
      unfold maxLen
      omega
    let row : Array Value := os ++ us ++ Builtin.zeroCells z.cells (nc - (xs.length + ys.length))
    have hrow : row.size = nc * sz := by
      show (os ++ us ++ Builtin.zeroCells z.cells (nc - (xs.length + ys.length))).size = nc * sz
      simp only [Array.size_append, Builtin.zeroCells, Array.size_map, Array.size_range, hosz, husz, hzl]
      rw [← Nat.add_mul, ← Nat.add_mul]; congr 1; omega
    have hrun : (execOp a.eval ⟨dst, .call { callee := .builtin .append, args := #[x, y], argTypes := #[T, T'] }, ty, pos, af, gd⟩).run P w = .ok (.value (.slice (some ⟨w.heap.size, 0, none⟩) (xs.length + ys.length) nc)) (w.drew.alloc (.cells row E)) := by
      have i1 : ∀ w', w'.heap = w.heap → (Builtin.firstCells sz xs.length vx).run P w' = .ok os w' := fun w' hw => hfirstX w' fun b k u hu => by
        have := s.imm b k u hu
        unfold World.cell? at this ⊢; rw [hw]; exact this
      have i2 : ∀ w', w'.heap = w.heap → (Builtin.firstCells sz ys.length vy).run P w' = .ok us w' := fun w' hw => hfirst w' fun b k u hu => by
        have := s.imm b k u hu
        unfold World.cell? at this ⊢; rw [hw]; exact this
      have hforced : (Question.appendCap (xs.length + ys.length) c E).forced = false := rfl
      have hnot1 : ¬ (xs.length + ys.length ≤ c) := by omega
      have hnot2 : ¬ (Builtin.nextslicecap (xs.length + ys.length) c * ti.bytes > 2 ^ 48) := by simpa using hgrow
      subst hvx'
      have i1' := i1 w.drew rfl
      have i2' := i2 w.drew rfl
      simp only [execCall_builtin, builtin, Builtin.append_]
      simp [hex, hey, underlying, hu, hu', hs, hlenY, hnot1, hti, hb0, hforced, hz, newRow]
      rw [if_neg (by simpa using hnot2)]
      rw [i1']
      simp only [Result.andThen_ok]
      rw [i2']
      simp only [Result.andThen_ok]
      rw [← Array.append_assoc]
      rfl
    rw [hrun]
    have s1 : Sat g H0 w.drew := s.drew.weaken hroom.le
    obtain ⟨g', hle, _, htok, himm, s2⟩ := s1.new_row row E ((xs.length + ys.length) * sz) (by rw [hrow]; exact Nat.mul_le_mul_right sz hnc.1)
    refine ⟨g', _, _, hle, ?_, s2, g.ntok, hfresh, rfl, rfl⟩
    have hcells : RelCells g ((xs ++ ys).flatMap AV.cells) (os ++ us) := by rw [hflat]; exact hos.append hus
    have hlt : g.ntok < g'.ntok := by
      have := s2.tokLt g.ntok (by simp [Heap.live]); exact this
    have key := RelV.of_row (g := g') (tl := .own g.ntok) (b := w.heap.size) (off := 0) (cap := nc) (us := os ++ us) (vs := fun i => row.getD i undef) hall (hcells.mono hle) (fun i u hi => by
        have hil : i < os.size + us.size := by have := (Array.getElem?_eq_some_iff.1 hi).1; simpa using this
        show row.getD i undef = u
        have : row[i]? = some u := by
          show (os ++ us ++ _)[i]? = some u
          rw [Array.getElem?_append_left (by simpa using hil)]; exact hi
        simp [this]) (fun i hi => by
        rw [Nat.zero_add]
        have hi' : i < row.size := by
          rw [hrow]
          have := Nat.mul_le_mul_right sz hnc.1
          simp only [List.length_append] at hi; omega
        exact himm i _ (by simpa using hi) (by simp [hi'])) (by simpa using hnc.1) hnc.2 ⟨hlt, .inr (by
        rw [htok, hrow]
        simp only [List.length_append, Nat.zero_add, Option.some.injEq, Prod.mk.injEq]
        refine ⟨rfl, trivial, ?_⟩
        rw [Nat.sub_mul])⟩
    simpa using key
  -- in place
  have same : ∀ (g' : G) (w' : World) (v : Value), g.le g' → Sat g' (H0.live g.ntok) w' → RelV g' (.slice sz (xs ++ ys) (.own g.ntok)) v →
      (execOp a.eval ⟨dst, .call { callee := .builtin .append, args := #[x, y], argTypes := #[T, T'] }, ty, pos, af, gd⟩).run P w = .ok (.value v) w' →
      YieldsTo P (fun v w' => ∃ g' r H', g.le g' ∧ RelV g' r v ∧ Sat g' H' w' ∧ ∃ t, H.toks t = false ∧ r = .slice sz (xs ++ ys) (.own t) ∧ H' = H0.live t)
      ((execOp a.eval ⟨dst, .call { callee := .builtin .append, args := #[x, y], argTypes := #[T, T'] }, ty, pos, af, gd⟩).run P w) := by
    intro g' w' v hle hs' hv hrun
    rw [hrun]
    exact ⟨g', _, _, hle, hv, hs', g.ntok, hfresh, rfl, rfl⟩
  have hempty : ys = [] ∨ 0 < ys.length := by cases ys <;> simp
  cases hvx with
  | nilSlice =>
    rcases hempty with rfl | hpos
    · refine same (g.addTok none) w (.slice none 0 0) (G.le_addTok g none) (s.weaken hroom.le).retag (.nilSlice _ _) ?_
      have i2 : (Builtin.firstCells sz 0 vy).run P w = .ok us w := hfirst w s.imm
      simp only [execCall_builtin, builtin, Builtin.append_]
      simp [hex, hey, underlying, hu, hu', hs, hlenY, i2]
    · exact grows 0 ⟨none, rfl⟩ (by simpa using hpos)
  | voidSlice => cases hroom
  | slice sz xs tl b off cap vs hsz himm hr hlen hcap htl =>
    by_cases hc : cap < xs.length + ys.length
    · exact grows cap ⟨_, rfl⟩ hc
    · have hc' : xs.length + ys.length ≤ cap := by omega
      have i2 := hfirst w s.imm
      have hstore : ∀ w', (storeCells ⟨b, off + xs.length * sz, none⟩ us.toList).run P w = .ok () w' →
          (execOp a.eval ⟨dst, .call { callee := .builtin .append, args := #[x, y], argTypes := #[T, T'] }, ty, pos, af, gd⟩).run P w = .ok (.value (.slice (some ⟨b, off, none⟩) (xs.length + ys.length) cap)) w' := fun w' hw' => by
        simp only [execCall_builtin, builtin, Builtin.append_]
        simp [hex, hey, underlying, hu, hu', hs, hlenY, hc', i2, Addr.add_off]
        rw [hw']; rfl
      have hrel : ∀ (g' : G) (t : Nat), g.le g' → (∀ o v, us[o]? = some v → g'.imm b (off + xs.length * sz + o) = some v) → TailOK g' (.own t) b (off + (xs ++ ys).length * sz) ((cap - (xs ++ ys).length) * sz) →
          RelV g' (.slice sz (xs ++ ys) (.own t)) (.slice (some ⟨b, off, none⟩) (xs.length + ys.length) cap) := fun g' t hle hi ht => by
        have key := RelV.slice (g := g') sz (xs ++ ys) (.own t) b off cap (fun i => if i < xs.length * sz then vs i else us.getD (i - xs.length * sz) undef) hall (fun i hi' => by
            by_cases h : i < xs.length * sz
            · simp only [h, if_true]; exact hle.imm _ _ _ (himm i h)
            · simp only [h, if_false]
              have hlt : i - xs.length * sz < us.size := by
                rw [husz]; simp only [List.length_append, Nat.add_mul] at hi'; omega
              have := hi (i - xs.length * sz) us[i - xs.length * sz] (Array.getElem?_eq_getElem hlt)
              rw [show off + i = off + xs.length * sz + (i - xs.length * sz) by omega, this]
              simp [hlt]) (fun i j x c hx hc => ?_) (by simpa using hc') hcap ht
        · simpa using key
        · rw [List.getElem?_append] at hx
          split at hx
          · rename_i hlt
            have hj : j < sz := by rw [← (hsz x (List.mem_of_getElem? hx)).1]; exact (List.getElem?_eq_some_iff.1 hc).1
            have : i * sz + j < xs.length * sz := by
              have := Nat.mul_le_mul_right sz (show i + 1 ≤ xs.length from hlt)
              rw [Nat.add_mul] at this; omega
            rw [if_pos this]; exact (hr i j x c hx hc).mono hle
          · rename_i hlt
            have hge : xs.length * sz ≤ i * sz := Nat.mul_le_mul_right sz (by omega)
            rw [if_neg (by omega)]
            obtain ⟨u, hu1, hu2⟩ := hus.at (flat_get (fun z hz => (hry z hz).1) hx hc)
            have e : i * sz + j - xs.length * sz = (i - xs.length) * sz + j := by rw [Nat.sub_mul]; omega
            rw [e]
            have : us.getD ((i - xs.length) * sz + j) undef = u := by simp [hu1]
            rw [this]; exact hu2.mono hle
      have hnoStore : us.size = 0 → (storeCells ⟨b, off + xs.length * sz, none⟩ us.toList).run P w = .ok () w := fun h0 => by
        have : us.toList = [] := by simpa using h0
        rw [this]; rfl
      have hzero : us.size = 0 → (g.addTok none).le (g.addTok none) → YieldsTo P (fun v w' => ∃ g' r H', g.le g' ∧ RelV g' r v ∧ Sat g' H' w' ∧ ∃ t, H.toks t = false ∧ r = .slice sz (xs ++ ys) (.own t) ∧ H' = H0.live t)
          ((execOp a.eval ⟨dst, .call { callee := .builtin .append, args := #[x, y], argTypes := #[T, T'] }, ty, pos, af, gd⟩).run P w) ∨ (cap - (xs ++ ys).length) * sz ≠ 0 := fun h0 _ => by
        by_cases hfull : (cap - (xs ++ ys).length) * sz = 0
        · left
          refine same (g.addTok none) w _ (G.le_addTok g none) (s.weaken hroom.le).retag (hrel _ _ (G.le_addTok g none) (fun o v ho => by rw [Array.getElem?_eq_none (by omega)] at ho; cases ho) ⟨Nat.lt_succ_self _, .inl hfull⟩) (hstore w (hnoStore h0))
        · exact .inr hfull
      cases hroom with
      | full =>
        have h0 : (cap - xs.length) * sz = 0 := htl
        have hz1 : us.size = 0 := by
          rw [husz]
          have : ys.length * sz ≤ (cap - xs.length) * sz := Nat.mul_le_mul_right sz (by omega)
          omega
        rcases hzero hz1 (G.le.refl _) with h | h
        · exact h
        · exfalso; apply h
          have : (cap - (xs ++ ys).length) * sz ≤ (cap - xs.length) * sz := Nat.mul_le_mul_right sz (by simp; omega)
          omega
      | own t ht =>
        obtain ⟨htl1, htl2⟩ := htl
        by_cases hz0 : (cap - xs.length) * sz = 0
        · have hz1 : us.size = 0 := by
            rw [husz]
            have : ys.length * sz ≤ (cap - xs.length) * sz := Nat.mul_le_mul_right sz (by omega)
            omega
          rcases hzero hz1 (G.le.refl _) with h | h
          · exact h
          · exfalso; apply h
            have : (cap - (xs ++ ys).length) * sz ≤ (cap - xs.length) * sz := Nat.mul_le_mul_right sz (by simp; omega)
            omega
        · have hk := htl2.resolve_left hz0
          have hmulc : (xs.length * sz + us.size) + (cap - (xs ++ ys).length) * sz = cap * sz := by
            rw [husz, ← Nat.add_mul, ← Nat.add_mul]; congr 1; simp; omega
          have hmulx : xs.length * sz + (cap - xs.length) * sz = cap * sz := by rw [← Nat.add_mul]; congr 1; omega
          obtain ⟨cells, S, hcell, hsize, hput⟩ := s.append_in ht hk us (by omega) hz0
          have hrun := run_storeCells_at (P := P) b (off + xs.length * sz) S us.toList 0 cells w hcell (by simp; omega) (hus.oneCells (flat_one hry))
          simp only [Nat.add_zero] at hrun
          rw [setRow_eq w b cells _ S (0, 0) hcell] at hrun
          obtain ⟨g', hle, hnt, htok, hi, hs'⟩ := hput (cells.toList.take (off + xs.length * sz) ++ us.toList ++ cells.toList.drop (off + xs.length * sz + us.toList.length)).toArray (by simp; omega) (fun o ho => by
              have := row_put_get cells.toList (off + xs.length * sz) us.toList (by simp; omega) o
              rw [if_neg (by omega)] at this
              simpa using this) (fun o ho => by
              have := row_put_get cells.toList (off + xs.length * sz) us.toList (by simp; omega) (off + xs.length * sz + o)
              rw [if_pos (by simp; omega)] at this
              simpa using this)
          refine same g' _ _ hle hs' (hrel g' g.ntok hle hi ⟨by omega, .inr ?_⟩) (hstore _ hrun)
          rw [htok]
          simp only [Option.some.injEq, Prod.mk.injEq, true_and]
          have e1 : off + (xs ++ ys).length * sz = off + xs.length * sz + us.size := by rw [husz, List.length_append, Nat.add_mul]; omega
          exact ⟨e1.symm, by omega⟩
/-- What a step gives may be said to be less. -/
theorem AStep.less {o : Oper} {R R' : AV → Heap → Prop} (h : AStep P o env H R) (hr : ∀ x H', R x H' → ∃ y H'', Weak x y ∧ H''.le H' ∧ R' y H'') : AStep P o env H R' :=
  fun g n a w k s => (h g n a w k s).mono fun _ _ ⟨g', x, H', h1, h2, h3, h4⟩ => let ⟨y, H'', hw, hl, hR⟩ := hr _ _ h4; ⟨g', y, H'', h1, hw.rel h2, h3.weaken hl, hR⟩
/-- Appended to nothing of one's own, and nothing of the room kept. -/
theorem step_appendS {T T' E E' : TypeId} {x y : Operand} {sz : Nat} {xs ys : List AV} {tl' : Tail} {ti : TypeInfo} {z : Value} (hu : P.underlying T = some (.slice E)) (hu' : P.underlying T' = some (.slice E'))
    (hs : ∀ w, (sizeOf E).run P w = .ok sz w) (hti : ∀ w, (typeInfo E).run P w = .ok ti w) (hz : ∀ w, (zeroValue E).run P w = .ok z w) (hzl : z.cells.size = sz) (hb0 : ti.bytes ≠ 0)
    (hx : Ev env x (.slice sz xs .full)) (hy : Ev env y (.slice sz ys tl')) (hfit : (xs.length + ys.length) * ti.bytes ≤ 140737488355328) (hrx : ∀ x, x ∈ xs → x.row sz) (hry : ∀ y, y ∈ ys → y.row sz) :
    AStep P ⟨dst, .call { callee := .builtin .append, args := #[x, y], argTypes := #[T, T'] }, ty, pos, af, gd⟩ env H (fun r H' => r = .slice sz (xs ++ ys) .shared ∧ H' = H) :=
  (step_append hu hu' hs hti hz hzl hb0 hx hy .full hfit hrx hry).less fun _ _ ⟨t, _, hr, hH⟩ => ⟨_, H, hr ▸ .slice _ _ _, hH ▸ Heap.le_live H t, rfl, rfl⟩
end

end Go.Proofs.YtncoklpecffokaaGreatDoor
