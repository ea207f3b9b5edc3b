/-
  tabardref22.Quote: the reference, by the kit's walk: a row of bytes that grows.
-/
import Derived.Test.YtlhpnccdfgjifaaGreatDoorQ1
import Derived.Laws.IdiomStrings
import Derived.Laws.BytesArg
import Derived.Deep.RegionLaw
namespace Go.Proofs.YtlhpnccdfgjifaaGreatDoor
open Go Go.RowKit Go.Shelf

theorem info5 : (match Tryz.prog.info? 5 with | some i => i.size == 1 && (i.bytes == 1 && (match i.zero with | some (.int .u8 0) => true | _ => false)) | none => false) = true := by kernel_rfl
theorem info5_spec : ∃ i, Tryz.prog.info? 5 = some i ∧ i.zero = some (.int .u8 0) ∧ i.size = 1 ∧ i.bytes = 1 := by
  have h := info5
  split at h
  · rename_i i hi
    simp only [Bool.and_eq_true, beq_iff_eq] at h
    obtain ⟨h1, h2, h3⟩ := h
    split at h3
    · rename_i hz; exact ⟨i, hi, hz, h1, h2⟩
    · cases h3
  · cases h
theorem own_string {w : World} {B : Nat} {v : Value} {n : Nat} {l : List UInt8} (h : w.ownsRow B 5 1 v n (Lib.byteCells l)) : (convert 40 9 v).run Tryz.prog w = .ok (.string ⟨l.toArray⟩) w := by
  have hl : l.length = n := by have := h.1; simpa [Lib.byteCells] using this
  rcases h.2 with ⟨rfl, h0⟩ | ⟨g, cap, cur, rfl, _⟩
  · have : l = [] := List.eq_nil_of_length_eq_zero (by omega)
    subst this
    exact run_convert_bytes_nil w 40 5 Tryz.underlying40 Tryz.underlying5 0 0 9 Tryz.underlying9
  · subst hl
    refine run_convert_bytes_back w 40 9 5 ⟨g, 0, none⟩ cap l Tryz.underlying40 Tryz.underlying5 Tryz.underlying9 fun j hj => ?_
    exact h.cells rfl j _ (by simp [Lib.byteCells, hj])
theorem own_below {w wr w1 w' : World} {v : Value} {n : Nat} {xs : List Value} (ho : wr.ownsRow w.heap.size 5 1 v n xs) (hb : Below w.heap.size w wr) (h1 : Below wr.heap.size wr w1) (hg : w1.grownBy w' v.ownBlock) : Below w.heap.size w w' := by
  have h2 : Below w.heap.size w w1 := hb.trans (h1.mono hb.size)
  refine ⟨hg.os.trans h2.os, hg.tape.trans h2.tape, hg.output.trans h2.output, Nat.le_trans h2.size hg.size, fun k hk => ?_⟩
  rw [hg.block k (Nat.lt_of_lt_of_le hk h2.size) (fun e => ?_)]
  · exact h2.block k hk
  · have := (ho.lt k e.symm).1
    omega
theorem own_one (w : World) (c : Value) : (w.alloc (.cells #[c] 5)).ownsRow w.heap.size 5 1 (.slice (some ⟨w.heap.size, 0, none⟩) 1 1) 1 [c] :=
  ⟨rfl, .inr ⟨w.heap.size, 1, #[c], rfl, Nat.le_refl _, heap_alloc_new w _, Nat.le_refl _, by decide, rfl, rfl⟩⟩
theorem alloc_cells (w : World) (vs : List Value) (T : TypeId) (j : Nat) (u : Value) (hj : vs[j]? = some u) : (w.alloc (.cells vs.toArray T)).cell? ((⟨w.heap.size, 0, none⟩ : Addr).add j) = some u := by
  have hadd : (⟨w.heap.size, 0, none⟩ : Addr).add j = ⟨w.heap.size, j, none⟩ := by unfold Addr.add; split <;> simp_all
  rw [hadd, cell_of_row _ _ j vs.toArray T (0, 0) (heap_alloc_new w _)]
  simpa using hj
theorem row_add (w' : World) (B : Nat) (v : Value) (l t : List UInt8) (n : Nat) (m : Nat) (hm : m = t.length) (h : w'.ownsRow B 5 1 v (n + m) (Lib.byteCells l ++ Lib.byteCells t)) (hn : n = l.length) : w'.ownsRow B 5 1 v (l ++ t).length (Lib.byteCells (l ++ t)) := by
  subst hm; subst hn
  have e : Lib.byteCells l ++ Lib.byteCells t = Lib.byteCells (l ++ t) := by simp [Lib.byteCells]
  rw [e] at h
  rw [List.length_append]
  exact h

theorem step_append_own {P : Program} {ops : Array Oper} {o : Oper} {a : Act} {w : World} {K : Act → World → Prop} {Q : Exit → Act → World → Prop} {E : Prop}
    (hg : o.guard = none) (s x : Operand) (t : TypeId) (hop : o.op = Op.call { callee := Callee.builtin Builtin.append, args := #[s, x], argTypes := #[t, t] })
    (base : Nat) (e : TypeId) (i : TypeInfo) (z : Value) (size bytes : Nat) (ht : P.underlying t = some (.slice e)) (hi : P.info? e = some i) (hz : i.zero = some z)
    (hsize : i.size = size) (hby : i.bytes = bytes) (hzs : z.cells.size = size) (hsz : 0 < size)
    (v : Value) (n : Nat) (xs : List Value) (hs : a.eval s = v) (hown : w.ownsRow base e size v n xs)
    (ad : Addr) (m c : Nat) (news : List Value) (hx : a.eval x = .slice (some ad) m c) (hl : news.length = m * size) (hnews : ∀ j u, news[j]? = some u → w.cell? (ad.add j) = some u) (h1 : ∀ u ∈ news, u.oneCell' = true)
    (h63 : n + m ≤ maxLen) (hbytes : (n + m) * bytes ≤ 140737488355328) (hbase : base ≤ w.heap.size)
    (hK : ∀ v' w', w'.ownsRow base e size v' (n + m) (xs ++ news) → w.grownBy w' v.ownBlock → (v' = .slice none 0 0 ↔ v = .slice none 0 0 ∧ m = 0) → K (a.put o.dst v') w') :
    if Region.wanted o (yielded ops a.tmps) = true then Oper.wp P o a w K Q else E := by
  have hw : Region.wanted o (yielded ops a.tmps) = true := by simp [Region.wanted, hg]
  rw [if_pos hw]
  obtain ⟨v', w', hrun, h2, h3, h4⟩ := run_append_own w base t o.type e i z size bytes ht hi hz hsize hby hzs hsz v n xs hown ad m c news hl hnews h1 h63 hbytes hbase
  unfold Oper.wp
  simp [execOp, hop, resolve, invoke, builtin, hs, hx, hrun, Result.andThen]
  exact hK v' w' h2 h3 h4
theorem bytes_one (l : List UInt8) : ∀ u ∈ Lib.byteCells l, u.oneCell' = true := by
  intro u hu
  simp only [Lib.byteCells, List.mem_map] at hu
  obtain ⟨b, _, rfl⟩ := hu
  rfl
theorem hex_at (i : Nat) (hi : i < 16) (h : i < hexT.size) : hexT[i]'h = hexD i := by
  have : ∀ i < 16, hexT.data[i]? = some (hexD i) := by decide
  exact Option.some.inj ((Array.getElem?_eq_getElem h).symm.trans (this i hi))
set_option pp.maxSteps 400 in
set_option maxHeartbeats 4000000 in
set_option maxRecDepth 1000000 in
theorem refQuote_walk (s : List UInt8) (w : World) (hs : s.length ≤ 100000) :
    Calls Tryz.prog 8 #[.string ⟨s.toArray⟩] w fun e w' => e = .returned (.string ⟨(quoteS s).toArray⟩) ∧ Below w.heap.size w w' := by
  have hsz : (⟨s.toArray⟩ : ByteArray).size = s.length := rfl
  obtain ⟨i5, hi, hz0, hz1, hz2⟩ := info5_spec
  go_enter Tryz.func8, Tryz.ntmps8
  go_wp2_with fail
  go_loopw [3, 4] (fun v i wr => ∃ k : Nat, i = .int .i64 (k : Int) ∧ k ≤ s.length ∧ wr.ownsRow w.heap.size 5 1 v (34 :: bodyS (s.take k)).length (Lib.byteCells (34 :: bodyS (s.take k))) ∧ Below w.heap.size w wr) (fun _ i _ => s.length - (intOf i).toNat)
  case atStart =>
    exact ⟨0, rfl, Nat.zero_le _, own_one w _, (Below.refl _ w).alloc (Nat.le_refl _) _⟩
  case round =>
    obtain ⟨k, rfl, hk, hown, hbw⟩ := hrel
    have hb0 := bodyS_len (s.take k)
    have hl0 : (s.take k).length ≤ s.length := by rw [List.length_take]; omega
    have hbl : (34 :: bodyS (s.take k)).length ≤ 400001 := by simp; omega
    have hsw : w.heap.size ≤ wr.heap.size := hbw.size
    by_cases hk2 : k < s.length
    · have hck : (⟨s.toArray⟩ : ByteArray)[k]'(by rw [hsz]; exact hk2) = s[k] := rfl
      have hnext := take_next s hk2
      generalize hc : s[k] = c at hck hnext
      generalize hL : 34 :: bodyS (s.take k) = L at hown hbl
      have hrel' : ∀ (v' : Value) (w' : World) (t : List UInt8), q1 c = t → w'.ownsRow w.heap.size 5 1 v' (L ++ t).length (Lib.byteCells (L ++ t)) → w'.ownsRow w.heap.size 5 1 v' (34 :: bodyS (s.take (k + 1))).length (Lib.byteCells (34 :: bodyS (s.take (k + 1)))) := fun v' w' t ht h => by
        have e : 34 :: bodyS (s.take (k + 1)) = L ++ t := by rw [hnext, ht, ← hL]; rfl
        rw [e]; exact h
      by_cases h1 : c.toNat = 34 ∨ c.toNat = 92
      · rcases h1 with h1 | h1
        · have hcc : c = 34 := UInt8.toNat_inj.1 h1
          subst hcc
          have hq : q1 34 = [92, 34] := by decide
          go_wp2_with (at_builtin; refine wpList_append_own _ rfl _ _ 40 rfl w.heap.size 5 i5 (.int .u8 0) 1 1 Tryz.underlying40 hi hz0 hz1 hz2 rfl (by decide) _ _ _ rfl (hown.alloc _) ⟨wr.heap.size, 0, none⟩ 2 2 (Lib.byteCells [92, 34]) rfl rfl (fun j u hj => alloc_cells wr (Lib.byteCells [92, 34]) 5 j u hj) (bytes_one _) (by simp only [maxLen]; omega) (by omega) (by simp; omega) ?_; intro v' w' ho' hg' _)
          all_goals first | (exfalso; simp_all; done) | (exfalso; simp_all; omega) | skip
          all_goals
            go_roundw
            case rel => exact ⟨k + 1, by simp, by omega, hrel' _ _ _ hq (row_add w' _ v' L [92, 34] _ 2 rfl ho' rfl), own_below hown hbw ((Below.refl _ wr).alloc (Nat.le_refl _) _) hg'⟩
            case measure =>
              show s.length - ((k : Int) + 1).toNat < s.length - ((k : Int)).toNat
              omega
        · have hcc : c = 92 := UInt8.toNat_inj.1 h1
          subst hcc
          have hq : q1 92 = [92, 92] := by decide
          go_wp2_with (at_builtin; refine wpList_append_own _ rfl _ _ 40 rfl w.heap.size 5 i5 (.int .u8 0) 1 1 Tryz.underlying40 hi hz0 hz1 hz2 rfl (by decide) _ _ _ rfl (hown.alloc _) ⟨wr.heap.size, 0, none⟩ 2 2 (Lib.byteCells [92, 92]) rfl rfl (fun j u hj => alloc_cells wr (Lib.byteCells [92, 92]) 5 j u hj) (bytes_one _) (by simp only [maxLen]; omega) (by omega) (by simp; omega) ?_; intro v' w' ho' hg' _)
          all_goals first | (exfalso; simp_all; done) | (exfalso; simp_all; omega) | skip
          all_goals
            go_roundw
            case rel => exact ⟨k + 1, by simp, by omega, hrel' _ _ _ hq (row_add w' _ v' L [92, 92] _ 2 rfl ho' rfl), own_below hown hbw ((Below.refl _ wr).alloc (Nat.le_refl _) _) hg'⟩
            case measure =>
              show s.length - ((k : Int) + 1).toNat < s.length - ((k : Int)).toNat
              omega
      by_cases h2 : c.toNat < 32 ∨ 126 < c.toNat
      · have hq : q1 c = [92, 120, hexD (c.toNat / 16), hexD (c.toNat % 16)] := by unfold q1; rw [if_neg h1, if_pos h2]
        have hc256 := c.toNat_lt
        have w1 : IntKind.u8.wrap ((c.toNat : Int) / 16) = ((c.toNat / 16 : Nat) : Int) := by
          simp [IntKind.wrap, IntKind.bits, IntKind.signed]; omega
        have w2 : (c.toNat : Int).tmod 16 = ((c.toNat % 16 : Nat) : Int) := rfl
        have l1 : IntKind.u8.wrap ((c.toNat : Int) / 16) < 16 := by rw [w1]; omega
        have l2 : (c.toNat : Int).tmod 16 < 16 := by rw [w2]; omega
        have l3 : 0 ≤ (c.toNat : Int).tmod 16 := by rw [w2]; omega
        have x1 : ∀ h, (⟨#[48, 49, 50, 51, 52, 53, 54, 55, 56, 57, 97, 98, 99, 100, 101, 102]⟩ : ByteArray)[(IntKind.u8.wrap ((c.toNat : Int) / 16)).toNat]'h = hexD (c.toNat / 16) := fun h => by
          have := hex_at (c.toNat / 16) (by omega) (by show c.toNat / 16 < 16; omega)
          rw [← this]
          congr 1
          rw [w1]; rfl
        have x2 : ∀ h, (⟨#[48, 49, 50, 51, 52, 53, 54, 55, 56, 57, 97, 98, 99, 100, 101, 102]⟩ : ByteArray)[((c.toNat : Int).tmod 16).toNat]'h = hexD (c.toNat % 16) := fun h => by
          have := hex_at (c.toNat % 16) (by omega) (by show c.toNat % 16 < 16; omega)
          rw [← this]
          congr 1
        clear w1 w2
        generalize hexD (c.toNat / 16) = p at *
        generalize hexD (c.toNat % 16) = q at *
        have hown2 : wr.drew.ownsRow w.heap.size 5 1 _ _ _ := hown
        go_wp2_with fail
        all_goals first | (exfalso; simp_all; done) | (exfalso; simp_all; omega) | skip
        all_goals
          go_region_law (refine step_append_own rfl _ _ 40 rfl w.heap.size 5 i5 (.int .u8 0) 1 1 Tryz.underlying40 hi hz0 hz1 hz2 rfl (by decide) _ _ _ rfl (hown2.alloc _) ⟨wr.drew.heap.size, 0, none⟩ 4 4 (Lib.byteCells [92, 120, p, q]) rfl rfl (fun j u hj => alloc_cells wr.drew (Lib.byteCells [92, 120, p, q]) 5 j u hj) (bytes_one _) (by simp only [maxLen]; omega) (by omega) (by simp; omega) ?_; intro v' w' ho' hg' _)
        all_goals
          go_wp2_with fail
          go_roundw
          case rel => exact ⟨k + 1, by simp, by omega, hrel' _ _ _ hq (row_add w' _ v' L [92, 120, p, q] _ 4 rfl ho' rfl), own_below hown hbw (((Below.refl _ wr).drew).alloc (Nat.le_refl _) _) hg'⟩
          case measure =>
            show s.length - ((k : Int) + 1).toNat < s.length - ((k : Int)).toNat
            omega
      · have hq : q1 c = [c] := by unfold q1; rw [if_neg h1, if_neg h2]
        go_wp2_with (at_builtin; refine wpList_append_own _ rfl _ _ 40 rfl w.heap.size 5 i5 (.int .u8 0) 1 1 Tryz.underlying40 hi hz0 hz1 hz2 rfl (by decide) _ _ _ rfl (hown.alloc _) ⟨wr.heap.size, 0, none⟩ 1 1 (Lib.byteCells [c]) rfl rfl (fun j u hj => alloc_cells wr (Lib.byteCells [c]) 5 j u hj) (bytes_one _) (by simp only [maxLen]; omega) (by omega) (by simp; omega) ?_; intro v' w' ho' hg' _)
        all_goals first | (exfalso; simp_all; done) | (exfalso; simp_all; omega) | skip
        all_goals
          go_roundw
          case rel => exact ⟨k + 1, by simp, by omega, hrel' _ _ _ hq (row_add w' _ v' L [c] _ 1 rfl ho' rfl), own_below hown hbw ((Below.refl _ wr).alloc (Nat.le_refl _) _) hg'⟩
          case measure =>
            show s.length - ((k : Int) + 1).toNat < s.length - ((k : Int)).toNat
            omega
    · have hkl : k = s.length := by omega
      subst hkl
      rw [List.take_length] at hown hbl
      go_wp2_with (first
        | (at_builtin; refine wpList_append_own _ rfl _ _ 40 rfl w.heap.size 5 i5 (.int .u8 0) 1 1 Tryz.underlying40 hi hz0 hz1 hz2 rfl (by decide) _ _ _ rfl (hown.alloc _) ⟨wr.heap.size, 0, none⟩ 1 1 (Lib.byteCells [34]) rfl rfl (fun j u hj => alloc_cells wr (Lib.byteCells [34]) 5 j u hj) (bytes_one _) (by simp only [maxLen]; simp only [List.length_cons] at hbl ⊢; omega) (by simp only [List.length_cons] at hbl ⊢; omega) (by simp; omega) ?_; intro v' w' ho' hg' _; have hcv : (convert 40 9 v').run Tryz.prog w' = .ok (.string ⟨(quoteS s).toArray⟩) w' := own_string (row_add w' w.heap.size v' (34 :: bodyS s) [34] _ 1 rfl ho' rfl))
        | fail)
      all_goals first | (exfalso; simp_all; done) | (exfalso; simp_all; omega) | skip
      go_ret
      exact ⟨rfl, own_below hown hbw ((Below.refl _ wr).alloc (Nat.le_refl _) _) hg'⟩
end Go.Proofs.YtlhpnccdfgjifaaGreatDoor

namespace Go.Proofs.YtlhpnccdfgjifaaGreatDoor
open Go Go.RowKit Go.Shelf

def six6 (n : Nat) : Int := if 48 ≤ n ∧ n ≤ 57 then (n : Int) - 48 else if 97 ≤ n ∧ n ≤ 102 then (n : Int) - 87 else -1
theorem six_D (n : Nat) (h : n < 16) : six6 (hexD n).toNat = (n : Int) := by
  have : ∀ n < 16, six6 (hexD n).toNat = (n : Int) := by decide
  exact this n h
set_option maxHeartbeats 4000000 in
theorem six_walk (c : UInt8) (w : World) : Calls Tryz.prog 21 #[.int .u8 (c.toNat : Int)] w fun e w' => e = .returned (.int .i64 (six6 c.toNat)) ∧ w' = w := by
  have hc := c.toNat_lt
  go_enter Tryz.func21, Tryz.ntmps21
  by_cases h1 : 48 ≤ c.toNat ∧ c.toNat ≤ 57
  · have hv : six6 c.toNat = (c.toNat : Int) - 48 := if_pos h1
    have hw : IntKind.u8.wrap ((c.toNat : Int) - 48) = (c.toNat : Int) - 48 := by simp [IntKind.wrap, IntKind.bits, IntKind.signed]; omega
    go_wp2_with fail
    all_goals first | (exfalso; simp_all; done) | (exfalso; simp_all; omega) | skip
    all_goals go_ret
    all_goals exact ⟨by first | rfl | (rw [hv]; rfl) | (rw [hv]; simp [hw]; done), rfl⟩
  · by_cases h2 : 97 ≤ c.toNat ∧ c.toNat ≤ 102
    · have hv : six6 c.toNat = (c.toNat : Int) - 87 := by unfold six6; rw [if_neg h1, if_pos h2]
      have hw : IntKind.u8.wrap ((c.toNat : Int) - 97) = (c.toNat : Int) - 97 := by simp [IntKind.wrap, IntKind.bits, IntKind.signed]; omega
      go_wp2_with fail
      all_goals first | (exfalso; simp_all; done) | (exfalso; simp_all; omega) | skip
      all_goals go_ret
      all_goals exact ⟨by rw [hv]; simp; omega, rfl⟩
    · have hv : six6 c.toNat = -1 := by unfold six6; rw [if_neg h1, if_neg h2]
      go_wp2_with fail
      all_goals first | (exfalso; simp_all; done) | (exfalso; simp_all; omega) | skip
      all_goals go_ret
      all_goals exact ⟨by first | rfl | (rw [hv]; rfl), rfl⟩
theorem Left.bad {s bs r : List UInt8} {c x : UInt8} (h : Left s bs (c :: x :: r)) (hc : c.toNat = 92) (h1 : x.toNat ≠ 34) (h2 : x.toNat ≠ 92) (h3 : x.toNat ≠ 120 ∨ r.length < 2) (t : List UInt8) : quoteS t ≠ s := fun ht => by
  obtain ⟨d, t2, e1, e2⟩ := h.step ht
  rcases q1_cases d with ⟨q, e⟩ | ⟨q, e⟩ | e <;> rw [e] at e2 <;> simp at e2
  · rw [← e2.1] at q; exact absurd hc q
  · obtain ⟨_, rfl, _⟩ := e2; omega
  · obtain ⟨_, rfl, rfl⟩ := e2
    rcases h3 with h3 | h3
    · exact absurd rfl h3
    · simp at h3; omega
theorem Left.hex6 {s bs r : List UInt8} {c k a b : UInt8} (h : Left s bs (c :: k :: a :: b :: r)) (hc : c.toNat = 92) (hk : k.toNat = 120) {t : List UInt8} (ht : quoteS t = s) : ∃ d t2, t = bs ++ d :: t2 ∧ six6 a.toNat = ((d.toNat / 16 : Nat) : Int) ∧ six6 b.toNat = ((d.toNat % 16 : Nat) : Int) ∧ r = bodyS t2 := by
  obtain ⟨d, t2, h1, h2⟩ := h.step ht
  have hd : d.toNat < 256 := d.toNat_lt
  rcases q1_cases d with ⟨q, e⟩ | ⟨q, e⟩ | e <;> rw [e] at h2 <;> simp at h2
  · rw [← h2.1] at q; exact absurd hc q
  · obtain ⟨_, rfl, _⟩ := h2; omega
  · obtain ⟨_, _, rfl, rfl, rfl⟩ := h2
    exact ⟨d, t2, h1, six_D _ (by omega), six_D _ (by omega), rfl⟩
theorem Left.ok6 {s bs r : List UInt8} {c k a b : UInt8} (h : Left s bs (c :: k :: a :: b :: r)) (hc : c.toNat = 92) (hk : k.toNat = 120) {x y : Nat} (hx : six6 a.toNat = (x : Int)) (hy : six6 b.toNat = (y : Int)) : Left s (bs ++ [UInt8.ofNat (16 * x + y)]) r := fun t ht => by
  obtain ⟨d, t2, q1, q2, q3, q4⟩ := h.hex6 hc hk ht
  rw [hx] at q2; rw [hy] at q3
  refine ⟨t2, ?_, q4⟩
  have : UInt8.ofNat (16 * x + y) = d := by
    have : 16 * x + y = d.toNat := by omega
    rw [this]; exact UInt8.ofNat_toNat
  rw [this]; simp [q1]
end Go.Proofs.YtlhpnccdfgjifaaGreatDoor
