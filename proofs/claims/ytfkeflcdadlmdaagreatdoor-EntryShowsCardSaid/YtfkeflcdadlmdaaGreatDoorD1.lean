/-
  Decimals: which are right; where the point stands; in the program and in the document.
-/
import Derived.Test.YtfkeflcdadlmdaaGreatDoorSsk
import Derived.Test.YtfkeflcdadlmdaaGreatDoorX1
import Derived.Test.YtfkeflcdadlmdaaGreatDoorR1
namespace Go.Proofs.YtfkeflcdadlmdaaGreatDoor
open Go Go.RowKit

theorem zr48 : ∀ g, RelCells g [.bool false, .str [], .int .i64 0] (Value.cells (Go.Value.agg #[Go.Value.bool false, Go.Value.string { data := #[] }, Go.Value.int Go.IntKind.i64 0])) := fun g => RelL.cells (.cons (.bool _) (.cons ((.str [] (Nat.zero_le _))) (.cons (.int _ _) .nil)))
theorem pl48 (fs : Array Field) (hfs : Tryz.prog.underlying 48 = some (.struct fs)) : ∀ (i : Nat) f p, fs[i]? = some f → [(0, 1), (1, 1), (2, 1)][i]? = some p → ∀ w, (sizeOf f.type).run Tryz.prog w = .ok p.2 w := by
  have e := (Option.some.inj (hfs.symm.trans Tryz.underlying48))
  cases e
  intro i f p hf hp w
  match i with
  | 0 => cases hf; cases hp; exact Tryz.sizeOf4 w
  | 1 => cases hf; cases hp; exact Tryz.sizeOf9 w
  | 2 => cases hf; cases hp; exact Tryz.sizeOf3 w
  | i + 3 => simp at hp

theorem decode_lt {s : List UInt8} {p : Nat} (h : p < s.length) (ha : (s.getD p 0).toNat < 128) : Utf8.decode ⟨s.toArray⟩ p = ((s.getD p 0).toNat, 1) := by
  have hb : (⟨s.toArray⟩ : ByteArray).get! (p + 0) = s.getD p 0 := by
    rw [Nat.add_zero, List.getD_eq_getElem?_getD, List.getElem?_eq_getElem h]
    show s.toArray[p]! = _
    simp [h]
  unfold Utf8.decode
  simp only [hb]
  rw [if_pos ha]
theorem Digs.at {s : List UInt8} (hd : Digs s) {p : Nat} (h : p < s.length) : 48 ≤ (s.getD p 0).toNat ∧ (s.getD p 0).toNat ≤ 57 := by
  rw [List.getD_eq_getElem?_getD, List.getElem?_eq_getElem h]
  exact hd _ (List.getElem_mem h)
def digC (b : UInt8) : Bool := decide ((48 : Int) ≤ ((b.toNat : Nat) : Int)) && decide (((b.toNat : Nat) : Int) ≤ 57)
theorem digB_take {ds : List UInt8} {i : Nat} (hi : i < ds.length) (h : digB (ds.take i) = true) : digB (ds.take (i + 1)) = digC (ds.getD i 0) := by
  unfold digB at *
  rw [← List.take_append_getElem hi, List.all_append, h, List.getD_eq_getElem?_getD, List.getElem?_eq_getElem hi]
  simp only [List.all_cons, List.all_nil, Bool.and_true, Bool.true_and, digC, Option.getD_some]
  congr 1
  · exact decide_eq_decide.2 (by omega)
  · exact decide_eq_decide.2 (by omega)
theorem digB_of_take {ds : List UInt8} {i : Nat} (h : digB ds = true) : digB (ds.take i) = true := by
  unfold digB at *
  rw [List.all_eq_true] at h ⊢
  exact fun x hx => h x (List.mem_of_mem_take hx)
theorem suffix_48 {ds : List UInt8} (h : 0 < ds.length) : Lib.hasSuffix ds [48] = decide (ds.getD (ds.length - 1) 0 = 48) := by
  unfold Lib.hasSuffix
  have e : ds = ds.take (ds.length - 1) ++ [ds.getD (ds.length - 1) 0] := by
    have hl : ds.length - 1 < ds.length := by omega
    rw [List.getD_eq_getElem?_getD, List.getElem?_eq_getElem hl, Option.getD_some, List.take_append_getElem hl, List.take_of_length_le (by omega)]
  by_cases hq : ds.getD (ds.length - 1) 0 = 48
  · rw [decide_eq_true hq]
    rw [hq] at e
    rw [List.isSuffixOf_iff_suffix]
    exact ⟨_, e.symm⟩
  · rw [decide_eq_false hq]
    cases hs : [48].isSuffixOf ds with
    | false => rfl
    | true =>
      rw [List.isSuffixOf_iff_suffix] at hs
      obtain ⟨u, hu⟩ := hs
      exfalso; apply hq
      rw [← hu]; simp
theorem byte_eq {b : UInt8} (k : Nat) (hk : k < 256) : decide (((b.toNat : Nat) : Int) = (k : Int)) = decide (b = UInt8.ofNat k) := by
  apply decide_eq_decide.2
  constructor
  · intro h; apply UInt8.toNat_inj.1; rw [UInt8.toNat_ofNat']; omega
  · intro h; rw [h, UInt8.toNat_ofNat']; omega
def rightC (ds : List UInt8) (e : Int) : Bool := decide ((ds.length : Int) ≤ 1100) && decide (-100000 ≤ e) && decide (e ≤ 100000) && decide (((ds.getD 0 0).toNat : Int) ≠ 48) && !decide (((ds.getD (ds.length - 1) 0).toNat : Int) = 48)
theorem rightC_eq {ds : List UInt8} {e : Int} (h : ds ≠ []) : rightB ds e = (rightC ds e && digB ds) := by
  unfold rightB rightC
  rw [if_neg h]
  have e1 := byte_eq (b := ds.getD 0 0) 48 (by decide)
  have e2 := byte_eq (b := ds.getD (ds.length - 1) 0) 48 (by decide)
  have e3 : decide ((ds.length : Int) ≤ 1100) = decide (ds.length ≤ 1100) := decide_eq_decide.2 (by omega)
  have e4 : decide (((ds.getD 0 0).toNat : Int) ≠ 48) = !decide (ds.getD 0 0 = UInt8.ofNat 48) := by rw [← e1]; exact decide_not
  rw [e3, e4, show decide (((ds.getD (ds.length - 1) 0).toNat : Int) = 48) = decide (ds.getD (ds.length - 1) 0 = UInt8.ofNat 48) from e2]
  show _ = (_ && _ && _ && !decide (ds.getD 0 0 = 48) && !decide (ds.getD (ds.length - 1) 0 = 48) && digB ds)
  generalize decide (ds.length ≤ 1100) = a1
  generalize decide (-100000 ≤ e) = a2
  generalize decide (e ≤ 100000) = a3
  generalize digB ds = a4
  generalize decide (ds.getD 0 0 = 48) = a5
  generalize decide (ds.getD (ds.length - 1) 0 = 48) = a6
  cases a1 <;> cases a2 <;> cases a3 <;> cases a4 <;> cases a5 <;> cases a6 <;> rfl

def plain_J (s : List UInt8) (b : Nat) (H : Heap) : Nat → Env → Heap → Prop := fun k env H1 => ∃ p : Nat, p ≤ s.length ∧ env = [(6, .ptr (some ⟨b, 0, none⟩))] ∧ H1 = H.set b (.raw (.stringIter ⟨s.toArray⟩ p)) ∧ k = s.length - p

set_option maxRecDepth 100000 in
theorem plain_calls (s : List UInt8) (hd : Digs s) (H : Heap) : ACall Tryz.prog 67 [.str s] H (fun y H' => y = .bool true ∧ H' = H) := by
  refine ACall.of_body Tryz.func67 rfl Tryz.ntmps67 Tryz.results67 rfl ?_
  refine .sr ?_
  refine .p rfl (pure_assign ev_bool) ?_
  refine .ng ?_
  refine .seq ?_
  refine .sr ?_
  refine .mv rfl rfl ?_
  refine .s rfl (step_range Tryz.underlying9 (tm rfl)) ?_
  rintro _ _ ⟨b6, rfl, hb6, hH⟩
  obtain rfl := hH.symm
  refine .ng ?_
  refine .block ?_
  refine AWP.loopW (plain_J s b6 H) (s.length) ⟨0, Nat.zero_le _, rfl, rfl, rfl⟩ (sub_c rfl sub_n) (Heap.le.refl _) ?_
  rintro _ _ _ ⟨p, hp, rfl, rfl, hk⟩
  refine .sr ?_
  refine .s rfl (step_next (tm rfl) (Heap.objs_set_same _ _ _)) ?_
  rintro _ Hn ⟨q7, rfl, hn7, hm7⟩
  refine .p rfl (pure_extract (tm rfl) rfl) ?_
  refine .ng ?_
  refine .seq ?_
  refine AWP.cond (tm rfl) (fun hc8 => ?_) (fun hc8 => ?_)
  · try simp only [decide_eq_true_eq] at hc8
    obtain ⟨rfl, rfl⟩ := hn7 (by omega)
    have hda := hd.at (show p < s.length by omega)
    rw [decode_lt (by omega) (by omega)]
    refine .skip ?_
    refine Next.go ?_
    refine .block ?_
    refine .sr ?_
    refine .p rfl (pure_extract (tm rfl) rfl) ?_
    refine .as rfl rfl ?_
    refine .ng ?_
    refine AWP.seqTo 15 (.bool (false)) [6] ?_ ?_
    · -- region 4
      refine .region ?_
      refine .mv rfl rfl ?_
      refine .p rfl (pure_lss (tm rfl) ev_int) ?_
      refine .mv rfl rfl ?_
      refine bool_casesL (t := 12) rfl (fun hg12 => ?_) (fun hg12 => ?_)
      · refine .gn rfl rfl rfl (by assumption) ?_
        refine .gn rfl rfl rfl (by assumption) ?_
        refine .p rfl (pure_pickT (tm rfl) (by assumption) ev_bool) ?_
        refine .nil ?_
        exact ⟨rfl, sub_b rfl (by (exfalso; have := of_decide_eq_true hg12; omega)) (sub_c rfl sub_n), rfl⟩
      · refine .gp rfl rfl rfl (by assumption) (pure_move (tm rfl)) ?_
        refine .gp rfl rfl rfl (by assumption) (pure_gtr (tm rfl) ev_int) ?_
        refine .p rfl (pure_pickF (tm rfl) (by assumption) (tm rfl)) ?_
        refine .nil ?_
        exact ⟨rfl, sub_b rfl (by (congr 1; exact decide_eq_false (by omega))) (sub_c rfl sub_n), rfl⟩
    · refine AWP.sub [(15, _), (6, _)] (sub_c rfl (sub_c rfl sub_n)) ?_
      refine AWP.cond_false (tm rfl) (by rfl) ?_
      refine .skip ?_
      refine Block.go ?_
      refine Next.go ?_
      refine Round.mk (J := plain_J s b6 H) ⟨p + 1, by omega, rfl, by rw [Heap.set_set], rfl⟩ (sub_c rfl sub_n) (Heap.le.refl _) (by omega)
  · try simp only [decide_eq_false_iff_not] at hc8
    obtain ⟨rfl, rfl⟩ := hm7 (by omega)
    refine .exit ?_
    refine Next.ex ?_
    refine Next.ex ?_
    refine Block.hit ?_
    refine Next.go ?_
    refine .sr ?_
    refine .p rfl (pure_assign ev_bool) ?_
    refine .ng ?_
    refine .ret ?_
    refine Ret.go (.cons (.tmp _ _ rfl) .nil) _ (Heap.le_set hb6 _) ?_
    exact ⟨rfl, rfl⟩

set_option maxRecDepth 100000 in
theorem Right_calls (neg : Bool) (ds : List UInt8) (e : Int) (hd : Digs ds) (H : Heap) : ACall Tryz.prog 60 [dA neg ds e] H (fun y H' => y = .bool (rightB ds e) ∧ H' = H) := by
  refine ACall.of_body Tryz.func60 rfl Tryz.ntmps60 Tryz.results60 rfl ?_
  refine .sr ?_
  refine .e rfl (step_boxI (tm rfl) (.inr ⟨_, rfl⟩)) ?_
  refine .p rfl (pure_assign ev_bool) ?_
  refine .ng ?_
  refine .seq ?_
  refine .sr ?_
  refine .p rfl (pure_fieldI Tryz.underlying48 rfl Tryz.sizeOf9 (tm rfl)) ?_
  refine .p rfl (pure_load1 Tryz.isAgg9 (tm rfl)) ?_
  refine .p rfl (pure_eqlStr (tm rfl) (ev_str rfl)) ?_
  refine .ng ?_
  refine AWP.cond (tm rfl) (fun hc5 => ?_) (fun hc5 => ?_)
  · try simp only [decide_eq_true_eq] at hc5
    refine .sr ?_
    refine .p rfl (pure_fieldI Tryz.underlying48 rfl Tryz.sizeOf3 (tm rfl)) ?_
    refine .p rfl (pure_load1 Tryz.isAgg3 (tm rfl)) ?_
    refine .p rfl (pure_eql (tm rfl) ev_int) ?_
    refine .as rfl rfl ?_
    refine .ng ?_
    refine .ret ?_
    refine Next.rt ?_
    refine Ret.go (.cons (.tmp _ _ rfl) .nil) _ (Heap.le.refl _) ?_
    refine ⟨?_, rfl⟩
    unfold rightB
    rw [if_pos hc5]; rfl
  · try simp only [decide_eq_false_iff_not] at hc5
    have hlp : 0 < ds.length := List.length_pos_iff.2 hc5
    have hsuf := (suffix_48 hlp).trans (byte_eq (b := ds.getD (ds.length - 1) 0) 48 (by decide)).symm
    refine .skip ?_
    refine Next.go ?_
    refine AWP.seqTo 2 (.bool (decide ((ds.length : Int) ≤ 1100) && decide (-100000 ≤ e) && decide (e ≤ 100000) && true && decide (((ds.getD 0 0).toNat : Int) ≠ 48) && !(Lib.hasSuffix ds [48]))) [] ?_ ?_
    · -- region 3
      refine .region ?_
      refine .p rfl (pure_fieldI Tryz.underlying48 rfl Tryz.sizeOf9 (tm rfl)) ?_
      refine .p rfl (pure_load1 Tryz.isAgg9 (tm rfl)) ?_
      refine .p rfl (pure_lenStr Tryz.underlying9 (tm rfl)) ?_
      refine .p rfl (pure_leq (tm rfl) ev_int) ?_
      refine .mv rfl rfl ?_
      refine bool_casesL (t := 13) rfl (fun hg13 => ?_) (fun hg13 => ?_)
      · have hh13 := hg13; try simp only [decide_eq_true_eq] at hh13
        refine .gp rfl rfl rfl (by assumption) (pure_fieldI Tryz.underlying48 rfl Tryz.sizeOf3 (tm rfl)) ?_
        refine .gp rfl rfl rfl (by assumption) (pure_load1 Tryz.isAgg3 (tm rfl)) ?_
        refine .gp rfl rfl rfl (by assumption) (pure_geq (tm rfl) ev_int) ?_
        refine .p rfl (pure_pickT (tm rfl) (by assumption) (tm rfl)) ?_
        refine .mv rfl rfl ?_
        refine bool_casesL (t := 18) rfl (fun hg18 => ?_) (fun hg18 => ?_)
        · have hh18 := hg18; try simp only [decide_eq_true_eq] at hh18
          refine .gp rfl rfl rfl (by assumption) (pure_fieldI Tryz.underlying48 rfl Tryz.sizeOf3 (tm rfl)) ?_
          refine .gp rfl rfl rfl (by assumption) (pure_load1 Tryz.isAgg3 (tm rfl)) ?_
          refine .gp rfl rfl rfl (by assumption) (pure_leq (tm rfl) ev_int) ?_
          refine .p rfl (pure_pickT (tm rfl) (by assumption) (tm rfl)) ?_
          refine .mv rfl rfl ?_
          refine bool_casesL (t := 23) rfl (fun hg23 => ?_) (fun hg23 => ?_)
          · have hh23 := hg23; try simp only [decide_eq_true_eq] at hh23
            refine .gp rfl rfl rfl (by assumption) (pure_fieldI Tryz.underlying48 rfl Tryz.sizeOf9 (tm rfl)) ?_
            refine .gp rfl rfl rfl (by assumption) (pure_load1 Tryz.isAgg9 (tm rfl)) ?_
            refine .gs rfl rfl rfl (by assumption) (step_call0 Tryz.call67 (evs1 rfl) (plain_calls _ hd _)) ?_
            rintro _ _ ⟨rfl, hH⟩
            obtain rfl := hH.symm
            refine .p rfl (pure_pickT (tm rfl) (by assumption) (tm rfl)) ?_
            refine .mv rfl rfl ?_
            refine bool_casesL (t := 28) rfl (fun hg28 => ?_) (fun hg28 => ?_)
            · have hh28 := hg28; try simp only [] at hh28
              refine .gp rfl rfl rfl (by rfl) (pure_fieldI Tryz.underlying48 rfl Tryz.sizeOf9 (tm rfl)) ?_
              refine .gp rfl rfl rfl (by rfl) (pure_load1 Tryz.isAgg9 (tm rfl)) ?_
              refine .gp rfl rfl rfl (by rfl) (pure_indexStr Tryz.underlying9 (tm rfl) ev_int (by omega) (by omega)) ?_
              refine .gp rfl rfl rfl (by rfl) (pure_neq (tm rfl) ev_int) ?_
              refine .p rfl (pure_pickT (tm rfl) (by rfl) (tm rfl)) ?_
              refine .mv rfl rfl ?_
              refine bool_casesL (t := 34) rfl (fun hg34 => ?_) (fun hg34 => ?_)
              · have hh34 := hg34; try simp only [decide_eq_true_eq, ne_eq] at hh34
                refine .gp rfl rfl rfl (by assumption) (pure_fieldI Tryz.underlying48 rfl Tryz.sizeOf9 (tm rfl)) ?_
                refine .gp rfl rfl rfl (by assumption) (pure_load1 Tryz.isAgg9 (tm rfl)) ?_
                refine .gs rfl rfl rfl (by assumption) (step_call0 Tryz.call94 (.cons (tm rfl) (.cons (ev_str rfl) .nil)) (hasSuffixA _ _ _)) ?_
                rintro _ _ ⟨rfl, hH⟩
                obtain rfl := hH.symm
                refine .gp rfl rfl rfl (by assumption) (pure_not (tm rfl)) ?_
                refine .p rfl (pure_pickT (tm rfl) (by assumption) (tm rfl)) ?_
                refine .as rfl rfl ?_
                refine .nil ?_
                exact ⟨rfl, sub_b rfl (by simp_all) sub_n, rfl⟩
              · have hh34 := hg34; try simp only [decide_eq_false_iff_not, ne_eq, Decidable.not_not] at hh34
                refine .gn rfl rfl rfl (by assumption) ?_
                refine .gn rfl rfl rfl (by assumption) ?_
                refine .gn rfl rfl rfl (by assumption) ?_
                refine .gn rfl rfl rfl (by assumption) ?_
                refine .p rfl (pure_pickF (tm rfl) (by assumption) ev_bool) ?_
                refine .as rfl rfl ?_
                refine .nil ?_
                exact ⟨rfl, sub_b rfl (by simp_all) sub_n, rfl⟩
            · have hh28 := hg28; try simp only [decide_eq_true_eq, decide_eq_false_iff_not, Bool.not_eq_true', Bool.not_eq_false', Int.not_lt, Int.not_le, ne_eq, Decidable.not_not] at hh28
              refine .gn rfl rfl rfl (by assumption) ?_
              refine .gn rfl rfl rfl (by assumption) ?_
              refine .gn rfl rfl rfl (by assumption) ?_
              refine .gn rfl rfl rfl (by assumption) ?_
              refine .p rfl (pure_pickF (tm rfl) (by assumption) ev_bool) ?_
              refine .mv rfl rfl ?_
              refine .gn rfl rfl rfl (by rfl) ?_
              refine .gn rfl rfl rfl (by rfl) ?_
              refine .gn rfl rfl rfl (by rfl) ?_
              refine .gn rfl rfl rfl (by rfl) ?_
              refine .p rfl (pure_pickF (tm rfl) (by rfl) ev_bool) ?_
              refine .as rfl rfl ?_
              refine .nil ?_
              exact ⟨rfl, sub_b rfl (by (simp [*]; done)) sub_n, rfl⟩
          · have hh23 := hg23; try simp only [decide_eq_false_iff_not, Int.not_le] at hh23
            refine .gn rfl rfl rfl (by assumption) ?_
            refine .gn rfl rfl rfl (by assumption) ?_
            refine .gn rfl rfl rfl (by assumption) ?_
            refine .p rfl (pure_pickF (tm rfl) (by assumption) ev_bool) ?_
            refine .mv rfl rfl ?_
            refine .gn rfl rfl rfl (by rfl) ?_
            refine .gn rfl rfl rfl (by rfl) ?_
            refine .gn rfl rfl rfl (by rfl) ?_
            refine .gn rfl rfl rfl (by rfl) ?_
            refine .p rfl (pure_pickF (tm rfl) (by rfl) ev_bool) ?_
            refine .mv rfl rfl ?_
            refine .gn rfl rfl rfl (by rfl) ?_
            refine .gn rfl rfl rfl (by rfl) ?_
            refine .gn rfl rfl rfl (by rfl) ?_
            refine .gn rfl rfl rfl (by rfl) ?_
            refine .p rfl (pure_pickF (tm rfl) (by rfl) ev_bool) ?_
            refine .as rfl rfl ?_
            refine .nil ?_
            exact ⟨rfl, sub_b rfl (by (simp [*]; done)) sub_n, rfl⟩
        · have hh18 := hg18; try simp only [decide_eq_false_iff_not, Int.not_le] at hh18
          refine .gn rfl rfl rfl (by assumption) ?_
          refine .gn rfl rfl rfl (by assumption) ?_
          refine .gn rfl rfl rfl (by assumption) ?_
          refine .p rfl (pure_pickF (tm rfl) (by assumption) ev_bool) ?_
          refine .mv rfl rfl ?_
          refine .gn rfl rfl rfl (by rfl) ?_
          refine .gn rfl rfl rfl (by rfl) ?_
          refine .gn rfl rfl rfl (by rfl) ?_
          refine .p rfl (pure_pickF (tm rfl) (by rfl) ev_bool) ?_
          refine .mv rfl rfl ?_
          refine .gn rfl rfl rfl (by rfl) ?_
          refine .gn rfl rfl rfl (by rfl) ?_
          refine .gn rfl rfl rfl (by rfl) ?_
          refine .gn rfl rfl rfl (by rfl) ?_
          refine .p rfl (pure_pickF (tm rfl) (by rfl) ev_bool) ?_
          refine .mv rfl rfl ?_
          refine .gn rfl rfl rfl (by rfl) ?_
          refine .gn rfl rfl rfl (by rfl) ?_
          refine .gn rfl rfl rfl (by rfl) ?_
          refine .gn rfl rfl rfl (by rfl) ?_
          refine .p rfl (pure_pickF (tm rfl) (by rfl) ev_bool) ?_
          refine .as rfl rfl ?_
          refine .nil ?_
          exact ⟨rfl, sub_b rfl (by (simp [*]; done)) sub_n, rfl⟩
      · have hh13 := hg13; try simp only [decide_eq_false_iff_not, Int.not_le] at hh13
        refine .gn rfl rfl rfl (by assumption) ?_
        refine .gn rfl rfl rfl (by assumption) ?_
        refine .gn rfl rfl rfl (by assumption) ?_
        refine .p rfl (pure_pickF (tm rfl) (by assumption) ev_bool) ?_
        refine .mv rfl rfl ?_
        refine .gn rfl rfl rfl (by rfl) ?_
        refine .gn rfl rfl rfl (by rfl) ?_
        refine .gn rfl rfl rfl (by rfl) ?_
        refine .p rfl (pure_pickF (tm rfl) (by rfl) ev_bool) ?_
        refine .mv rfl rfl ?_
        refine .gn rfl rfl rfl (by rfl) ?_
        refine .gn rfl rfl rfl (by rfl) ?_
        refine .gn rfl rfl rfl (by rfl) ?_
        refine .p rfl (pure_pickF (tm rfl) (by rfl) ev_bool) ?_
        refine .mv rfl rfl ?_
        refine .gn rfl rfl rfl (by rfl) ?_
        refine .gn rfl rfl rfl (by rfl) ?_
        refine .gn rfl rfl rfl (by rfl) ?_
        refine .gn rfl rfl rfl (by rfl) ?_
        refine .p rfl (pure_pickF (tm rfl) (by rfl) ev_bool) ?_
        refine .mv rfl rfl ?_
        refine .gn rfl rfl rfl (by rfl) ?_
        refine .gn rfl rfl rfl (by rfl) ?_
        refine .gn rfl rfl rfl (by rfl) ?_
        refine .gn rfl rfl rfl (by rfl) ?_
        refine .p rfl (pure_pickF (tm rfl) (by rfl) ev_bool) ?_
        refine .as rfl rfl ?_
        refine .nil ?_
        exact ⟨rfl, sub_b rfl (by (simp [*]; done)) sub_n, rfl⟩
    · refine AWP.sub [(2, _)] (sub_c rfl sub_n) ?_
      refine .ret ?_
      refine Ret.go (.cons (.tmp _ _ rfl) .nil) _ (Heap.le.refl _) ?_
      refine ⟨?_, rfl⟩
      simp only [packed]
      rw [rightC_eq hc5, digB_iff.2 hd, hsuf, Bool.and_true, Bool.and_true]; rfl

def pointD (ds : List UInt8) (e : Int) : Int := if rightB ds e then (ds.length : Int) + e else 0
theorem rightC_not (ds : List UInt8) (e : Int) : (decide ((1100 : Int) < (ds.length : Int)) || decide (e < -100000) || decide ((100000 : Int) < e) || decide (((ds.getD 0 0).toNat : Int) = 48) || decide (((ds.getD (ds.length - 1) 0).toNat : Int) = 48)) = !rightC ds e := by
  unfold rightC
  rw [show decide ((1100 : Int) < (ds.length : Int)) = !decide ((ds.length : Int) ≤ 1100) by rw [← decide_not]; exact decide_eq_decide.2 (by omega),
    show decide (e < -100000) = !decide (-100000 ≤ e) by rw [← decide_not]; exact decide_eq_decide.2 (by omega), show decide ((100000 : Int) < e) = !decide (e ≤ 100000) by rw [← decide_not]; exact decide_eq_decide.2 (by omega),
    show decide (((ds.getD 0 0).toNat : Int) ≠ 48) = !decide (((ds.getD 0 0).toNat : Int) = 48) from decide_not]
  generalize decide ((ds.length : Int) ≤ 1100) = a1
  generalize decide (-100000 ≤ e) = a2
  generalize decide (e ≤ 100000) = a3
  generalize decide (((ds.getD 0 0).toNat : Int) = 48) = a5
  generalize decide (((ds.getD (ds.length - 1) 0).toNat : Int) = 48) = a6
  cases a1 <;> cases a2 <;> cases a3 <;> cases a5 <;> cases a6 <;> rfl

set_option maxRecDepth 100000 in
theorem Point_calls (neg : Bool) (ds : List UInt8) (e : Int) (hd : Digs ds) (H : Heap) : ACall Tryz.prog 43 [dA neg ds e] H (fun y H' => y = .int .i64 (pointD ds e) ∧ H' = H) := by
  refine ACall.of_body Tryz.func43 rfl Tryz.ntmps43 Tryz.results43 rfl ?_
  refine .sr ?_
  refine .e rfl (step_boxI (tm rfl) (.inr ⟨_, rfl⟩)) ?_
  refine .p rfl (pure_assign ev_int) ?_
  refine .ng ?_
  refine .seq ?_
  refine .sr ?_
  refine .p rfl (pure_loadN Tryz.isAgg48 Tryz.sizeOf48 (tm rfl) (Nat.le_of_ble_eq_true rfl)) ?_
  refine .cl rfl Tryz.call60 (evs1 rfl) (Right_calls neg ds e hd _) ?_
  refine .p rfl (pure_not (tm rfl)) ?_
  refine .ng ?_
  refine AWP.cond (tm rfl) (fun hc5 => ?_) (fun hc5 => ?_)
  · try simp only [Bool.not_eq_true'] at hc5
    refine .sr ?_
    refine .p rfl (pure_assign ev_int) ?_
    refine .ng ?_
    refine .ret ?_
    refine Next.rt ?_
    refine Ret.go (.cons (.tmp _ _ rfl) .nil) _ (Heap.le.refl _) ?_
    refine ⟨?_, rfl⟩
    unfold pointD
    rw [if_neg (by simp [hc5])]; rfl
  · try simp only [Bool.not_eq_false'] at hc5
    have hrl := rightB_len (show rightB ds e = true from by simpa using hc5)
    refine .skip ?_
    refine Next.go ?_
    refine .sr ?_
    refine .p rfl (pure_fieldI Tryz.underlying48 rfl Tryz.sizeOf9 (tm rfl)) ?_
    refine .p rfl (pure_load1 Tryz.isAgg9 (tm rfl)) ?_
    refine .p rfl (pure_lenStr Tryz.underlying9 (tm rfl)) ?_
    refine .p rfl (pure_fieldI Tryz.underlying48 rfl Tryz.sizeOf3 (tm rfl)) ?_
    refine .p rfl (pure_load1 Tryz.isAgg3 (tm rfl)) ?_
    refine .p rfl (pure_add (tm rfl) (tm rfl) (by omega)) ?_
    refine .as rfl rfl ?_
    refine .ng ?_
    refine .ret ?_
    refine Ret.go (.cons (.tmp _ _ rfl) .nil) _ (Heap.le.refl _) ?_
    refine ⟨?_, rfl⟩
    unfold pointD
    rw [if_pos (by simpa using hc5)]; rfl

set_option maxRecDepth 100000 in
theorem rdigit_calls (b : UInt8) (H : Heap) : ACall Tryz.prog 58 [.int .u8 ((b.toNat : Nat) : Int)] H (fun y H' => y = .bool (digC b) ∧ H' = H) := by
  refine ACall.of_body Tryz.func58 rfl Tryz.ntmps58 Tryz.results58 rfl ?_
  refine .sr ?_
  refine .p rfl (pure_assign ev_bool) ?_
  refine .ng ?_
  refine AWP.seqTo 2 (.bool (digC b)) [] ?_ ?_
  · -- region 1
    refine .region ?_
    refine .mv rfl rfl ?_
    refine .p rfl (pure_geq (tm rfl) ev_int) ?_
    refine .mv rfl rfl ?_
    refine bool_casesL (t := 5) rfl (fun hg5 => ?_) (fun hg5 => ?_)
    · have hh5 := hg5; try simp only [decide_eq_true_eq] at hh5
      refine .gp rfl rfl rfl (by assumption) (pure_move (tm rfl)) ?_
      refine .gp rfl rfl rfl (by assumption) (pure_leq (tm rfl) ev_int) ?_
      refine .p rfl (pure_pickT (tm rfl) (by assumption) (tm rfl)) ?_
      refine .as rfl rfl ?_
      refine .nil ?_
      exact ⟨rfl, sub_b rfl (by (unfold digC; rw [show decide ((48 : Int) ≤ ((b.toNat : Nat) : Int)) = _ from hg5]; rfl)) sub_n, rfl⟩
    · have hh5 := hg5; try simp only [decide_eq_false_iff_not, Int.not_le] at hh5
      refine .gn rfl rfl rfl (by assumption) ?_
      refine .gn rfl rfl rfl (by assumption) ?_
      refine .p rfl (pure_pickF (tm rfl) (by assumption) ev_bool) ?_
      refine .as rfl rfl ?_
      refine .nil ?_
      exact ⟨rfl, sub_b rfl (by (unfold digC; rw [show decide ((48 : Int) ≤ ((b.toNat : Nat) : Int)) = _ from hg5]; rfl)) sub_n, rfl⟩
  · refine AWP.sub [(2, _)] (sub_c rfl sub_n) ?_
    refine .ret ?_
    refine Ret.go (.cons (.tmp _ _ rfl) .nil) _ (Heap.le.refl _) ?_
    exact ⟨rfl, rfl⟩

def rRight_J (neg : Bool) (ds : List UInt8) (e : Int) (H : Heap) : Nat → Env → Heap → Prop := fun k env H1 => ∃ i : Nat, i ≤ ds.length ∧ digB (ds.take i) = true ∧ env = [(1, .iptr [.bool neg, .str ds, .int .i64 e]), (3, .int .i64 (ds.length : Int)), (4, .int .i64 (i : Int))] ∧ H = H1 ∧ k = ds.length - i

set_option maxRecDepth 100000 in
theorem rRight_calls (neg : Bool) (ds : List UInt8) (e : Int) (hl : ds.length ≤ maxLen) (H : Heap) : ACall Tryz.prog 19 [dA neg ds e] H (fun y H' => y = .bool (rightB ds e) ∧ H' = H) := by
  rw [maxLen_eq] at hl
  refine ACall.of_body Tryz.func19 rfl Tryz.ntmps19 Tryz.results19 rfl ?_
  refine .sr ?_
  refine .e rfl (step_boxI (tm rfl) (.inr ⟨_, rfl⟩)) ?_
  refine .p rfl (pure_assign ev_bool) ?_
  refine .nr ?_
  refine .p rfl (pure_fieldI Tryz.underlying48 rfl Tryz.sizeOf9 (tm rfl)) ?_
  refine .p rfl (pure_load1 Tryz.isAgg9 (tm rfl)) ?_
  refine .p rfl (pure_lenStr Tryz.underlying9 (tm rfl)) ?_
  refine .as rfl rfl ?_
  refine .ng ?_
  refine .seq ?_
  refine .sr ?_
  refine .mv rfl rfl ?_
  refine .p rfl (pure_eql (tm rfl) ev_int) ?_
  refine .ng ?_
  refine AWP.cond (tm rfl) (fun hc10 => ?_) (fun hc10 => ?_)
  · try simp only [decide_eq_true_eq] at hc10
    refine .sr ?_
    refine .p rfl (pure_fieldI Tryz.underlying48 rfl Tryz.sizeOf3 (tm rfl)) ?_
    refine .p rfl (pure_load1 Tryz.isAgg3 (tm rfl)) ?_
    refine .p rfl (pure_eql (tm rfl) ev_int) ?_
    refine .as rfl rfl ?_
    refine .ng ?_
    refine .ret ?_
    refine Next.rt ?_
    refine Ret.go (.cons (.tmp _ _ rfl) .nil) _ (Heap.le.refl _) ?_
    refine ⟨?_, rfl⟩
    have h0 : ds = [] := List.length_eq_zero_iff.1 (by omega)
    unfold rightB
    rw [if_pos h0]; rfl
  · try simp only [decide_eq_false_iff_not] at hc10
    have hlp : 0 < ds.length := by omega
    have hne := List.length_pos_iff.1 hlp
    have hrq := rightC_eq (e := e) hne
    have hrn := rightC_not ds e
    refine .skip ?_
    refine Next.go ?_
    refine .seq ?_
    refine AWP.seqTo 39 (.bool ((decide ((1100 : Int) < (ds.length : Int)) || decide (e < -100000) || decide ((100000 : Int) < e) || decide (((ds.getD 0 0).toNat : Int) = 48) || decide (((ds.getD (ds.length - 1) 0).toNat : Int) = 48)))) [1, 2, 3] ?_ ?_
    · -- region 4
      refine .region ?_
      refine .mv rfl rfl ?_
      refine .p rfl (pure_gtr (tm rfl) ev_int) ?_
      refine .mv rfl rfl ?_
      refine bool_casesL (t := 16) rfl (fun hg16 => ?_) (fun hg16 => ?_)
      · have hh16 := hg16; try simp only [decide_eq_true_eq] at hh16
        refine .gn rfl rfl rfl (by assumption) ?_
        refine .gn rfl rfl rfl (by assumption) ?_
        refine .gn rfl rfl rfl (by assumption) ?_
        refine .p rfl (pure_pickT (tm rfl) (by assumption) ev_bool) ?_
        refine .mv rfl rfl ?_
        refine .gn rfl rfl rfl (by rfl) ?_
        refine .gn rfl rfl rfl (by rfl) ?_
        refine .gn rfl rfl rfl (by rfl) ?_
        refine .p rfl (pure_pickT (tm rfl) (by rfl) ev_bool) ?_
        refine .mv rfl rfl ?_
        refine .gn rfl rfl rfl (by rfl) ?_
        refine .gn rfl rfl rfl (by rfl) ?_
        refine .gn rfl rfl rfl (by rfl) ?_
        refine .gn rfl rfl rfl (by rfl) ?_
        refine .p rfl (pure_pickT (tm rfl) (by rfl) ev_bool) ?_
        refine .mv rfl rfl ?_
        refine .gn rfl rfl rfl (by rfl) ?_
        refine .gn rfl rfl rfl (by rfl) ?_
        refine .gn rfl rfl rfl (by rfl) ?_
        refine .gn rfl rfl rfl (by rfl) ?_
        refine .gn rfl rfl rfl (by rfl) ?_
        refine .gn rfl rfl rfl (by rfl) ?_
        refine .p rfl (pure_pickT (tm rfl) (by rfl) ev_bool) ?_
        refine .nil ?_
        exact ⟨rfl, sub_b rfl (by (rw [show decide ((1100 : Int) < (ds.length : Int)) = _ from hg16]; rfl)) (sub_c rfl (sub_c rfl (sub_c rfl sub_n))), rfl⟩
      · have hh16 := hg16; try simp only [decide_eq_false_iff_not, Int.not_lt] at hh16
        refine .gp rfl rfl rfl (by assumption) (pure_fieldI Tryz.underlying48 rfl Tryz.sizeOf3 (tm rfl)) ?_
        refine .gp rfl rfl rfl (by assumption) (pure_load1 Tryz.isAgg3 (tm rfl)) ?_
        refine .gp rfl rfl rfl (by assumption) (pure_lss (tm rfl) ev_int) ?_
        refine .p rfl (pure_pickF (tm rfl) (by assumption) (tm rfl)) ?_
        refine .mv rfl rfl ?_
        refine bool_casesL (t := 21) rfl (fun hg21 => ?_) (fun hg21 => ?_)
        · have hh21 := hg21; try simp only [decide_eq_true_eq] at hh21
          refine .gn rfl rfl rfl (by assumption) ?_
          refine .gn rfl rfl rfl (by assumption) ?_
          refine .gn rfl rfl rfl (by assumption) ?_
          refine .p rfl (pure_pickT (tm rfl) (by assumption) ev_bool) ?_
          refine .mv rfl rfl ?_
          refine .gn rfl rfl rfl (by rfl) ?_
          refine .gn rfl rfl rfl (by rfl) ?_
          refine .gn rfl rfl rfl (by rfl) ?_
          refine .gn rfl rfl rfl (by rfl) ?_
          refine .p rfl (pure_pickT (tm rfl) (by rfl) ev_bool) ?_
          refine .mv rfl rfl ?_
          refine .gn rfl rfl rfl (by rfl) ?_
          refine .gn rfl rfl rfl (by rfl) ?_
          refine .gn rfl rfl rfl (by rfl) ?_
          refine .gn rfl rfl rfl (by rfl) ?_
          refine .gn rfl rfl rfl (by rfl) ?_
          refine .gn rfl rfl rfl (by rfl) ?_
          refine .p rfl (pure_pickT (tm rfl) (by rfl) ev_bool) ?_
          refine .nil ?_
          exact ⟨rfl, sub_b rfl (by (rw [show decide ((1100 : Int) < (ds.length : Int)) = _ from hg16, show decide (e < -100000) = _ from hg21]; rfl)) (sub_c rfl (sub_c rfl (sub_c rfl sub_n))), rfl⟩
        · have hh21 := hg21; try simp only [decide_eq_false_iff_not, Int.not_lt] at hh21
          refine .gp rfl rfl rfl (by assumption) (pure_fieldI Tryz.underlying48 rfl Tryz.sizeOf3 (tm rfl)) ?_
          refine .gp rfl rfl rfl (by assumption) (pure_load1 Tryz.isAgg3 (tm rfl)) ?_
          refine .gp rfl rfl rfl (by assumption) (pure_gtr (tm rfl) ev_int) ?_
          refine .p rfl (pure_pickF (tm rfl) (by assumption) (tm rfl)) ?_
          refine .mv rfl rfl ?_
          refine bool_casesL (t := 26) rfl (fun hg26 => ?_) (fun hg26 => ?_)
          · have hh26 := hg26; try simp only [decide_eq_true_eq] at hh26
            refine .gn rfl rfl rfl (by assumption) ?_
            refine .gn rfl rfl rfl (by assumption) ?_
            refine .gn rfl rfl rfl (by assumption) ?_
            refine .gn rfl rfl rfl (by assumption) ?_
            refine .p rfl (pure_pickT (tm rfl) (by assumption) ev_bool) ?_
            refine .mv rfl rfl ?_
            refine .gn rfl rfl rfl (by rfl) ?_
            refine .gn rfl rfl rfl (by rfl) ?_
            refine .gn rfl rfl rfl (by rfl) ?_
            refine .gn rfl rfl rfl (by rfl) ?_
            refine .gn rfl rfl rfl (by rfl) ?_
            refine .gn rfl rfl rfl (by rfl) ?_
            refine .p rfl (pure_pickT (tm rfl) (by rfl) ev_bool) ?_
            refine .nil ?_
            exact ⟨rfl, sub_b rfl (by (rw [show decide ((1100 : Int) < (ds.length : Int)) = _ from hg16, show decide (e < -100000) = _ from hg21, show decide ((100000 : Int) < e) = _ from hg26]; rfl)) (sub_c rfl (sub_c rfl (sub_c rfl sub_n))), rfl⟩
          · have hh26 := hg26; try simp only [decide_eq_false_iff_not, Int.not_lt] at hh26
            refine .gp rfl rfl rfl (by assumption) (pure_fieldI Tryz.underlying48 rfl Tryz.sizeOf9 (tm rfl)) ?_
            refine .gp rfl rfl rfl (by assumption) (pure_load1 Tryz.isAgg9 (tm rfl)) ?_
            refine .gp rfl rfl rfl (by assumption) (pure_indexStr Tryz.underlying9 (tm rfl) ev_int (by omega) (by omega)) ?_
            refine .gp rfl rfl rfl (by assumption) (pure_eql (tm rfl) ev_int) ?_
            refine .p rfl (pure_pickF (tm rfl) (by assumption) (tm rfl)) ?_
            refine .mv rfl rfl ?_
            refine bool_casesL (t := 32) rfl (fun hg32 => ?_) (fun hg32 => ?_)
            · have hh32 := hg32; try simp only [decide_eq_true_eq] at hh32
              refine .gn rfl rfl rfl (by assumption) ?_
              refine .gn rfl rfl rfl (by assumption) ?_
              refine .gn rfl rfl rfl (by assumption) ?_
              refine .gn rfl rfl rfl (by assumption) ?_
              refine .gn rfl rfl rfl (by assumption) ?_
              refine .gn rfl rfl rfl (by assumption) ?_
              refine .p rfl (pure_pickT (tm rfl) (by assumption) ev_bool) ?_
              refine .nil ?_
              exact ⟨rfl, sub_b rfl (by (rw [show decide ((1100 : Int) < (ds.length : Int)) = _ from hg16, show decide (e < -100000) = _ from hg21, show decide ((100000 : Int) < e) = _ from hg26, show decide (((ds.getD 0 0).toNat : Int) = 48) = _ from hg32]; rfl)) (sub_c rfl (sub_c rfl (sub_c rfl sub_n))), rfl⟩
            · have hh32 := hg32; try simp only [decide_eq_false_iff_not] at hh32
              refine .gp rfl rfl rfl (by assumption) (pure_fieldI Tryz.underlying48 rfl Tryz.sizeOf9 (tm rfl)) ?_
              refine .gp rfl rfl rfl (by assumption) (pure_load1 Tryz.isAgg9 (tm rfl)) ?_
              refine .gp rfl rfl rfl (by assumption) (pure_move (tm rfl)) ?_
              refine .gp rfl rfl rfl (by assumption) (pure_sub (tm rfl) ev_int (by omega)) ?_
              refine .gp rfl rfl rfl (by assumption) (pure_indexStr Tryz.underlying9 (tm rfl) (tm rfl) (by omega) (by omega)) ?_
              refine .gp rfl rfl rfl (by assumption) (pure_eql (tm rfl) ev_int) ?_
              refine .p rfl (pure_pickF (tm rfl) (by assumption) (tm rfl)) ?_
              refine .nil ?_
              exact ⟨rfl, sub_b rfl (by (rw [show decide ((1100 : Int) < (ds.length : Int)) = _ from hg16, show decide (e < -100000) = _ from hg21, show decide ((100000 : Int) < e) = _ from hg26, show decide (((ds.getD 0 0).toNat : Int) = 48) = _ from hg32, show ((ds.length : Int) - 1).toNat = ds.length - 1 by omega]; rfl)) (sub_c rfl (sub_c rfl (sub_c rfl sub_n))), rfl⟩
    · refine AWP.sub [(39, _), (1, _), (2, _), (3, _)] (sub_c rfl (sub_c rfl (sub_c rfl (sub_c rfl sub_n)))) ?_
      refine AWP.cond (tm rfl) (fun hc39 => ?_) (fun hc39 => ?_)
      · try simp only [decide_eq_true_eq, decide_eq_false_iff_not, Bool.not_eq_true', Bool.not_eq_false', Int.not_lt, Int.not_le, ne_eq, Decidable.not_not] at hc39
        rw [hrn] at hc39
        have hrc : rightC ds e = false := by simpa using hc39
        refine .sr ?_
        refine .p rfl (pure_assign ev_bool) ?_
        refine .ng ?_
        refine .ret ?_
        refine Next.rt ?_
        refine Ret.go (.cons (.tmp _ _ rfl) .nil) _ (Heap.le.refl _) ?_
        refine ⟨?_, rfl⟩
        rw [hrq, hrc]; rfl
      · try simp only [decide_eq_true_eq, decide_eq_false_iff_not, Bool.not_eq_true', Bool.not_eq_false', Int.not_lt, Int.not_le, ne_eq, Decidable.not_not] at hc39
        rw [hrn] at hc39
        have hrc : rightC ds e = true := by simpa using hc39
        refine .skip ?_
        refine Next.go ?_
        refine .seq ?_
        refine .sr ?_
        refine .p rfl (pure_assign ev_int) ?_
        refine .ng ?_
        refine .block ?_
        refine AWP.loopW (rRight_J neg ds e H) (ds.length) ⟨0, Nat.zero_le _, rfl, rfl, rfl, rfl⟩ (sub_c rfl (sub_c rfl (sub_c rfl sub_n))) (Heap.le.refl _) ?_
        rintro _ _ _ ⟨i, hi, hdg, rfl, rfl, hk⟩
        refine .seq ?_
        refine .sr ?_
        refine .mv rfl rfl ?_
        refine .mv rfl rfl ?_
        refine .p rfl (pure_lss (tm rfl) (tm rfl)) ?_
        refine .ng ?_
        refine AWP.cond (tm rfl) (fun hc42 => ?_) (fun hc42 => ?_)
        · try simp only [decide_eq_true_eq] at hc42
          have hdt := digB_take (ds := ds) (by omega) hdg
          refine .skip ?_
          refine Next.go ?_
          refine .seq ?_
          refine .block ?_
          refine .sr ?_
          refine .p rfl (pure_fieldI Tryz.underlying48 rfl Tryz.sizeOf9 (tm rfl)) ?_
          refine .p rfl (pure_load1 Tryz.isAgg9 (tm rfl)) ?_
          refine .mv rfl rfl ?_
          refine .p rfl (pure_indexStr Tryz.underlying9 (tm rfl) (tm rfl) (by omega) (by omega)) ?_
          refine .cl rfl Tryz.call58 (evs1 rfl) (rdigit_calls _ _) ?_
          refine .as rfl rfl ?_
          refine .nr ?_
          refine .mv rfl rfl ?_
          refine .p rfl (pure_not (tm rfl)) ?_
          refine .ng ?_
          refine AWP.cond (tm rfl) (fun hc51 => ?_) (fun hc51 => ?_)
          · try simp only [Bool.not_eq_true'] at hc51
            have hdf : digC (ds.getD i 0) = false := by simpa using hc51
            refine .sr ?_
            refine .p rfl (pure_assign ev_bool) ?_
            refine .ng ?_
            refine .ret ?_
            refine Block.rt ?_
            refine Next.rt ?_
            refine Next.rt ?_
            refine Block.rt ?_
            refine Next.rt ?_
            refine Ret.go (.cons (.tmp _ _ rfl) .nil) _ (Heap.le.refl _) ?_
            refine ⟨?_, rfl⟩
            have hdb : digB ds = false := by
              cases h : digB ds with
              | false => rfl
              | true => have := digB_of_take (i := i + 1) h; rw [hdt, hdf] at this; cases this
            rw [hrq, hdb, Bool.and_false]; rfl
          · try simp only [Bool.not_eq_false'] at hc51
            have hdf : digC (ds.getD i 0) = true := by simpa using hc51
            refine .skip ?_
            refine Block.go ?_
            refine Next.go ?_
            refine .region ?_
            refine .mv rfl rfl ?_
            refine .p rfl (pure_add (tm rfl) ev_int (by omega)) ?_
            refine .as rfl rfl ?_
            refine .ng ?_
            refine Round.mk (J := rRight_J neg ds e H) ⟨i + 1, by omega, by rw [hdt, hdf], rfl, rfl, rfl⟩ (sub_c rfl (sub_c rfl (sub_c rfl sub_n))) (Heap.le.refl _) (by omega)
        · try simp only [decide_eq_false_iff_not, Int.not_lt] at hc42
          refine .exit ?_
          refine Next.ex ?_
          refine Next.ex ?_
          refine Block.hit ?_
          refine Next.go ?_
          refine .sr ?_
          refine .p rfl (pure_assign ev_bool) ?_
          refine .ng ?_
          refine .ret ?_
          refine Ret.go (.cons (.tmp _ _ rfl) .nil) _ (Heap.le.refl _) ?_
          refine ⟨?_, rfl⟩
          rw [List.take_of_length_le (by omega)] at hdg
          rw [hrq, hrc, hdg]; rfl

set_option maxRecDepth 100000 in
theorem rPoint_calls (neg : Bool) (ds : List UInt8) (e : Int) (hl : ds.length ≤ maxLen) (H : Heap) : ACall Tryz.prog 45 [dA neg ds e] H (fun y H' => y = .int .i64 (pointD ds e) ∧ H' = H) := by
  refine ACall.of_body Tryz.func45 rfl Tryz.ntmps45 Tryz.results45 rfl ?_
  refine .sr ?_
  refine .e rfl (step_boxI (tm rfl) (.inr ⟨_, rfl⟩)) ?_
  refine .p rfl (pure_assign ev_int) ?_
  refine .nr ?_
  refine .p rfl (pure_loadN Tryz.isAgg48 Tryz.sizeOf48 (tm rfl) (Nat.le_of_ble_eq_true rfl)) ?_
  refine .cl rfl Tryz.call19 (evs1 rfl) (rRight_calls neg ds e hl _) ?_
  refine .as rfl rfl ?_
  refine .ng ?_
  refine .seq ?_
  refine .sr ?_
  refine .mv rfl rfl ?_
  refine .p rfl (pure_not (tm rfl)) ?_
  refine .ng ?_
  refine AWP.cond (tm rfl) (fun hc7 => ?_) (fun hc7 => ?_)
  · try simp only [Bool.not_eq_true'] at hc7
    refine .sr ?_
    refine .p rfl (pure_assign ev_int) ?_
    refine .ng ?_
    refine .ret ?_
    refine Next.rt ?_
    refine Ret.go (.cons (.tmp _ _ rfl) .nil) _ (Heap.le.refl _) ?_
    refine ⟨?_, rfl⟩
    unfold pointD
    rw [if_neg (by simp [hc7])]; rfl
  · try simp only [Bool.not_eq_false'] at hc7
    have hrl := rightB_len (show rightB ds e = true from by simpa using hc7)
    refine .skip ?_
    refine Next.go ?_
    refine .sr ?_
    refine .p rfl (pure_fieldI Tryz.underlying48 rfl Tryz.sizeOf9 (tm rfl)) ?_
    refine .p rfl (pure_load1 Tryz.isAgg9 (tm rfl)) ?_
    refine .p rfl (pure_lenStr Tryz.underlying9 (tm rfl)) ?_
    refine .p rfl (pure_fieldI Tryz.underlying48 rfl Tryz.sizeOf3 (tm rfl)) ?_
    refine .p rfl (pure_load1 Tryz.isAgg3 (tm rfl)) ?_
    refine .p rfl (pure_add (tm rfl) (tm rfl) (by omega)) ?_
    refine .as rfl rfl ?_
    refine .ng ?_
    refine .ret ?_
    refine Ret.go (.cons (.tmp _ _ rfl) .nil) _ (Heap.le.refl _) ?_
    refine ⟨?_, rfl⟩
    unfold pointD
    rw [if_pos (by simpa using hc7)]; rfl

end Go.Proofs.YtfkeflcdadlmdaaGreatDoor

namespace Go.Proofs.YtfkeflcdadlmdaaGreatDoor
open Go Go.RowKit

theorem dropW_drop {l : List UInt8} {c : UInt8} {i : Nat} (hi : i ≤ l.length) (h1 : ∀ q, q < i → l.getD q 0 = c) (h2 : i < l.length → l.getD i 0 ≠ c) : l.dropWhile (· == c) = l.drop i := by
  induction l generalizing i with
  | nil => simp
  | cons x l ih =>
    cases i with
    | zero =>
      have := h2 (by simp)
      have hx : x ≠ c := by simpa using this
      rw [List.dropWhile_cons, if_neg (by simpa using hx), List.drop_zero]
    | succ i =>
      have h0 : x = c := by simpa using h1 0 (by omega)
      rw [List.dropWhile_cons, if_pos (by simpa using h0), List.drop_succ_cons]
      exact ih (by simpa using hi) (fun q hq => by simpa using h1 (q + 1) (by omega)) (fun hq => by simpa using h2 (by simpa using hq))
theorem trimR_take {l : List UInt8} {c : UInt8} {m : Nat} (hm : m ≤ l.length) (h1 : ∀ q, m ≤ q → q < l.length → l.getD q 0 = c) (h2 : 0 < m → l.getD (m - 1) 0 ≠ c) : Lib.trimRightB l c = l.take m := by
  unfold Lib.trimRightB
  have e : l.reverse.dropWhile (· == c) = l.reverse.drop (l.length - m) := by
    have hr : ∀ q, q < l.length → l.reverse.getD q 0 = l.getD (l.length - 1 - q) 0 := fun q hq => by
      rw [List.getD_eq_getElem?_getD, List.getD_eq_getElem?_getD, List.getElem?_reverse hq]
    refine dropW_drop (by simp) (fun q hq => ?_) (fun hq => ?_)
    · rw [hr q (by omega)]; exact h1 _ (by omega) (by omega)
    · rw [List.length_reverse] at hq
      rw [hr _ hq, show l.length - 1 - (l.length - m) = m - 1 by omega]; exact h2 (by omega)
  rw [e, List.drop_reverse, List.reverse_reverse, show l.length - (l.length - m) = m by omega]
theorem core_parts {ds : List UInt8} {i j : Nat} (hi : i ≤ ds.length) (hij : i ≤ j) (hj : j ≤ ds.length) (h1 : ∀ q, q < i → ds.getD q 0 = 48) (h2 : i < ds.length → ds.getD i 0 ≠ 48) (h3 : ∀ q, j ≤ q → q < ds.length → ds.getD q 0 = 48) (h4 : i < j → ds.getD (j - 1) 0 ≠ 48) :
    coreD ds = (ds.take j).drop i ∧ (coreD ds).length = j - i ∧ moreD ds = ds.length - j := by
  have e1 : longD ds = ds.drop i := dropW_drop hi h1 h2
  have hg : ∀ q, (ds.drop i).getD q 0 = ds.getD (i + q) 0 := fun q => by
    rw [List.getD_eq_getElem?_getD, List.getD_eq_getElem?_getD, List.getElem?_drop]
  have e2 : coreD ds = (ds.drop i).take (j - i) := by
    unfold coreD
    rw [e1]
    refine trimR_take (by simp; omega) (fun q hq hl => ?_) (fun hq => ?_)
    · rw [hg]; simp at hl; exact h3 _ (by omega) (by omega)
    · rw [hg, show i + (j - i - 1) = j - 1 by omega]; exact h4 (by omega)
  have e3 : coreD ds = (ds.take j).drop i := by rw [e2, List.drop_take]
  have e4 : (coreD ds).length = j - i := by rw [e2, List.length_take, List.length_drop]; omega
  refine ⟨e3, e4, ?_⟩
  unfold moreD
  rw [e4, e1, List.length_drop]; omega

set_option maxRecDepth 100000 in
theorem Make_calls (neg : Bool) (ds : List UInt8) (e : Int) (hd : Digs ds) (hl : ds.length ≤ 100000) (he : -1000000000000 ≤ e ∧ e ≤ 1000000000000) (H : Heap) : ACall Tryz.prog 34 [.bool neg, .str ds, .int .i64 e] H (fun y H' => y = dT (mkN neg ds e) ∧ H' = H) := by
  have hlo := dropW_len ds 48
  have hml := trimR_len (ds.dropWhile (· == 48)) 48
  have hmo : e + (((ds.dropWhile (· == 48)).length : Int) - ((Lib.trimRightB (ds.dropWhile (· == 48)) 48).length : Int)) = e + (moreD ds : Int) := by unfold moreD coreD longD; omega
  have hdc : Digs (Lib.trimRightB (ds.dropWhile (· == 48)) 48) := (hd.dropWhile _).trimR _
  refine ACall.of_body Tryz.func34 rfl Tryz.ntmps34 Tryz.results34 rfl ?_
  refine .sr ?_
  refine .s rfl (step_alloc Tryz.zeroValue48 (zr48)) ?_
  rintro _ _ ⟨b6, hb6, rfl, hH⟩
  obtain rfl := hH.symm
  refine .p rfl (pure_assign ev_int) ?_
  refine .ng ?_
  refine .seq ?_
  refine .sr ?_
  refine .mv rfl rfl ?_
  refine .cl rfl Tryz.call67 (evs1 rfl) (plain_calls ds hd _) ?_
  refine .p rfl (pure_not (tm rfl)) ?_
  refine .ng ?_
  refine AWP.cond_false (tm rfl) (by rfl) ?_
  refine .skip ?_
  refine Next.go ?_
  refine .sr ?_
  refine .mv rfl rfl ?_
  refine .cl rfl Tryz.call68 (.cons (tm rfl) (.cons (ev_str rfl) .nil)) (trimLeftA 48 (by decide) _ _) ?_
  refine .as rfl rfl ?_
  refine .nr ?_
  refine .mv rfl rfl ?_
  refine .mv rfl rfl ?_
  refine .cl rfl Tryz.call69 (.cons (tm rfl) (.cons (ev_str rfl) .nil)) (trimRightA 48 (by decide) _ _) ?_
  refine .p rfl (pure_build [(0, 1), (1, 1), (2, 1)] Tryz.underlying48 Tryz.zeroValue48 (zr48) rfl (pl48 _ Tryz.underlying48) (.cons (tm rfl) (.inl rfl) (.cons (tm rfl) (.inl rfl) .nil)) rfl) ?_
  refine .s rfl (step_alloc Tryz.zeroValue48 (zr48)) ?_
  rintro _ _ ⟨b9, hb9, rfl, hH⟩
  obtain rfl := hH.symm
  have hn6_9 := Heap.ne_of (Heap.objs_set_same _ _ _) hb9
  refine .e0 (step_store Tryz.sizeOf48 (tm rfl) (tm rfl) rfl rfl (.inr ⟨_, rfl⟩) (Heap.objs_set_same _ _ _) (Nat.le_of_ble_eq_true rfl)) ?_
  try first | rw [Heap.set_set] | rw [Heap.set_under (by assumption)]
  refine .ng ?_
  refine .seq ?_
  refine .sr ?_
  refine .p rfl (pure_field Tryz.underlying48 rfl Tryz.sizeOf9 (tm rfl)) ?_
  refine .e rfl (step_load1 Tryz.isAgg9 (tm rfl) (Heap.objs_set_same _ _ _) rfl) ?_
  refine .p rfl (pure_eqlStr (tm rfl) (ev_str rfl)) ?_
  refine .ng ?_
  refine AWP.cond (tm rfl) (fun hc22 => ?_) (fun hc22 => ?_)
  · try simp only [decide_eq_true_eq] at hc22
    refine .sr ?_
    refine .e rfl (step_loadN Tryz.isAgg48 Tryz.sizeOf48 (tm rfl) (Heap.objs_set_same _ _ _) (Nat.le_of_ble_eq_true rfl)) ?_
    refine .e0 (step_store Tryz.sizeOf48 (tm rfl) (tm rfl) rfl rfl (.inr ⟨_, rfl⟩) ((Heap.objs_set_ne _ _ (by assumption)).trans (Heap.objs_set_same _ _ _)) (Nat.le_of_ble_eq_true rfl)) ?_
    try first | rw [Heap.set_set] | rw [Heap.set_under (by assumption)]
    refine .p rfl (pure_assign ev_int) ?_
    refine .ng ?_
    refine AWP.dropb (Heap.fresh_set hb9 _) ?_
    refine AWP.frz (t := 6) rfl (hb6) ?_
    refine .ret ?_
    refine Next.rt ?_
    refine Ret.go (.cons (.cellI _ _ _ _ rfl Tryz.isAgg48 Tryz.sizeOf48 rfl) (.cons (.tmp _ _ rfl) .nil)) _ (Heap.le.refl _) ?_
    refine ⟨?_, rfl⟩
    unfold mkN
    rw [if_pos (show coreD ds = [] from hc22)]
    rw [show ds.dropWhile (· == 48) = longD ds from rfl, show Lib.trimRightB (longD ds) 48 = coreD ds from rfl, show coreD ds = [] from hc22]; rfl
  · try simp only [decide_eq_false_iff_not] at hc22
    refine .skip ?_
    refine Next.go ?_
    refine .seq ?_
    refine .sr ?_
    refine .mv rfl rfl ?_
    refine .p rfl (pure_field Tryz.underlying48 rfl Tryz.sizeOf3 (tm rfl)) ?_
    refine .e0 (step_store Tryz.sizeOf3 (tm rfl) (tm rfl) rfl rfl (.inl rfl) (Heap.objs_set_same _ _ _) (Nat.le_of_ble_eq_true rfl)) ?_
    try first | rw [Heap.set_set] | rw [Heap.set_under (by assumption)]
    refine .nr ?_
    refine .mv rfl rfl ?_
    refine .mv rfl rfl ?_
    refine .p rfl (pure_add (tm rfl) ev_int (by omega)) ?_
    refine .p rfl (pure_neg (tm rfl) (by omega)) ?_
    refine .p rfl (pure_max2 (tm rfl) (tm rfl)) ?_
    refine .p rfl (pure_lss (tm rfl) ev_int) ?_
    refine .ng ?_
    refine AWP.cond_true (tm rfl) (by exact decide_eq_true (by simp only [imax]; split <;> omega)) ?_
    refine .region ?_
    refine .p rfl (pure_field Tryz.underlying48 rfl Tryz.sizeOf3 (tm rfl)) ?_
    refine .e rfl (step_load1 Tryz.isAgg3 (tm rfl) (Heap.objs_set_same _ _ _) rfl) ?_
    refine .mv rfl rfl ?_
    refine .p rfl (pure_lenStr Tryz.underlying9 (tm rfl)) ?_
    refine .p rfl (pure_field Tryz.underlying48 rfl Tryz.sizeOf9 (tm rfl)) ?_
    refine .e rfl (step_load1 Tryz.isAgg9 (tm rfl) (Heap.objs_set_same _ _ _) rfl) ?_
    refine .p rfl (pure_lenStr Tryz.underlying9 (tm rfl)) ?_
    refine .p rfl (pure_sub (tm rfl) (tm rfl) (by omega)) ?_
    refine .p rfl (pure_add (tm rfl) (tm rfl) (by omega)) ?_
    refine .p rfl (pure_field Tryz.underlying48 rfl Tryz.sizeOf3 (tm rfl)) ?_
    refine .e0 (step_store Tryz.sizeOf3 (tm rfl) (tm rfl) rfl rfl (.inl rfl) (Heap.objs_set_same _ _ _) (Nat.le_of_ble_eq_true rfl)) ?_
    try first | rw [Heap.set_set] | rw [Heap.set_under (by assumption)]
    refine .ng ?_
    refine .seq ?_
    refine .seq ?_
    rw [hmo]
    refine .region ?_
    refine .e rfl (step_loadN Tryz.isAgg48 Tryz.sizeOf48 (tm rfl) (Heap.objs_set_same _ _ _) (Nat.le_of_ble_eq_true rfl)) ?_
    refine .cl rfl Tryz.call60 (evs1 rfl) (Right_calls neg _ _ hdc _) ?_
    refine .p rfl (pure_not (tm rfl)) ?_
    refine .ng ?_
    refine AWP.cond (tm rfl) (fun hc44 => ?_) (fun hc44 => ?_)
    · try simp only [Bool.not_eq_true'] at hc44
      refine .sr ?_
      refine .p rfl (pure_build [(0, 1), (1, 1), (2, 1)] Tryz.underlying48 Tryz.zeroValue48 (zr48) rfl (pl48 _ Tryz.underlying48) .nil rfl) ?_
      refine .e0 (step_store Tryz.sizeOf48 (tm rfl) (tm rfl) rfl rfl (.inr ⟨_, rfl⟩) ((Heap.objs_set_ne _ _ (by assumption)).trans (Heap.objs_set_same _ _ _)) (Nat.le_of_ble_eq_true rfl)) ?_
      try first | rw [Heap.set_set] | rw [Heap.set_under (by assumption)]
      refine .p rfl (pure_assign ev_int) ?_
      refine .ng ?_
      refine AWP.dropb (hb9) ?_
      refine AWP.frz (t := 6) rfl (hb6) ?_
      refine .ret ?_
      refine Next.rt ?_
      refine Ret.go (.cons (.cellI _ _ _ _ rfl Tryz.isAgg48 Tryz.sizeOf48 rfl) (.cons (.tmp _ _ rfl) .nil)) _ (Heap.le.refl _) ?_
      refine ⟨?_, rfl⟩
      have hr : rightB (coreD ds) (e + moreD ds) = false := by first | exact hc44 | exact (Bool.not_eq_false _).mp hc44 | (simp only [Bool.not_eq_true, Bool.not_eq_false] at hc44; exact hc44)
      rw [core_right hd hc22] at hr
      unfold mkN
      rw [if_neg (show ¬ coreD ds = [] from hc22), if_neg (by rintro ⟨q1, q2, q3⟩; simp [q1, q2, q3] at hr)]; rfl
    · try simp only [Bool.not_eq_false'] at hc44
      refine .skip ?_
      refine Next.go ?_
      refine .sr ?_
      refine .e rfl (step_loadN Tryz.isAgg48 Tryz.sizeOf48 (tm rfl) (Heap.objs_set_same _ _ _) (Nat.le_of_ble_eq_true rfl)) ?_
      refine .e0 (step_store Tryz.sizeOf48 (tm rfl) (tm rfl) rfl rfl (.inr ⟨_, rfl⟩) ((Heap.objs_set_ne _ _ (by assumption)).trans (Heap.objs_set_same _ _ _)) (Nat.le_of_ble_eq_true rfl)) ?_
      try first | rw [Heap.set_set] | rw [Heap.set_under (by assumption)]
      refine .p rfl (pure_assign ev_int) ?_
      refine .ng ?_
      refine AWP.dropb (Heap.fresh_set hb9 _) ?_
      refine AWP.frz (t := 6) rfl (hb6) ?_
      refine .ret ?_
      refine Ret.go (.cons (.cellI _ _ _ _ rfl Tryz.isAgg48 Tryz.sizeOf48 rfl) (.cons (.tmp _ _ rfl) .nil)) _ (Heap.le.refl _) ?_
      refine ⟨?_, rfl⟩
      have hr : rightB (coreD ds) (e + moreD ds) = true := by first | exact hc44 | exact (Bool.not_eq_false _).mp hc44 | (simp only [Bool.not_eq_true, Bool.not_eq_false] at hc44; exact hc44)
      rw [core_right hd hc22] at hr
      simp only [Bool.and_eq_true, decide_eq_true_eq] at hr
      unfold mkN
      rw [if_neg (show ¬ coreD ds = [] from hc22), if_pos ⟨hr.1.1, hr.1.2, hr.2⟩]; rfl

def rmk_J (neg : Bool) (ds : List UInt8) (e : Int) (b : Nat) (H : Heap) : Nat → Env → Heap → Prop := fun k env H1 => ∃ i : Nat, i ≤ ds.length ∧ env = [(0, .bool neg), (1, .str ds), (2, .int .i64 e), (6, .ptr (some ⟨b, 0, none⟩)), (8, .int .i64 (i : Int))] ∧ H1 = H.set b (.box 48 [.bool false, .str [], .int .i64 0]) ∧ k = ds.length - i

def rmkF_J (neg : Bool) (ds : List UInt8) (e : Int) (b : Nat) (H : Heap) : Nat → Env → Heap → Prop := fun k env H1 => ∃ i : Nat, i ≤ ds.length ∧ (∀ q, q < i → ds.getD q 0 = 48) ∧ env = [(0, .bool neg), (1, .str ds), (2, .int .i64 e), (6, .ptr (some ⟨b, 0, none⟩)), (10, .int .i64 (i : Int))] ∧ H1 = H.set b (.box 48 [.bool false, .str [], .int .i64 0]) ∧ k = ds.length - i

def rmkT_J (neg : Bool) (ds : List UInt8) (e : Int) (b i : Nat) (H : Heap) : Nat → Env → Heap → Prop := fun k env H1 => ∃ j : Nat, i ≤ j ∧ j ≤ ds.length ∧ (∀ q, j ≤ q → q < ds.length → ds.getD q 0 = 48) ∧ env = [(0, .bool neg), (1, .str ds), (2, .int .i64 e), (6, .ptr (some ⟨b, 0, none⟩)), (10, .int .i64 (i : Int)), (11, .int .i64 (j : Int)), (12, .int .i64 ((ds.length - j : Nat) : Int))] ∧ H1 = H.set b (.box 48 [.bool false, .str [], .int .i64 0]) ∧ k = j

theorem byte_48 {b : UInt8} : ((b.toNat : Nat) : Int) = 48 ↔ b = 48 := by
  have := byte_eq (b := b) 48 (by decide)
  exact decide_eq_decide.1 this

set_option maxRecDepth 100000 in
theorem rMake_calls (neg : Bool) (ds : List UInt8) (e : Int) (hd : Digs ds) (hl : ds.length ≤ 100000) (he : -1000000000000 ≤ e ∧ e ≤ 1000000000000) (H : Heap) : ACall Tryz.prog 41 [.bool neg, .str ds, .int .i64 e] H (fun y H' => y = dT (mkN neg ds e) ∧ H' = H) := by
  refine ACall.of_body Tryz.func41 rfl Tryz.ntmps41 Tryz.results41 rfl ?_
  refine .sr ?_
  refine .s rfl (step_alloc Tryz.zeroValue48 (zr48)) ?_
  rintro _ _ ⟨b6, hb6, rfl, hH⟩
  obtain rfl := hH.symm
  refine .p rfl (pure_assign ev_int) ?_
  refine .ng ?_
  refine .seq ?_
  refine .sr ?_
  refine .p rfl (pure_assign ev_int) ?_
  refine .ng ?_
  refine .block ?_
  refine AWP.loopW (rmk_J neg ds e b6 H) (ds.length) ⟨0, Nat.zero_le _, rfl, rfl, rfl⟩ (sub_c rfl (sub_c rfl (sub_c rfl (sub_c rfl (sub_c rfl sub_n))))) (Heap.le.refl _) ?_
  rintro _ _ _ ⟨i, hi, rfl, rfl, hk⟩
  refine .seq ?_
  refine .sr ?_
  refine .mv rfl rfl ?_
  refine .mv rfl rfl ?_
  refine .p rfl (pure_lenStr Tryz.underlying9 (tm rfl)) ?_
  refine .p rfl (pure_lss (tm rfl) (tm rfl)) ?_
  refine .ng ?_
  refine AWP.cond (tm rfl) (fun hc16 => ?_) (fun hc16 => ?_)
  · try simp only [decide_eq_true_eq] at hc16
    have hda := hd.at (show i < ds.length by omega)
    have hdc : digC (ds.getD i 0) = true := by unfold digC; rw [decide_eq_true (by omega), decide_eq_true (by omega)]; rfl
    refine .skip ?_
    refine Next.go ?_
    refine .seq ?_
    refine .block ?_
    refine .sr ?_
    refine .mv rfl rfl ?_
    refine .mv rfl rfl ?_
    refine .p rfl (pure_indexStr Tryz.underlying9 (tm rfl) (tm rfl) (by omega) (by omega)) ?_
    refine .cl rfl Tryz.call58 (evs1 rfl) (rdigit_calls (ds.getD i 0) _) ?_
    refine .as rfl rfl ?_
    refine .nr ?_
    refine .mv rfl rfl ?_
    refine .p rfl (pure_not (tm rfl)) ?_
    refine .ng ?_
    refine AWP.cond_false (tm rfl) (by rw [hdc]; rfl) ?_
    refine .skip ?_
    refine Block.go ?_
    refine Next.go ?_
    refine .region ?_
    refine .mv rfl rfl ?_
    refine .p rfl (pure_add (tm rfl) ev_int (by omega)) ?_
    refine .as rfl rfl ?_
    refine .ng ?_
    refine Round.mk (J := rmk_J neg ds e b6 H) ⟨i + 1, by omega, rfl, rfl, rfl⟩ (sub_c rfl (sub_c rfl (sub_c rfl (sub_c rfl (sub_c rfl sub_n))))) (Heap.le.refl _) (by omega)
  · try simp only [decide_eq_false_iff_not, Int.not_lt] at hc16
    refine .exit ?_
    refine Next.ex ?_
    refine Next.ex ?_
    refine Block.hit ?_
    refine Next.go ?_
    refine .sr ?_
    refine .p rfl (pure_assign ev_int) ?_
    refine .ng ?_
    refine .seq ?_
    refine .block ?_
    refine AWP.loopW (rmkF_J neg ds e b6 H) (ds.length) ⟨0, Nat.zero_le _, fun q hq => by omega, rfl, rfl, rfl⟩ (sub_c rfl (sub_c rfl (sub_c rfl (sub_c rfl (sub_c rfl sub_n))))) (Heap.le.refl _) ?_
    rintro _ _ _ ⟨i, hi, hz, rfl, rfl, hk⟩
    refine .seq ?_
    refine AWP.seqTo 35 (.bool (decide ((i : Int) < (ds.length : Int)) && decide (((ds.getD i 0).toNat : Int) = 48))) [0, 1, 2, 6, 10] ?_ ?_
    · -- region 8
      refine .region ?_
      refine .mv rfl rfl ?_
      refine .mv rfl rfl ?_
      refine .p rfl (pure_lenStr Tryz.underlying9 (tm rfl)) ?_
      refine .p rfl (pure_lss (tm rfl) (tm rfl)) ?_
      refine .mv rfl rfl ?_
      refine bool_casesL (t := 30) rfl (fun hg30 => ?_) (fun hg30 => ?_)
      · have hh30 := hg30; try simp only [decide_eq_true_eq] at hh30
        refine .gp rfl rfl rfl (by assumption) (pure_move (tm rfl)) ?_
        refine .gp rfl rfl rfl (by assumption) (pure_move (tm rfl)) ?_
        refine .gp rfl rfl rfl (by assumption) (pure_indexStr Tryz.underlying9 (tm rfl) (tm rfl) (by omega) (by omega)) ?_
        refine .gp rfl rfl rfl (by assumption) (pure_eql (tm rfl) ev_int) ?_
        refine .p rfl (pure_pickT (tm rfl) (by assumption) (tm rfl)) ?_
        refine .nil ?_
        exact ⟨rfl, sub_b rfl (by (rw [show decide ((i : Int) < (ds.length : Int)) = _ from hg30]; rfl)) (sub_c rfl (sub_c rfl (sub_c rfl (sub_c rfl (sub_c rfl sub_n))))), rfl⟩
      · have hh30 := hg30; try simp only [decide_eq_false_iff_not, Int.not_lt] at hh30
        refine .gn rfl rfl rfl (by assumption) ?_
        refine .gn rfl rfl rfl (by assumption) ?_
        refine .gn rfl rfl rfl (by assumption) ?_
        refine .gn rfl rfl rfl (by assumption) ?_
        refine .p rfl (pure_pickF (tm rfl) (by assumption) ev_bool) ?_
        refine .nil ?_
        exact ⟨rfl, sub_b rfl (by (rw [show decide ((i : Int) < (ds.length : Int)) = _ from hg30]; rfl)) (sub_c rfl (sub_c rfl (sub_c rfl (sub_c rfl (sub_c rfl sub_n))))), rfl⟩
    · refine AWP.sub [(35, _), (0, _), (1, _), (2, _), (6, _), (10, _)] (sub_c rfl (sub_c rfl (sub_c rfl (sub_c rfl (sub_c rfl (sub_c rfl sub_n)))))) ?_
      refine AWP.cond (tm rfl) (fun hc35 => ?_) (fun hc35 => ?_)
      · try simp only [decide_eq_true_eq, decide_eq_false_iff_not, Bool.not_eq_true', Bool.not_eq_false', Int.not_lt, Int.not_le, ne_eq, Decidable.not_not] at hc35
        simp only [Bool.and_eq_true, decide_eq_true_eq] at hc35
        have h48 := byte_48.1 hc35.2
        refine .skip ?_
        refine Next.go ?_
        refine .block ?_
        refine .region ?_
        refine .mv rfl rfl ?_
        refine .p rfl (pure_add (tm rfl) ev_int (by omega)) ?_
        refine .as rfl rfl ?_
        refine .nil ?_
        refine Block.go ?_
        refine Next.go ?_
        refine Round.mk (J := rmkF_J neg ds e b6 H) ⟨i + 1, by omega, fun q hq => by rcases Nat.lt_or_ge q i with h | h; exact hz q h; rw [show q = i by omega]; exact h48, rfl, rfl, rfl⟩ (sub_c rfl (sub_c rfl (sub_c rfl (sub_c rfl (sub_c rfl sub_n))))) (Heap.le.refl _) (by omega)
      · try simp only [decide_eq_true_eq, decide_eq_false_iff_not, Bool.not_eq_true', Bool.not_eq_false', Int.not_lt, Int.not_le, ne_eq, Decidable.not_not] at hc35
        simp only [Bool.and_eq_false_iff, decide_eq_false_iff_not] at hc35
        have hne : i < ds.length → ds.getD i 0 ≠ 48 := fun h h2 => hc35.elim (fun q => q (by omega)) (fun q => q (byte_48.2 h2))
        refine .exit ?_
        refine Next.ex ?_
        refine Next.ex ?_
        refine Block.hit ?_
        refine Next.go ?_
        refine .sr ?_
        refine .mv rfl rfl ?_
        refine .p rfl (pure_lenStr Tryz.underlying9 (tm rfl)) ?_
        refine .as rfl rfl ?_
        refine .nr ?_
        refine .p rfl (pure_assign ev_int) ?_
        refine .ng ?_
        refine .seq ?_
        refine .block ?_
        refine AWP.loopW (rmkT_J neg ds e b6 i H) (ds.length) ⟨ds.length, hi, Nat.le_refl _, fun q hq h => by omega, rfl, rfl, rfl⟩ (sub_c rfl (sub_c rfl (sub_c rfl (sub_c rfl (sub_c rfl (sub_c rfl (sub_e rfl (by rw [Nat.sub_self]; rfl) sub_n))))))) (Heap.le.refl _) ?_
        rintro _ _ _ ⟨j, hij, hj, hz2, rfl, rfl, hk⟩
        refine .seq ?_
        refine AWP.seqTo 49 (.bool (decide ((i : Int) < (j : Int)) && decide (((ds.getD (j - 1) 0).toNat : Int) = 48))) [0, 1, 2, 6, 10, 11, 12] ?_ ?_
        · -- region 12
          refine .region ?_
          refine .mv rfl rfl ?_
          refine .mv rfl rfl ?_
          refine .p rfl (pure_gtr (tm rfl) (tm rfl)) ?_
          refine .mv rfl rfl ?_
          refine bool_casesL (t := 43) rfl (fun hg43 => ?_) (fun hg43 => ?_)
          · have hh43 := hg43; try simp only [decide_eq_true_eq] at hh43
            refine .gp rfl rfl rfl (by assumption) (pure_move (tm rfl)) ?_
            refine .gp rfl rfl rfl (by assumption) (pure_move (tm rfl)) ?_
            refine .gp rfl rfl rfl (by assumption) (pure_sub (tm rfl) ev_int (by omega)) ?_
            refine .gp rfl rfl rfl (by assumption) (pure_indexStr Tryz.underlying9 (tm rfl) (tm rfl) (by omega) (by omega)) ?_
            refine .gp rfl rfl rfl (by assumption) (pure_eql (tm rfl) ev_int) ?_
            refine .p rfl (pure_pickT (tm rfl) (by assumption) (tm rfl)) ?_
            refine .nil ?_
            exact ⟨rfl, sub_b rfl (by (rw [show decide ((i : Int) < (j : Int)) = _ from hg43, show ((j : Int) - 1).toNat = j - 1 by omega]; rfl)) (sub_c rfl (sub_c rfl (sub_c rfl (sub_c rfl (sub_c rfl (sub_c rfl (sub_c rfl sub_n))))))), rfl⟩
          · have hh43 := hg43; try simp only [decide_eq_false_iff_not, Int.not_lt] at hh43
            refine .gn rfl rfl rfl (by assumption) ?_
            refine .gn rfl rfl rfl (by assumption) ?_
            refine .gn rfl rfl rfl (by assumption) ?_
            refine .gn rfl rfl rfl (by assumption) ?_
            refine .gn rfl rfl rfl (by assumption) ?_
            refine .p rfl (pure_pickF (tm rfl) (by assumption) ev_bool) ?_
            refine .nil ?_
            exact ⟨rfl, sub_b rfl (by (rw [show decide ((i : Int) < (j : Int)) = _ from hg43]; rfl)) (sub_c rfl (sub_c rfl (sub_c rfl (sub_c rfl (sub_c rfl (sub_c rfl (sub_c rfl sub_n))))))), rfl⟩
        · refine AWP.sub [(49, _), (0, _), (1, _), (2, _), (6, _), (10, _), (11, _), (12, _)] (sub_c rfl (sub_c rfl (sub_c rfl (sub_c rfl (sub_c rfl (sub_c rfl (sub_c rfl (sub_c rfl sub_n)))))))) ?_
          refine AWP.cond (tm rfl) (fun hc49 => ?_) (fun hc49 => ?_)
          · try simp only [decide_eq_true_eq, decide_eq_false_iff_not, Bool.not_eq_true', Bool.not_eq_false', Int.not_lt, Int.not_le, ne_eq, Decidable.not_not] at hc49
            simp only [Bool.and_eq_true, decide_eq_true_eq] at hc49
            have h48 := byte_48.1 hc49.2
            refine .skip ?_
            refine Next.go ?_
            refine .block ?_
            refine .sr ?_
            refine .mv rfl rfl ?_
            refine .p rfl (pure_sub (tm rfl) ev_int (by omega)) ?_
            refine .as rfl rfl ?_
            refine .ng ?_
            refine .region ?_
            refine .mv rfl rfl ?_
            refine .p rfl (pure_add (tm rfl) ev_int (by omega)) ?_
            refine .as rfl rfl ?_
            refine .nil ?_
            refine Block.go ?_
            refine Next.go ?_
            refine Round.mk (J := rmkT_J neg ds e b6 i H) ⟨j - 1, by omega, by omega, fun q hq h => by rcases Nat.lt_or_ge q j with h2 | h2; rw [show q = j - 1 by omega]; exact h48; exact hz2 q h2 h, rfl, rfl, rfl⟩ (sub_c rfl (sub_c rfl (sub_c rfl (sub_c rfl (sub_c rfl (sub_e rfl (by congr 1; omega) (sub_e rfl (by congr 1; omega) sub_n))))))) (Heap.le.refl _) (by omega)
          · try simp only [decide_eq_true_eq, decide_eq_false_iff_not, Bool.not_eq_true', Bool.not_eq_false', Int.not_lt, Int.not_le, ne_eq, Decidable.not_not] at hc49
            simp only [Bool.and_eq_false_iff, decide_eq_false_iff_not] at hc49
            have hne2 : i < j → ds.getD (j - 1) 0 ≠ 48 := fun h h2 => hc49.elim (fun q => q (by omega)) (fun q => q (byte_48.2 h2))
            obtain ⟨hco, hcl, hmr⟩ := core_parts hi hij hj hz hne hz2 hne2
            refine .exit ?_
            refine Next.ex ?_
            refine Next.ex ?_
            refine Block.hit ?_
            refine Next.go ?_
            refine .seq ?_
            refine .sr ?_
            refine .mv rfl rfl ?_
            refine .mv rfl rfl ?_
            refine .p rfl (pure_eql (tm rfl) (tm rfl)) ?_
            refine .ng ?_
            refine AWP.cond (tm rfl) (fun hc56 => ?_) (fun hc56 => ?_)
            · try simp only [decide_eq_true_eq] at hc56
              refine .sr ?_
              refine .mv rfl rfl ?_
              refine .p rfl (pure_build [(0, 1), (1, 1), (2, 1)] Tryz.underlying48 Tryz.zeroValue48 (zr48) rfl (pl48 _ Tryz.underlying48) (.cons (tm rfl) (.inl rfl) .nil) rfl) ?_
              refine .e0 (step_store Tryz.sizeOf48 (tm rfl) (tm rfl) rfl rfl (.inr ⟨_, rfl⟩) (Heap.objs_set_same _ _ _) (Nat.le_of_ble_eq_true rfl)) ?_
              try first | rw [Heap.set_set] | rw [Heap.set_under (by assumption)]
              refine .p rfl (pure_assign ev_int) ?_
              refine .ng ?_
              refine AWP.frz (t := 6) rfl (hb6) ?_
              refine .ret ?_
              refine Next.rt ?_
              refine Ret.go (.cons (.cellI _ _ _ _ rfl Tryz.isAgg48 Tryz.sizeOf48 rfl) (.cons (.tmp _ _ rfl) .nil)) _ (Heap.le.refl _) ?_
              refine ⟨?_, rfl⟩
              unfold mkN
              rw [if_pos (List.length_eq_zero_iff.1 (by omega))]; rfl
            · try simp only [decide_eq_false_iff_not] at hc56
              refine .skip ?_
              refine Next.go ?_
              refine .seq ?_
              refine AWP.seqTo 78 (.bool (decide ((1100 : Int) < (j : Int) - (i : Int)) || decide ((100000 : Int) < e) || decide (e < -100000 - ((ds.length - j : Nat) : Int)) || decide ((100000 : Int) < e + ((ds.length - j : Nat) : Int)))) [0, 1, 2, 6, 10, 11, 12] ?_ ?_
              · -- region 17
                refine .region ?_
                refine .mv rfl rfl ?_
                refine .mv rfl rfl ?_
                refine .p rfl (pure_sub (tm rfl) (tm rfl) (by omega)) ?_
                refine .p rfl (pure_gtr (tm rfl) ev_int) ?_
                refine .mv rfl rfl ?_
                refine bool_casesL (t := 63) rfl (fun hg63 => ?_) (fun hg63 => ?_)
                · have hh63 := hg63; try simp only [decide_eq_true_eq] at hh63
                  refine .gn rfl rfl rfl (by assumption) ?_
                  refine .gn rfl rfl rfl (by assumption) ?_
                  refine .p rfl (pure_pickT (tm rfl) (by assumption) ev_bool) ?_
                  refine .mv rfl rfl ?_
                  refine .gn rfl rfl rfl (by rfl) ?_
                  refine .gn rfl rfl rfl (by rfl) ?_
                  refine .gn rfl rfl rfl (by rfl) ?_
                  refine .gn rfl rfl rfl (by rfl) ?_
                  refine .p rfl (pure_pickT (tm rfl) (by rfl) ev_bool) ?_
                  refine .mv rfl rfl ?_
                  refine .gn rfl rfl rfl (by rfl) ?_
                  refine .gn rfl rfl rfl (by rfl) ?_
                  refine .gn rfl rfl rfl (by rfl) ?_
                  refine .gn rfl rfl rfl (by rfl) ?_
                  refine .p rfl (pure_pickT (tm rfl) (by rfl) ev_bool) ?_
                  refine .nil ?_
                  exact ⟨rfl, sub_b rfl (by (rw [show decide ((1100 : Int) < (j : Int) - (i : Int)) = _ from hg63]; rfl)) (sub_c rfl (sub_c rfl (sub_c rfl (sub_c rfl (sub_c rfl (sub_c rfl (sub_c rfl sub_n))))))), rfl⟩
                · have hh63 := hg63; try simp only [decide_eq_false_iff_not, Int.not_lt] at hh63
                  refine .gp rfl rfl rfl (by assumption) (pure_move (tm rfl)) ?_
                  refine .gp rfl rfl rfl (by assumption) (pure_gtr (tm rfl) ev_int) ?_
                  refine .p rfl (pure_pickF (tm rfl) (by assumption) (tm rfl)) ?_
                  refine .mv rfl rfl ?_
                  refine bool_casesL (t := 67) rfl (fun hg67 => ?_) (fun hg67 => ?_)
                  · have hh67 := hg67; try simp only [decide_eq_true_eq] at hh67
                    refine .gn rfl rfl rfl (by assumption) ?_
                    refine .gn rfl rfl rfl (by assumption) ?_
                    refine .gn rfl rfl rfl (by assumption) ?_
                    refine .gn rfl rfl rfl (by assumption) ?_
                    refine .p rfl (pure_pickT (tm rfl) (by assumption) ev_bool) ?_
                    refine .mv rfl rfl ?_
                    refine .gn rfl rfl rfl (by rfl) ?_
                    refine .gn rfl rfl rfl (by rfl) ?_
                    refine .gn rfl rfl rfl (by rfl) ?_
                    refine .gn rfl rfl rfl (by rfl) ?_
                    refine .p rfl (pure_pickT (tm rfl) (by rfl) ev_bool) ?_
                    refine .nil ?_
                    exact ⟨rfl, sub_b rfl (by (rw [show decide ((1100 : Int) < (j : Int) - (i : Int)) = _ from hg63, show decide ((100000 : Int) < e) = _ from hg67]; rfl)) (sub_c rfl (sub_c rfl (sub_c rfl (sub_c rfl (sub_c rfl (sub_c rfl (sub_c rfl sub_n))))))), rfl⟩
                  · have hh67 := hg67; try simp only [decide_eq_false_iff_not, Int.not_lt] at hh67
                    refine .gp rfl rfl rfl (by assumption) (pure_move (tm rfl)) ?_
                    refine .gp rfl rfl rfl (by assumption) (pure_move (tm rfl)) ?_
                    refine .gp rfl rfl rfl (by assumption) (pure_sub ev_int (tm rfl) (by omega)) ?_
                    refine .gp rfl rfl rfl (by assumption) (pure_lss (tm rfl) (tm rfl)) ?_
                    refine .p rfl (pure_pickF (tm rfl) (by assumption) (tm rfl)) ?_
                    refine .mv rfl rfl ?_
                    refine bool_casesL (t := 73) rfl (fun hg73 => ?_) (fun hg73 => ?_)
                    · have hh73 := hg73; try simp only [decide_eq_true_eq] at hh73
                      refine .gn rfl rfl rfl (by assumption) ?_
                      refine .gn rfl rfl rfl (by assumption) ?_
                      refine .gn rfl rfl rfl (by assumption) ?_
                      refine .gn rfl rfl rfl (by assumption) ?_
                      refine .p rfl (pure_pickT (tm rfl) (by assumption) ev_bool) ?_
                      refine .nil ?_
                      exact ⟨rfl, sub_b rfl (by (rw [show decide ((1100 : Int) < (j : Int) - (i : Int)) = _ from hg63, show decide ((100000 : Int) < e) = _ from hg67, show decide (e < -100000 - ((ds.length - j : Nat) : Int)) = _ from hg73]; rfl)) (sub_c rfl (sub_c rfl (sub_c rfl (sub_c rfl (sub_c rfl (sub_c rfl (sub_c rfl sub_n))))))), rfl⟩
                    · have hh73 := hg73; try simp only [decide_eq_false_iff_not, Int.not_lt] at hh73
                      refine .gp rfl rfl rfl (by assumption) (pure_move (tm rfl)) ?_
                      refine .gp rfl rfl rfl (by assumption) (pure_move (tm rfl)) ?_
                      refine .gp rfl rfl rfl (by assumption) (pure_add (tm rfl) (tm rfl) (by omega)) ?_
                      refine .gp rfl rfl rfl (by assumption) (pure_gtr (tm rfl) ev_int) ?_
                      refine .p rfl (pure_pickF (tm rfl) (by assumption) (tm rfl)) ?_
                      refine .nil ?_
                      exact ⟨rfl, sub_b rfl (by (rw [show decide ((1100 : Int) < (j : Int) - (i : Int)) = _ from hg63, show decide ((100000 : Int) < e) = _ from hg67, show decide (e < -100000 - ((ds.length - j : Nat) : Int)) = _ from hg73]; rfl)) (sub_c rfl (sub_c rfl (sub_c rfl (sub_c rfl (sub_c rfl (sub_c rfl (sub_c rfl sub_n))))))), rfl⟩
              · refine AWP.sub [(78, _), (0, _), (1, _), (2, _), (6, _), (10, _), (11, _), (12, _)] (sub_c rfl (sub_c rfl (sub_c rfl (sub_c rfl (sub_c rfl (sub_c rfl (sub_c rfl (sub_c rfl sub_n)))))))) ?_
                refine AWP.cond (tm rfl) (fun hc78 => ?_) (fun hc78 => ?_)
                · try simp only [decide_eq_true_eq, decide_eq_false_iff_not, Bool.not_eq_true', Bool.not_eq_false', Int.not_lt, Int.not_le, ne_eq, Decidable.not_not] at hc78
                  simp only [Bool.or_eq_true, decide_eq_true_eq] at hc78
                  refine .sr ?_
                  refine .p rfl (pure_build [(0, 1), (1, 1), (2, 1)] Tryz.underlying48 Tryz.zeroValue48 (zr48) rfl (pl48 _ Tryz.underlying48) .nil rfl) ?_
                  refine .e0 (step_store Tryz.sizeOf48 (tm rfl) (tm rfl) rfl rfl (.inr ⟨_, rfl⟩) (Heap.objs_set_same _ _ _) (Nat.le_of_ble_eq_true rfl)) ?_
                  try first | rw [Heap.set_set] | rw [Heap.set_under (by assumption)]
                  refine .p rfl (pure_assign ev_int) ?_
                  refine .ng ?_
                  refine AWP.frz (t := 6) rfl (hb6) ?_
                  refine .ret ?_
                  refine Next.rt ?_
                  refine Ret.go (.cons (.cellI _ _ _ _ rfl Tryz.isAgg48 Tryz.sizeOf48 rfl) (.cons (.tmp _ _ rfl) .nil)) _ (Heap.le.refl _) ?_
                  refine ⟨?_, rfl⟩
                  unfold mkN
                  rw [if_neg (fun h => by rw [h] at hcl; simp at hcl; omega), if_neg (show ¬ okD ds e by unfold okD; rw [hcl, hmr]; omega)]; rfl
                · try simp only [decide_eq_true_eq, decide_eq_false_iff_not, Bool.not_eq_true', Bool.not_eq_false', Int.not_lt, Int.not_le, ne_eq, Decidable.not_not] at hc78
                  simp only [Bool.or_eq_false_iff, decide_eq_false_iff_not] at hc78
                  refine .skip ?_
                  refine Next.go ?_
                  refine .sr ?_
                  refine .mv rfl rfl ?_
                  refine .mv rfl rfl ?_
                  refine .mv rfl rfl ?_
                  refine .mv rfl rfl ?_
                  refine .p rfl (pure_sliceStr Tryz.underlying9 (tm rfl) (tm rfl) (tm rfl) (by omega) (by omega) (by omega)) ?_
                  refine .mv rfl rfl ?_
                  refine .mv rfl rfl ?_
                  refine .p rfl (pure_add (tm rfl) (tm rfl) (by omega)) ?_
                  refine .p rfl (pure_build [(0, 1), (1, 1), (2, 1)] Tryz.underlying48 Tryz.zeroValue48 (zr48) rfl (pl48 _ Tryz.underlying48) (.cons (tm rfl) (.inl rfl) (.cons (tm rfl) (.inl rfl) (.cons (tm rfl) (.inl rfl) .nil))) rfl) ?_
                  refine .e0 (step_store Tryz.sizeOf48 (tm rfl) (tm rfl) rfl rfl (.inr ⟨_, rfl⟩) (Heap.objs_set_same _ _ _) (Nat.le_of_ble_eq_true rfl)) ?_
                  try first | rw [Heap.set_set] | rw [Heap.set_under (by assumption)]
                  refine .p rfl (pure_assign ev_int) ?_
                  refine .ng ?_
                  refine AWP.frz (t := 6) rfl (hb6) ?_
                  refine .ret ?_
                  refine Ret.go (.cons (.cellI _ _ _ _ rfl Tryz.isAgg48 Tryz.sizeOf48 rfl) (.cons (.tmp _ _ rfl) .nil)) _ (Heap.le.refl _) ?_
                  refine ⟨?_, rfl⟩
                  unfold mkN
                  rw [if_neg (fun h => by rw [h] at hcl; simp at hcl; omega), if_pos (show okD ds e by unfold okD; rw [hcl, hmr]; omega), hco, hmr]; rfl

end Go.Proofs.YtfkeflcdadlmdaaGreatDoor

namespace Go.Proofs.YtfkeflcdadlmdaaGreatDoor
open Go Go.RowKit

def upB (rest : List UInt8) : Bool := decide (53 ≤ (rest.getD 0 0).toNat)
theorem cmp5 {rest : List UInt8} (h : rest ≠ []) : (0 : Int) ≤ Lib.compareBytes rest [53] ↔ 53 ≤ (rest.getD 0 0).toNat := by
  cases rest with
  | nil => exact absurd rfl h
  | cons x r =>
    unfold Lib.compareBytes
    simp only [List.getD_cons_zero]
    have hx : x < 53 ↔ x.toNat < 53 := UInt8.lt_iff_toNat_lt
    have hy : 53 < x ↔ 53 < x.toNat := UInt8.lt_iff_toNat_lt
    split
    · rename_i h1; have := hx.1 h1; omega
    · rename_i h1
      have h1' : ¬ x.toNat < 53 := fun q => h1 (hx.2 q)
      split
      · omega
      · cases r with
        | nil => unfold Lib.compareBytes; omega
        | cons y r => unfold Lib.compareBytes; omega
def incD (s : List UInt8) : List UInt8 :=
  if Lib.trimRightB s 57 = [] then 49 :: List.replicate s.length 48
  else (Lib.trimRightB s 57).take ((Lib.trimRightB s 57).length - 1) ++ [UInt8.ofNat (((Lib.trimRightB s 57).getD ((Lib.trimRightB s 57).length - 1) 0).toNat + 1)] ++ List.replicate (s.length - (Lib.trimRightB s 57).length) 48
def cutD (neg : Bool) (ds : List UInt8) (e : Int) (n : Nat) : (Bool × List UInt8 × Int) × Int := mkN neg (if upB (ds.drop n) = true then incD (ds.take n) else ds.take n) (e + ds.length - n)
def sigD (neg : Bool) (ds : List UInt8) (e : Int) (n : Nat) : (Bool × List UInt8 × Int) × Int := if ds.length ≤ n then ((neg, ds, e), 0) else cutD neg ds e n
theorem Digs.app {a b : List UInt8} (h : Digs a) (k : Digs b) : Digs (a ++ b) := fun x hx => by
  rcases List.mem_append.1 hx with h1 | h1
  · exact h x h1
  · exact k x h1
theorem Digs.rep {n : Nat} {x : UInt8} (h : isD x) : Digs (List.replicate n x) := fun y hy => by rw [List.eq_of_mem_replicate hy]; exact h
theorem Digs.one {x : UInt8} (h : isD x) : Digs [x] := fun y hy => by rw [List.mem_singleton.1 hy]; exact h
theorem last_9 {s : List UInt8} (hd : Digs s) (h : Lib.trimRightB s 57 ≠ []) : 48 ≤ ((Lib.trimRightB s 57).getD ((Lib.trimRightB s 57).length - 1) 0).toNat ∧ ((Lib.trimRightB s 57).getD ((Lib.trimRightB s 57).length - 1) 0).toNat < 57 := by
  have hp := List.length_pos_iff.2 h
  have h1 := (hd.trimR 57).at (p := (Lib.trimRightB s 57).length - 1) (by omega)
  have h2 := trimR_last h
  refine ⟨h1.1, ?_⟩
  rcases Nat.lt_or_ge ((Lib.trimRightB s 57).getD ((Lib.trimRightB s 57).length - 1) 0).toNat 57 with q | q
  · exact q
  · exact absurd (UInt8.toNat_inj.1 (show _ = (57 : UInt8).toNat by simp only [UInt8.reduceToNat]; omega)) h2
theorem incD_digs {s : List UInt8} (hd : Digs s) : Digs (incD s) := by
  unfold incD
  split
  · exact Digs.app (a := [49]) (Digs.one (by unfold isD; decide)) (Digs.rep (by unfold isD; decide))
  · rename_i h
    obtain ⟨h1, h2⟩ := last_9 hd h
    refine Digs.app (Digs.app ((hd.trimR 57).take _) (Digs.one ?_)) (Digs.rep (by unfold isD; decide))
    unfold isD
    rw [UInt8.toNat_ofNat']
    omega
theorem incD_len (s : List UInt8) : (incD s).length ≤ s.length + 1 := by
  unfold incD
  have := trimR_len s 57
  split
  · simp
  · rename_i h
    have hp := List.length_pos_iff.2 h
    simp only [List.length_append, List.length_take, List.length_replicate, List.length_cons, List.length_nil]; omega

set_option maxRecDepth 100000 in
theorem up1_calls (neg : Bool) (kept rest : List UInt8) (hr : rest ≠ []) (H : Heap) : ACall Tryz.prog 168 [.bool neg, .str kept, .str rest, .int .i64 1] H (fun y H' => y = .bool (upB rest) ∧ H' = H) := by
  refine ACall.of_body Tryz.func168 rfl Tryz.ntmps168 Tryz.results168 rfl ?_
  refine .sr ?_
  refine .p rfl (pure_assign ev_bool) ?_
  refine .ng ?_
  refine .seq ?_
  refine .sr ?_
  refine .mv rfl rfl ?_
  refine .p rfl (pure_eqlStr (tm rfl) (ev_str rfl)) ?_
  refine .ng ?_
  refine AWP.cond_false (tm rfl) (by exact decide_eq_false hr) ?_
  refine .skip ?_
  refine Next.go ?_
  refine .sr ?_
  refine .mv rfl rfl ?_
  refine .cl rfl Tryz.call212 (.cons (tm rfl) (.cons (ev_str rfl) .nil)) (compareA rest [53] _) ?_
  refine .as rfl rfl ?_
  refine .ng ?_
  refine .seq ?_
  refine .sr ?_
  refine .mv rfl rfl ?_
  refine .ng ?_
  refine .block ?_
  refine .sr ?_
  refine .p rfl (pure_eql (tm rfl) ev_int) ?_
  refine .as rfl rfl ?_
  refine .ng ?_
  refine AWP.cond_false (tm rfl) (by rfl) ?_
  refine .sr ?_
  refine .p rfl (pure_eql (tm rfl) ev_int) ?_
  refine .as rfl rfl ?_
  refine .ng ?_
  refine AWP.cond_true (tm rfl) (by rfl) ?_
  refine .sr ?_
  refine .mv rfl rfl ?_
  refine .p rfl (pure_geq (tm rfl) ev_int) ?_
  refine .as rfl rfl ?_
  refine .ng ?_
  refine .ret ?_
  refine Block.rt ?_
  refine Next.rt ?_
  refine Ret.go (.cons (.tmp _ _ rfl) .nil) _ (Heap.le.refl _) ?_
  refine ⟨?_, rfl⟩
  simp only [packed, upB]
  congr 1
  exact decide_eq_decide.2 (cmp5 hr)

set_option maxRecDepth 100000 in
theorem more_calls (s : List UInt8) (hd : Digs s) (hl : s.length ≤ 100000) (H : Heap) : ACall Tryz.prog 169 [.str s] H (fun y H' => y = .str (incD s) ∧ H' = H) := by
  have htl := trimR_len s 57
  have hml := maxLen_eq
  refine ACall.of_body Tryz.func169 rfl Tryz.ntmps169 Tryz.results169 rfl ?_
  refine .sr ?_
  refine .p rfl (pure_assign (ev_str rfl)) ?_
  refine .nr ?_
  refine .mv rfl rfl ?_
  refine .cl rfl Tryz.call69 (.cons (tm rfl) (.cons (ev_str rfl) .nil)) (trimRightA 57 (by decide) s _) ?_
  refine .as rfl rfl ?_
  refine .nr ?_
  refine .mv rfl rfl ?_
  refine .p rfl (pure_lenStr Tryz.underlying9 (tm rfl)) ?_
  refine .mv rfl rfl ?_
  refine .p rfl (pure_lenStr Tryz.underlying9 (tm rfl)) ?_
  refine .p rfl (pure_sub (tm rfl) (tm rfl) (by omega)) ?_
  refine .cl rfl Tryz.call93 (.cons (ev_str rfl) (evs1 rfl)) (repeatZ 48 _ (s.length - (Lib.trimRightB s 57).length) (by omega) (by omega) _) ?_
  refine .as rfl rfl ?_
  refine .ng ?_
  refine .seq ?_
  refine .sr ?_
  refine .mv rfl rfl ?_
  refine .p rfl (pure_eqlStr (tm rfl) (ev_str rfl)) ?_
  refine .ng ?_
  refine AWP.cond (tm rfl) (fun hc14 => ?_) (fun hc14 => ?_)
  · try simp only [decide_eq_true_eq] at hc14
    refine .sr ?_
    refine .mv rfl rfl ?_
    refine .p rfl (pure_addStr (ev_str rfl) (tm rfl) (by rw [maxLen_eq, List.length_replicate]; simp only [List.length_cons, List.length_nil]; omega)) ?_
    refine .as rfl rfl ?_
    refine .ng ?_
    refine .ret ?_
    refine Next.rt ?_
    refine Ret.go (.cons (.tmp _ _ rfl) .nil) _ (Heap.le.refl _) ?_
    refine ⟨?_, rfl⟩
    unfold incD
    rw [if_pos hc14, hc14]; rfl
  · try simp only [decide_eq_false_iff_not] at hc14
    have htp := List.length_pos_iff.2 hc14
    obtain ⟨h91, h92⟩ := last_9 hd hc14
    have htn : (((Lib.trimRightB s 57).length : Int) - 1).toNat = (Lib.trimRightB s 57).length - 1 := by omega
    rw [← htn] at h91 h92
    refine .skip ?_
    refine Next.go ?_
    refine .seq ?_
    refine AWP.draw [(0, true), (1, true), (2, true), (3, true), (4, true), (5, true), (6, true), (7, true), (8, true), (9, true), (10, true), (11, true), (12, true), (13, true), (14, true), (15, true)] rfl (by decide +kernel) ?_
    refine .p rfl rfl (pure_move (tm rfl)) ?_
    refine .p rfl rfl (pure_move (tm rfl)) ?_
    refine .p rfl rfl (pure_lenStr Tryz.underlying9 (tm rfl)) ?_
    refine .p rfl rfl (pure_sub (tm rfl) ev_int (by omega)) ?_
    refine .p rfl rfl (pure_sliceStrH Tryz.underlying9 (tm rfl) (tm rfl) (by omega) (by omega)) ?_
    refine .p rfl rfl (pure_move (tm rfl)) ?_
    refine .p rfl rfl (pure_move (tm rfl)) ?_
    refine .p rfl rfl (pure_lenStr Tryz.underlying9 (tm rfl)) ?_
    refine .p rfl rfl (pure_sub (tm rfl) ev_int (by omega)) ?_
    refine .p rfl rfl (pure_indexStr Tryz.underlying9 (tm rfl) (tm rfl) (by omega) (by omega)) ?_
    refine .p rfl rfl (pure_addX8 (tm rfl) (ev_nat 1) (by omega)) ?_
    refine .p rfl rfl (pure_byteStr Tryz.underlying5 Tryz.underlying9 (tm rfl) (by omega)) ?_
    refine .p rfl rfl (pure_addStr (tm rfl) (tm rfl) (by rw [maxLen_eq]; simp only [List.length_cons, List.length_nil, List.length_take]; omega)) ?_
    refine .p rfl rfl (pure_move (tm rfl)) ?_
    refine .p rfl rfl (pure_addStr (tm rfl) (tm rfl) (by rw [maxLen_eq]; simp only [List.length_append, List.length_replicate, List.length_cons, List.length_nil, List.length_take]; omega)) ?_
    refine .p rfl rfl (pure_assign (tm rfl)) ?_
    refine .nil ?_
    refine Next.go ?_
    refine .ret ?_
    refine Ret.go (.cons (.tmp _ _ rfl) .nil) _ (Heap.le.refl _) ?_
    refine ⟨?_, rfl⟩
    unfold incD
    rw [if_neg hc14, ← htn]; rfl

set_option maxRecDepth 100000 in
theorem cut1_calls (neg : Bool) (ds : List UInt8) (e : Int) (n : Nat) (hd : Digs ds) (hn : 0 < n) (hn2 : n < ds.length) (hl : ds.length ≤ 2000) (he : -200000 ≤ e ∧ e ≤ 200000) (H : Heap) : ACall Tryz.prog 123 [dA neg ds e, .int .i64 (n : Int), .int .i64 1] H (fun y H' => y = dT (cutD neg ds e n) ∧ H' = H) := by
  have hdn : ds.drop n ≠ [] := by intro h; have := congrArg List.length h; simp at this; omega
  have hil := incD_len (ds.take n)
  rw [List.length_take] at hil
  have hml := maxLen_eq
  refine ACall.of_body Tryz.func123 rfl Tryz.ntmps123 Tryz.results123 rfl ?_
  refine .sr ?_
  refine .e rfl (step_boxI (tm rfl) (.inr ⟨_, rfl⟩)) ?_
  refine .s rfl (step_alloc Tryz.zeroValue48 (zr48)) ?_
  rintro _ _ ⟨b6, hb6, rfl, hH⟩
  obtain rfl := hH.symm
  refine .p rfl (pure_assign ev_int) ?_
  refine .nr ?_
  refine .p rfl (pure_fieldI Tryz.underlying48 rfl Tryz.sizeOf3 (tm rfl)) ?_
  refine .p rfl (pure_load1 Tryz.isAgg3 (tm rfl)) ?_
  refine .p rfl (pure_fieldI Tryz.underlying48 rfl Tryz.sizeOf9 (tm rfl)) ?_
  refine .p rfl (pure_load1 Tryz.isAgg9 (tm rfl)) ?_
  refine .p rfl (pure_lenStr Tryz.underlying9 (tm rfl)) ?_
  refine .p rfl (pure_add (tm rfl) (tm rfl) (by omega)) ?_
  refine .mv rfl rfl ?_
  refine .p rfl (pure_sub (tm rfl) (tm rfl) (by omega)) ?_
  refine .as rfl rfl ?_
  refine .ng ?_
  refine .seq ?_
  refine AWP.draw [(0, true), (1, true), (2, true), (3, true), (5, true), (6, true), (4, false), (7, true), (8, true), (9, true)] rfl (by decide +kernel) ?_
  refine .p rfl rfl (pure_move (tm rfl)) ?_
  refine .p rfl rfl (pure_neg (tm rfl) (by omega)) ?_
  refine .p rfl rfl (pure_min2 (tm rfl) ev_int) ?_
  refine .p rfl rfl (pure_max2 ev_int (tm rfl)) ?_
  refine .p rfl rfl (pure_fieldI Tryz.underlying48 rfl Tryz.sizeOf9 (tm rfl)) ?_
  refine .p rfl rfl (pure_load1 Tryz.isAgg9 (tm rfl)) ?_
  refine .s rfl rfl (step_call0 Tryz.call93 (.cons (ev_str rfl) (evs1 rfl)) (repeatZ 48 _ 0 (by simp only [imax, imin]; split <;> split <;> omega) (by omega) _)) ?_
  rintro _ _ ⟨rfl, hH⟩
  obtain rfl := hH.symm
  refine .p rfl rfl (pure_addStr (tm rfl) (tm rfl) (by rw [maxLen_eq, List.length_replicate]; omega)) ?_
  refine .p rfl rfl (pure_assign (ev_str rfl)) ?_
  refine .p rfl rfl (pure_assign (tm rfl)) ?_
  refine .nil ?_
  refine Next.go ?_
  refine .seq ?_
  refine .sr ?_
  refine .mv rfl rfl ?_
  refine .p rfl (pure_gtr (tm rfl) ev_int) ?_
  refine .ng ?_
  refine AWP.cond_true (tm rfl) (by exact decide_eq_true (by omega)) ?_
  refine AWP.draw [(0, true), (1, true), (2, true), (3, true), (4, true), (5, true), (6, true), (7, true), (8, true), (9, true)] rfl (by decide +kernel) ?_
  refine .p rfl rfl (pure_fieldI Tryz.underlying48 rfl Tryz.sizeOf9 (tm rfl)) ?_
  refine .p rfl rfl (pure_load1 Tryz.isAgg9 (tm rfl)) ?_
  refine .p rfl rfl (pure_move (tm rfl)) ?_
  refine .p rfl rfl (pure_sliceStrH Tryz.underlying9 (tm rfl) (tm rfl) (by omega) (by omega)) ?_
  refine .p rfl rfl (pure_fieldI Tryz.underlying48 rfl Tryz.sizeOf9 (tm rfl)) ?_
  refine .p rfl rfl (pure_load1 Tryz.isAgg9 (tm rfl)) ?_
  refine .p rfl rfl (pure_move (tm rfl)) ?_
  refine .p rfl rfl (pure_sliceStrL Tryz.underlying9 (tm rfl) (tm rfl) (by omega) (by omega)) ?_
  refine .p rfl rfl (pure_assign (tm rfl)) ?_
  refine .p rfl rfl (pure_assign (tm rfl)) ?_
  refine .nil ?_
  refine Next.go ?_
  refine AWP.seqToL [(9, .str (if upB (ds.drop n) = true then incD (ds.take n) else ds.take n))] [3, 6, 7, 8] ?_ ?_
  · refine .sr ?_
    refine .p rfl (pure_fieldI Tryz.underlying48 rfl Tryz.sizeOf4 (tm rfl)) ?_
    refine .p rfl (pure_load1 Tryz.isAgg4 (tm rfl)) ?_
    refine .mv rfl rfl ?_
    refine .mv rfl rfl ?_
    refine .mv rfl rfl ?_
    refine .cl rfl Tryz.call168 (.cons (tm rfl) (evs3 rfl rfl rfl)) (up1_calls neg _ _ hdn _) ?_
    refine .ng ?_
    refine AWP.cond (tm rfl) (fun hc42 => ?_) (fun hc42 => ?_)
    · try simp only [decide_eq_true_eq, decide_eq_false_iff_not, Bool.not_eq_true', Bool.not_eq_false', Int.not_lt, Int.not_le, ne_eq, Decidable.not_not] at hc42
      refine .region ?_
      refine .mv rfl rfl ?_
      refine .cl rfl Tryz.call169 (evs1 rfl) (more_calls (ds.take n) (hd.take n) (by rw [List.length_take]; omega) _) ?_
      refine .as rfl rfl ?_
      refine .nil ?_
      exact ⟨rfl, (sub_e rfl (by (rw [if_pos (show upB (ds.drop n) = true from hc42)]; done)) (sub_c rfl (sub_c rfl (sub_c rfl (sub_c rfl sub_n))))), rfl⟩
    · try simp only [decide_eq_true_eq, decide_eq_false_iff_not, Bool.not_eq_true', Bool.not_eq_false', Int.not_lt, Int.not_le, ne_eq, Decidable.not_not] at hc42
      refine .skip ?_
      exact ⟨rfl, (sub_e rfl (by (rw [if_neg (show ¬ upB (ds.drop n) = true from by first | exact hc42 | (intro q; rw [show upB (ds.drop n) = false from hc42] at q; cases q))]; rfl)) (sub_c rfl (sub_c rfl (sub_c rfl (sub_c rfl sub_n))))), rfl⟩
  · refine AWP.sub [(9, _), (3, _), (6, _), (7, _), (8, _)] (sub_c rfl (sub_c rfl (sub_c rfl (sub_c rfl (sub_c rfl sub_n))))) ?_
    refine .sr ?_
    refine .p rfl (pure_fieldI Tryz.underlying48 rfl Tryz.sizeOf4 (tm rfl)) ?_
    refine .p rfl (pure_load1 Tryz.isAgg4 (tm rfl)) ?_
    refine .mv rfl rfl ?_
    refine .mv rfl rfl ?_
    refine .cl rfl Tryz.call34 (evs3 rfl rfl rfl) (Make_calls neg (if upB (ds.drop n) = true then incD (ds.take n) else ds.take n) _ (by split; exact incD_digs (hd.take n); exact hd.take n) (by split; omega; rw [List.length_take]; omega) (by constructor <;> omega) _) ?_
    refine .p rfl (pure_extract (tm rfl) rfl) ?_
    refine .p rfl (pure_extract (tm rfl) rfl) ?_
    refine .e0 (step_store Tryz.sizeOf48 (tm rfl) (tm rfl) rfl rfl (.inr ⟨_, rfl⟩) (Heap.objs_set_same _ _ _) (Nat.le_of_ble_eq_true rfl)) ?_
    try first | rw [Heap.set_set] | rw [Heap.set_under (by assumption)]
    refine .as rfl rfl ?_
    refine .ng ?_
    refine AWP.frz (t := 6) rfl (hb6) ?_
    refine .ret ?_
    refine Ret.go (.cons (.cellI _ _ _ _ rfl Tryz.isAgg48 Tryz.sizeOf48 rfl) (.cons (.tmp _ _ rfl) .nil)) _ (Heap.le.refl _) ?_
    refine ⟨?_, rfl⟩
    rfl

set_option maxRecDepth 100000 in
theorem Sig_calls (neg : Bool) (ds : List UInt8) (e : Int) (n : Nat) (hr : rightB ds e = true) (hn : 0 < n) (hn2 : n ≤ 100000) (H : Heap) : ACall Tryz.prog 76 [dA neg ds e, .int .i64 (n : Int), .int .i64 1] H (fun y H' => y = dT (sigD neg ds e n) ∧ H' = H) := by
  have hk1 : (!rightB ds e) = false := by rw [hr]; rfl
  have hrl := rightB_len hr
  have hdd := right_digs hr
  refine ACall.of_body Tryz.func76 rfl Tryz.ntmps76 Tryz.results76 rfl ?_
  refine .sr ?_
  refine .e rfl (step_boxI (tm rfl) (.inr ⟨_, rfl⟩)) ?_
  refine .s rfl (step_alloc Tryz.zeroValue48 (zr48)) ?_
  rintro _ _ ⟨b6, hb6, rfl, hH⟩
  obtain rfl := hH.symm
  refine .p rfl (pure_assign ev_int) ?_
  refine .ng ?_
  refine .seq ?_
  refine .block ?_
  refine .sr ?_
  refine .p rfl (pure_loadN Tryz.isAgg48 Tryz.sizeOf48 (tm rfl) (Nat.le_of_ble_eq_true rfl)) ?_
  refine .cl rfl Tryz.call60 (evs1 rfl) (Right_calls neg ds e hdd _) ?_
  refine .p rfl (pure_not (tm rfl)) ?_
  refine .mv rfl rfl ?_
  refine .gp rfl rfl rfl (by assumption) (pure_move (tm rfl)) ?_
  refine .gp rfl rfl rfl (by assumption) (pure_lss (tm rfl) ev_int) ?_
  refine .p rfl (pure_pickF (tm rfl) (by assumption) (tm rfl)) ?_
  refine .mv rfl rfl ?_
  refine .gp rfl rfl rfl (by rfl) (pure_move (tm rfl)) ?_
  refine .gp rfl rfl rfl (by rfl) (pure_gtr (tm rfl) ev_int) ?_
  refine .p rfl (pure_pickF (tm rfl) (by rfl) (tm rfl)) ?_
  refine .mv rfl rfl ?_
  refine .gp rfl rfl rfl (by rfl) (pure_move (tm rfl)) ?_
  refine .gp rfl rfl rfl (by rfl) (pure_lss (tm rfl) ev_int) ?_
  refine .p rfl (pure_pickF (tm rfl) (by rfl) (tm rfl)) ?_
  refine .as rfl rfl ?_
  refine .ng ?_
  refine AWP.cond_false (tm rfl) (by exact decide_eq_false (by omega)) ?_
  refine .sr ?_
  refine .mv rfl rfl ?_
  refine .p rfl (pure_fieldI Tryz.underlying48 rfl Tryz.sizeOf9 (tm rfl)) ?_
  refine .p rfl (pure_load1 Tryz.isAgg9 (tm rfl)) ?_
  refine .p rfl (pure_lenStr Tryz.underlying9 (tm rfl)) ?_
  refine .p rfl (pure_geq (tm rfl) (tm rfl)) ?_
  refine .as rfl rfl ?_
  refine .ng ?_
  refine AWP.cond (tm rfl) (fun hc25 => ?_) (fun hc25 => ?_)
  · try simp only [decide_eq_true_eq] at hc25
    refine .sr ?_
    refine .p rfl (pure_loadN Tryz.isAgg48 Tryz.sizeOf48 (tm rfl) (Nat.le_of_ble_eq_true rfl)) ?_
    refine .e0 (step_store Tryz.sizeOf48 (tm rfl) (tm rfl) rfl rfl (.inr ⟨_, rfl⟩) (Heap.objs_set_same _ _ _) (Nat.le_of_ble_eq_true rfl)) ?_
    try first | rw [Heap.set_set] | rw [Heap.set_under (by assumption)]
    refine .p rfl (pure_assign ev_int) ?_
    refine .ng ?_
    refine AWP.frz (t := 6) rfl (hb6) ?_
    refine .ret ?_
    refine Block.rt ?_
    refine Next.rt ?_
    refine Ret.go (.cons (.cellI _ _ _ _ rfl Tryz.isAgg48 Tryz.sizeOf48 rfl) (.cons (.tmp _ _ rfl) .nil)) _ (Heap.le.refl _) ?_
    refine ⟨?_, rfl⟩
    unfold sigD
    rw [if_pos (by omega)]; rfl
  · try simp only [decide_eq_false_iff_not, Int.not_le] at hc25
    refine .skip ?_
    refine Block.go ?_
    refine Next.go ?_
    refine .sr ?_
    refine .p rfl (pure_loadN Tryz.isAgg48 Tryz.sizeOf48 (tm rfl) (Nat.le_of_ble_eq_true rfl)) ?_
    refine .mv rfl rfl ?_
    refine .mv rfl rfl ?_
    refine .cl rfl Tryz.call123 (evs3 rfl rfl rfl) (cut1_calls neg ds e n hdd hn (by omega) (by omega) (by omega) _) ?_
    refine .p rfl (pure_extract (tm rfl) rfl) ?_
    refine .p rfl (pure_extract (tm rfl) rfl) ?_
    refine .e0 (step_store Tryz.sizeOf48 (tm rfl) (tm rfl) rfl rfl (.inr ⟨_, rfl⟩) (Heap.objs_set_same _ _ _) (Nat.le_of_ble_eq_true rfl)) ?_
    try first | rw [Heap.set_set] | rw [Heap.set_under (by assumption)]
    refine .as rfl rfl ?_
    refine .ng ?_
    refine AWP.frz (t := 6) rfl (hb6) ?_
    refine .ret ?_
    refine Ret.go (.cons (.cellI _ _ _ _ rfl Tryz.isAgg48 Tryz.sizeOf48 rfl) (.cons (.tmp _ _ rfl) .nil)) _ (Heap.le.refl _) ?_
    refine ⟨?_, rfl⟩
    unfold sigD
    rw [if_neg (by omega)]; rfl

end Go.Proofs.YtfkeflcdadlmdaaGreatDoor

namespace Go.Proofs.YtfkeflcdadlmdaaGreatDoor
open Go Go.RowKit

theorem bytes_U (s : List UInt8) (k : Nat) : s.map bv ++ List.replicate k (.int .u8 0) = U .u8 (s.map UInt8.toNat ++ List.replicate k 0) := by
  rw [← U_app]
  unfold U
  rw [List.map_map, List.map_replicate]; rfl
theorem U_bytes (l : List UInt8) : U .u8 (l.map UInt8.toNat) = l.map bv := by
  unfold U; rw [List.map_map]; rfl
def halfN (rest : List UInt8) : Int := if rest = [53] then 0 else if (decide ((53 : Int) < (((rest.getD 0 0).toNat : Nat) : Int)) || (decide ((((rest.getD 0 0).toNat : Nat) : Int) = 53) && decide ((1 : Int) < (rest.length : Int)))) = true then 1 else -1
theorem half_up {rest : List UInt8} (h : rest ≠ []) : decide ((0 : Int) ≤ halfN rest) = upB rest := by
  unfold halfN upB
  apply decide_eq_decide.2
  cases rest with
  | nil => exact absurd rfl h
  | cons x r =>
    simp only [List.getD_cons_zero]
    split
    · rename_i h1
      have : x = 53 := by simp at h1; exact h1.1
      rw [this]; decide
    · rename_i h1
      have h2 : x.toNat = 53 → r ≠ [] := fun q q2 => h1 (by rw [q2, UInt8.toNat_inj.1 (show x.toNat = (53 : UInt8).toNat from q)])
      split
      · rename_i h3
        simp only [Bool.or_eq_true, Bool.and_eq_true, decide_eq_true_eq] at h3
        omega
      · rename_i h3
        simp only [Bool.or_eq_true, Bool.and_eq_true, decide_eq_true_eq, not_or, not_and] at h3
        constructor
        · intro q; omega
        · intro q
          have h4 : x.toNat = 53 := by omega
          have h5 := List.length_pos_iff.2 (h2 h4)
          have h6 := h3.2 (by omega)
          simp only [List.length_cons] at h6
          omega
theorem row_get {ks ts : List Nat} {n j : Nat} (hk : ks.length = n) (h1 : 1 ≤ j) (hj : j ≤ n) : (ks.take j ++ List.replicate (n - j) 48 ++ ts).getD (j - 1) 0 = ks.getD (j - 1) 0 := by
  rw [List.append_assoc, List.getD_eq_getElem?_getD, List.getElem?_append_left (by rw [List.length_take]; omega), List.getElem?_take_of_lt (by omega), List.getD_eq_getElem?_getD]
theorem row_inc {ks ts : List Nat} {n j : Nat} (hk : ks.length = n) (h1 : 1 ≤ j) (hj : j ≤ n) (v : Nat) : (ks.take j ++ List.replicate (n - j) 48 ++ ts).set (j - 1) v = (ks.take (j - 1) ++ [v] ++ List.replicate (n - j) 48) ++ ts := by
  have e : ks.take j = ks.take (j - 1) ++ [ks[j - 1]'(by omega)] := by
    rw [List.take_append_getElem (by omega), show j - 1 + 1 = j by omega]
  rw [List.append_assoc, List.set_append_left _ _ (by rw [List.length_take]; omega), e, List.set_append_right _ _ (by rw [List.length_take]; omega), List.length_take, show j - 1 - min (j - 1) ks.length = 0 by omega]
  simp
theorem row_nine {ks ts : List Nat} {n j : Nat} (hk : ks.length = n) (h1 : 1 ≤ j) (hj : j ≤ n) : (ks.take j ++ List.replicate (n - j) 48 ++ ts).set (j - 1) 48 = ks.take (j - 1) ++ List.replicate (n - (j - 1)) 48 ++ ts := by
  rw [row_inc hk h1 hj, show n - (j - 1) = (n - j) + 1 by omega, List.replicate_succ]
  simp
theorem row_len {ks ts : List Nat} {n j : Nat} (hk : ks.length = n) (hj : j ≤ n) : (ks.take j ++ List.replicate (n - j) 48).length = n ∧ n ≤ (ks.take j ++ List.replicate (n - j) 48 ++ ts).length := by
  simp only [List.length_append, List.length_take, List.length_replicate]; omega
theorem map_getD {s : List UInt8} {q : Nat} : (s.map UInt8.toNat).getD q 0 = (s.getD q 0).toNat := by
  rw [List.getD_eq_getElem?_getD, List.getD_eq_getElem?_getD, List.getElem?_map]
  cases s[q]? <;> rfl
theorem inc_all {s : List UInt8} (h : Lib.trimRightB s 57 = []) : (incD s).map UInt8.toNat = [49] ++ List.replicate s.length 48 := by
  unfold incD; rw [if_pos h]; simp
theorem inc_at {s : List UInt8} {j : Nat} (hd : Digs s) (h1 : 1 ≤ j) (hj : j ≤ s.length) (h : Lib.trimRightB s 57 = s.take j) : (incD s).map UInt8.toNat = (s.map UInt8.toNat).take (j - 1) ++ [(s.map UInt8.toNat).getD (j - 1) 0 + 1] ++ List.replicate (s.length - j) 48 := by
  have hl : (s.take j).length = j := by rw [List.length_take]; omega
  unfold incD
  rw [h, if_neg (fun q => by rw [q] at hl; simp at hl; omega), hl, List.take_take, Nat.min_eq_left (by omega), map_getD]
  have e : (s.take j).getD (j - 1) 0 = s.getD (j - 1) 0 := by
    rw [List.getD_eq_getElem?_getD, List.getElem?_take_of_lt (by omega), List.getD_eq_getElem?_getD]
  have hb := hd.at (show j - 1 < s.length by omega)
  rw [e]
  simp only [List.map_append, List.map_take, List.map_cons, List.map_nil, List.map_replicate]
  congr 2
  · congr 2
    rw [UInt8.toNat_ofNat']; omega
theorem fresh_again {H : Heap} {b c : Nat} {x : AObj} (h : (H.set b x).objs c = none) (x' : AObj) : (H.set b x').objs c = none := Heap.fresh_set h x'

def rcut_J (neg : Bool) (ds : List UInt8) (e : Int) (n b6 b c : Nat) (ts : List Nat) (H : Heap) : Nat → Env → Heap → Prop := fun k env H1 => ∃ j : Nat, j ≤ n ∧ (∀ q, j ≤ q → q < n → (ds.take n).getD q 0 = 57) ∧ env = [(3, .iptr [.bool neg, .str ds, .int .i64 e]), (6, .ptr (some ⟨b6, 0, none⟩)), (8, .int .i64 (e + (ds.length : Int) - (n : Int))), (9, .mslice (some ⟨b, 0, none⟩) n c), (14, .int .i64 ((j : Int) - 1))] ∧ H1 = (H.set b6 (.box 48 [.bool false, .str [], .int .i64 0])).set b (.box 5 (U .u8 (((ds.take n).map UInt8.toNat).take j ++ List.replicate (n - j) 48 ++ ts))) ∧ k = j

set_option maxRecDepth 100000 in
theorem rcut1_calls (neg : Bool) (ds : List UInt8) (e : Int) (n : Nat) (hd : Digs ds) (hn : 0 < n) (hn2 : n < ds.length) (hl : ds.length ≤ 2000) (he : -200000 ≤ e ∧ e ≤ 200000) (H : Heap) : ACall Tryz.prog 84 [dA neg ds e, .int .i64 (n : Int), .int .i64 1] H (fun y H' => y = dT (cutD neg ds e n) ∧ H' = H) := by
  have hdn : ds.drop n ≠ [] := by intro h; have := congrArg List.length h; simp at this; omega
  have hup := half_up hdn
  have hil := incD_len (ds.take n)
  have hkn : (ds.take n).length = n := by rw [List.length_take]; omega
  have hks : ((ds.take n).map UInt8.toNat).length = n := by rw [List.length_map, hkn]
  have hml := maxLen_eq
  have hnp : decide ((0 : Int) < (n : Int)) = true := decide_eq_true (by omega)
  have hdp := List.length_pos_iff.2 hdn
  have hkd := hd.take n
  refine ACall.of_body Tryz.func84 rfl Tryz.ntmps84 Tryz.results84 rfl ?_
  refine .sr ?_
  refine .e rfl (step_boxI (tm rfl) (.inr ⟨_, rfl⟩)) ?_
  refine .s rfl (step_alloc Tryz.zeroValue48 (zr48)) ?_
  rintro _ _ ⟨b6, hb6, rfl, hH⟩
  obtain rfl := hH.symm
  refine .p rfl (pure_assign ev_int) ?_
  refine .nr ?_
  refine .p rfl (pure_fieldI Tryz.underlying48 rfl Tryz.sizeOf3 (tm rfl)) ?_
  refine .p rfl (pure_load1 Tryz.isAgg3 (tm rfl)) ?_
  refine .p rfl (pure_fieldI Tryz.underlying48 rfl Tryz.sizeOf9 (tm rfl)) ?_
  refine .p rfl (pure_load1 Tryz.isAgg9 (tm rfl)) ?_
  refine .p rfl (pure_lenStr Tryz.underlying9 (tm rfl)) ?_
  refine .p rfl (pure_add (tm rfl) (tm rfl) (by omega)) ?_
  refine .mv rfl rfl ?_
  refine .p rfl (pure_sub (tm rfl) (tm rfl) (by omega)) ?_
  refine .as rfl rfl ?_
  refine .nr ?_
  refine .p rfl (pure_fieldI Tryz.underlying48 rfl Tryz.sizeOf9 (tm rfl)) ?_
  refine .p rfl (pure_load1 Tryz.isAgg9 (tm rfl)) ?_
  refine .mv rfl rfl ?_
  refine .p rfl (pure_sliceStrH Tryz.underlying9 (tm rfl) (tm rfl) (by omega) (by omega)) ?_
  refine .s rfl (step_bytes Tryz.underlying9 Tryz.underlying174 Tryz.underlying5 (tm rfl) (by (rw [List.length_take]; omega))) ?_
  rintro _ _ ⟨b27, c27, rfl, hcl27, hcm27, hb27, hH⟩
  obtain rfl := hH.symm
  refine .as rfl rfl ?_
  refine .ng ?_
  refine .seq ?_
  have hcl : n ≤ c27 := by rw [← hkn]; exact hcl27
  rw [bytes_U, show ((n : Int)).toNat = n from rfl, hkn]
  generalize hts : List.replicate (c27 - n) 0 = ts
  have hrow0 : ((ds.take n).map UInt8.toNat) ++ ts = ((ds.take n).map UInt8.toNat).take n ++ List.replicate (n - n) 48 ++ ts := by rw [List.take_of_length_le (l := ((ds.take n).map UInt8.toNat)) (Nat.le_of_eq hks), Nat.sub_self, List.replicate_zero, List.append_nil]
  refine .region ?_
  refine .p rfl (pure_fieldI Tryz.underlying48 rfl Tryz.sizeOf9 (tm rfl)) ?_
  refine .p rfl (pure_load1 Tryz.isAgg9 (tm rfl)) ?_
  refine .mv rfl rfl ?_
  refine .p rfl (pure_sliceStrL Tryz.underlying9 (tm rfl) (tm rfl) (by omega) (by omega)) ?_
  refine .as rfl rfl ?_
  refine .ng ?_
  refine .seq ?_
  rw [show ((n : Int)).toNat = n from rfl]
  refine .region ?_
  refine .p rfl (pure_assign ev_int) ?_
  refine .ng ?_
  refine AWP.seqToL [(11, .int .i64 (halfN (ds.drop n)))] [1, 2, 3, 6, 7, 8, 9, 10] ?_ ?_
  · refine .sr ?_
    refine .mv rfl rfl ?_
    refine .p rfl (pure_neqStr (tm rfl) (ev_str rfl)) ?_
    refine .ng ?_
    refine AWP.cond_true (tm rfl) (by show (!decide (ds.drop n = [])) = true; rw [decide_eq_false hdn]; rfl) ?_
    refine .sr ?_
    refine .p rfl (pure_assign ev_int) ?_
    refine .ng ?_
    refine AWP.seqToL [(11, .int .i64 (if (decide ((53 : Int) < ((((ds.drop n).getD 0 0).toNat : Nat) : Int)) || (decide (((((ds.drop n).getD 0 0).toNat : Nat) : Int) = 53) && decide ((1 : Int) < ((ds.drop n).length : Int)))) = true then 1 else -1))] [1, 2, 3, 6, 7, 8, 9, 10] ?_ ?_
    · refine AWP.seqTo 46 (.bool ((decide ((53 : Int) < ((((ds.drop n).getD 0 0).toNat : Nat) : Int)) || (decide (((((ds.drop n).getD 0 0).toNat : Nat) : Int) = 53) && decide ((1 : Int) < ((ds.drop n).length : Int)))))) [1, 2, 3, 6, 7, 8, 9, 10, 11] ?_ ?_
      · -- region 7
        refine .region ?_
        refine .mv rfl rfl ?_
        refine .p rfl (pure_indexStr Tryz.underlying9 (tm rfl) ev_int (by omega) (by omega)) ?_
        refine .p rfl (pure_gtr (tm rfl) (ev_nat 53)) ?_
        refine .mv rfl rfl ?_
        refine bool_casesL (t := 37) rfl (fun hg37 => ?_) (fun hg37 => ?_)
        · have hh37 := hg37; try simp only [decide_eq_true_eq] at hh37
          refine .gn rfl rfl rfl (by assumption) ?_
          refine .gn rfl rfl rfl (by assumption) ?_
          refine .gn rfl rfl rfl (by assumption) ?_
          refine .gn rfl rfl rfl (by assumption) ?_
          refine AList.gdead rfl rfl rfl ?_
          refine AList.gdead rfl rfl rfl ?_
          refine AList.gdead rfl rfl rfl ?_
          refine .gn rfl rfl rfl (by assumption) ?_
          refine .p rfl (pure_pickT (tm rfl) (by assumption) ev_bool) ?_
          refine .nil ?_
          exact ⟨rfl, sub_b rfl (by (rw [show decide ((53 : Int) < ((((ds.drop n).getD 0 0).toNat : Nat) : Int)) = _ from hg37]; rfl)) (sub_c rfl (sub_c rfl (sub_c rfl (sub_c rfl (sub_c rfl (sub_c rfl (sub_c rfl (sub_c rfl (sub_c rfl sub_n))))))))), rfl⟩
        · have hh37 := hg37; try simp only [decide_eq_false_iff_not, Int.not_lt] at hh37
          refine .gp rfl rfl rfl (by assumption) (pure_move (tm rfl)) ?_
          refine .gp rfl rfl rfl (by assumption) (pure_indexStr Tryz.underlying9 (tm rfl) ev_int (by omega) (by omega)) ?_
          refine .gp rfl rfl rfl (by assumption) (pure_eql (tm rfl) (ev_nat 53)) ?_
          refine .gp rfl rfl rfl (by assumption) (pure_move (tm rfl)) ?_
          refine bool_casesL (t := 41) rfl (fun hg41 => ?_) (fun hg41 => ?_)
          · have hh41 := hg41; try simp only [decide_eq_true_eq] at hh41
            refine .gp rfl rfl rfl (by assumption) (pure_move (tm rfl)) ?_
            refine .gp rfl rfl rfl (by assumption) (pure_lenStr Tryz.underlying9 (tm rfl)) ?_
            refine .gp rfl rfl rfl (by assumption) (pure_gtr (tm rfl) ev_int) ?_
            refine .gp rfl rfl rfl (by assumption) (pure_pickT (tm rfl) (by assumption) (tm rfl)) ?_
            refine .p rfl (pure_pickF (tm rfl) (by assumption) (tm rfl)) ?_
            refine .nil ?_
            exact ⟨rfl, sub_b rfl (by (rw [show decide ((53 : Int) < ((((ds.drop n).getD 0 0).toNat : Nat) : Int)) = _ from hg37, show decide (((((ds.drop n).getD 0 0).toNat : Nat) : Int) = 53) = _ from hg41]; rfl)) (sub_c rfl (sub_c rfl (sub_c rfl (sub_c rfl (sub_c rfl (sub_c rfl (sub_c rfl (sub_c rfl (sub_c rfl sub_n))))))))), rfl⟩
          · have hh41 := hg41; try simp only [decide_eq_false_iff_not] at hh41
            refine .gn rfl rfl rfl (by assumption) ?_
            refine .gn rfl rfl rfl (by assumption) ?_
            refine .gn rfl rfl rfl (by assumption) ?_
            refine .gp rfl rfl rfl (by assumption) (pure_pickF (tm rfl) (by assumption) ev_bool) ?_
            refine .p rfl (pure_pickF (tm rfl) (by assumption) (tm rfl)) ?_
            refine .nil ?_
            exact ⟨rfl, sub_b rfl (by (rw [show decide ((53 : Int) < ((((ds.drop n).getD 0 0).toNat : Nat) : Int)) = _ from hg37, show decide (((((ds.drop n).getD 0 0).toNat : Nat) : Int) = 53) = _ from hg41]; rfl)) (sub_c rfl (sub_c rfl (sub_c rfl (sub_c rfl (sub_c rfl (sub_c rfl (sub_c rfl (sub_c rfl (sub_c rfl sub_n))))))))), rfl⟩
      · refine AWP.sub [(46, _), (1, _), (2, _), (3, _), (6, _), (7, _), (8, _), (9, _), (10, _), (11, _)] (sub_c rfl (sub_c rfl (sub_c rfl (sub_c rfl (sub_c rfl (sub_c rfl (sub_c rfl (sub_c rfl (sub_c rfl (sub_c rfl sub_n)))))))))) ?_
        refine AWP.cond (tm rfl) (fun hc46 => ?_) (fun hc46 => ?_)
        · try simp only [decide_eq_true_eq, decide_eq_false_iff_not, Bool.not_eq_true', Bool.not_eq_false', Int.not_lt, Int.not_le, ne_eq, Decidable.not_not] at hc46
          refine .region ?_
          refine .p rfl (pure_assign ev_int) ?_
          refine .nil ?_
          exact ⟨rfl, (sub_e rfl (by (rw [if_pos hc46]; done)) (sub_c rfl (sub_c rfl (sub_c rfl (sub_c rfl (sub_c rfl (sub_c rfl (sub_c rfl (sub_c rfl sub_n))))))))), rfl⟩
        · try simp only [decide_eq_true_eq, decide_eq_false_iff_not, Bool.not_eq_true', Bool.not_eq_false', Int.not_lt, Int.not_le, ne_eq, Decidable.not_not] at hc46
          refine .skip ?_
          exact ⟨rfl, (sub_e rfl (by (rw [if_neg (by rw [hc46]; decide)]; done)) (sub_c rfl (sub_c rfl (sub_c rfl (sub_c rfl (sub_c rfl (sub_c rfl (sub_c rfl (sub_c rfl sub_n))))))))), rfl⟩
    · refine AWP.sub [(11, _), (1, _), (2, _), (3, _), (6, _), (7, _), (8, _), (9, _), (10, _)] (sub_c rfl (sub_c rfl (sub_c rfl (sub_c rfl (sub_c rfl (sub_c rfl (sub_c rfl (sub_c rfl (sub_c rfl sub_n))))))))) ?_
      refine .sr ?_
      refine .mv rfl rfl ?_
      refine .p rfl (pure_eqlStr (tm rfl) (ev_str rfl)) ?_
      refine .ng ?_
      refine AWP.cond (tm rfl) (fun hc48 => ?_) (fun hc48 => ?_)
      · try simp only [decide_eq_true_eq] at hc48
        refine .region ?_
        refine .p rfl (pure_assign ev_int) ?_
        refine .nil ?_
        exact ⟨rfl, (sub_e rfl (by unfold halfN; first | (rw [if_pos (show ds.drop n = [53] from hc48)]; done) | (rw [if_neg (show ¬ ds.drop n = [53] from hc48)]; done)) (sub_c rfl (sub_c rfl (sub_c rfl (sub_c rfl (sub_c rfl (sub_c rfl (sub_c rfl (sub_c rfl sub_n))))))))), rfl⟩
      · try simp only [decide_eq_false_iff_not] at hc48
        refine .skip ?_
        exact ⟨rfl, (sub_e rfl (by unfold halfN; first | (rw [if_pos (show ds.drop n = [53] from hc48)]; done) | (rw [if_neg (show ¬ ds.drop n = [53] from hc48)]; done)) (sub_c rfl (sub_c rfl (sub_c rfl (sub_c rfl (sub_c rfl (sub_c rfl (sub_c rfl (sub_c rfl sub_n))))))))), rfl⟩
  · refine AWP.sub [(11, _), (1, _), (2, _), (3, _), (6, _), (7, _), (8, _), (9, _), (10, _)] (sub_c rfl (sub_c rfl (sub_c rfl (sub_c rfl (sub_c rfl (sub_c rfl (sub_c rfl (sub_c rfl (sub_c rfl sub_n))))))))) ?_
    refine AWP.seqTo 12 (.bool (decide (((((ds.take n).map UInt8.toNat) ++ ts).getD (n - 1) 0 % 2 : Nat) = (1 : Int)))) [11, 1, 2, 3, 6, 7, 8, 9, 10] ?_ ?_
    · -- region 11
      refine .region ?_
      refine .mv rfl rfl ?_
      refine .p rfl (pure_gtr (tm rfl) ev_int) ?_
      refine .mv rfl rfl ?_
      refine .gp rfl rfl rfl (by assumption) (pure_move (tm rfl)) ?_
      refine .gp rfl rfl rfl (by assumption) (pure_move (tm rfl)) ?_
      refine .gp rfl rfl rfl (by assumption) (pure_sub (tm rfl) ev_int (by omega)) ?_
      refine .gp rfl rfl rfl (by assumption) (pure_indexW (n - 1) Tryz.underlying174 Tryz.sizeOf5 (tm rfl) (tm rfl) (by omega) (by omega)) ?_
      refine .gs rfl rfl rfl (by assumption) (step_loadU Tryz.isAgg5 (tm rfl) (Heap.objs_set_same _ _ _) (by (rw [List.length_append, List.length_map, List.length_take]; omega))) ?_
      rintro _ _ ⟨rfl, hH⟩
      obtain rfl := hH.symm
      refine .gp rfl rfl rfl (by assumption) (pure_rem8 (tm rfl) (ev_nat 2) (by omega)) ?_
      refine .gp rfl rfl rfl (by assumption) (pure_eql (tm rfl) (ev_nat 1)) ?_
      refine .p rfl (pure_pickT (tm rfl) (by assumption) (tm rfl)) ?_
      refine .as rfl rfl ?_
      refine .nil ?_
      exact ⟨rfl, sub_b rfl (by rfl) (sub_c rfl (sub_c rfl (sub_c rfl (sub_c rfl (sub_c rfl (sub_c rfl (sub_c rfl (sub_c rfl (sub_c rfl sub_n))))))))), rfl⟩
    · refine AWP.sub [(12, _), (11, _), (1, _), (2, _), (3, _), (6, _), (7, _), (8, _), (9, _), (10, _)] (sub_c rfl (sub_c rfl (sub_c rfl (sub_c rfl (sub_c rfl (sub_c rfl (sub_c rfl (sub_c rfl (sub_c rfl (sub_c rfl sub_n)))))))))) ?_
      refine .sr ?_
      refine .p rfl (pure_assign ev_bool) ?_
      refine .ng ?_
      refine .seq ?_
      refine .sr ?_
      refine .mv rfl rfl ?_
      refine .ng ?_
      refine .block ?_
      refine .sr ?_
      refine .p rfl (pure_eql (tm rfl) ev_int) ?_
      refine .as rfl rfl ?_
      refine .ng ?_
      refine AWP.cond_false (tm rfl) (by rfl) ?_
      refine .sr ?_
      refine .p rfl (pure_eql (tm rfl) ev_int) ?_
      refine .as rfl rfl ?_
      refine .ng ?_
      refine AWP.cond_true (tm rfl) (by rfl) ?_
      refine .region ?_
      refine .mv rfl rfl ?_
      refine .p rfl (pure_geq (tm rfl) ev_int) ?_
      refine .as rfl rfl ?_
      refine .nil ?_
      refine Block.go ?_
      refine Next.go ?_
      refine AWP.meet (fun env H2 => ∃ (b c : Nat) (zs ts : List Nat), zs = (if upB (ds.drop n) = true then incD (ds.take n) else ds.take n).map UInt8.toNat ∧ zs.length ≤ c ∧ c ≤ maxLen ∧ (H.set b6 (.box 48 [.bool false, .str [], .int .i64 0])).objs b = none ∧ env = [(3, .iptr [.bool neg, .str ds, .int .i64 e]), (6, .ptr (some ⟨b6, 0, none⟩)), (8, .int .i64 (e + (ds.length : Int) - (n : Int))), (9, .mslice (some ⟨b, 0, none⟩) zs.length c)] ∧ H2 = (H.set b6 (.box 48 [.bool false, .str [], .int .i64 0])).set b (.box 5 (U .u8 (zs ++ ts)))) ?_ ?_
      · refine AWP.seqTo 91 (.bool (upB (ds.drop n))) [1, 3, 6, 7, 8, 9] ?_ ?_
        · -- region 24
          refine .region ?_
          refine .mv rfl rfl ?_
          refine .mv rfl rfl ?_
          refine bool_casesL (t := 88) rfl (fun hg88 => ?_) (fun hg88 => ?_)
          · have hh88 := hg88; try simp only [decide_eq_true_eq] at hh88
            refine .gp rfl rfl rfl (by assumption) (pure_move (tm rfl)) ?_
            refine .gp rfl rfl rfl (by assumption) (pure_neqStr (tm rfl) (ev_str rfl)) ?_
            refine .p rfl (pure_pickT (tm rfl) (by assumption) (tm rfl)) ?_
            refine .nil ?_
            exact ⟨rfl, sub_b rfl (by (rw [← hup, show decide ((0 : Int) ≤ halfN (ds.drop n)) = _ from hg88]; show (!decide (ds.drop n = [])) = true; rw [decide_eq_false hdn]; rfl)) (sub_c rfl (sub_c rfl (sub_c rfl (sub_c rfl (sub_c rfl (sub_c rfl sub_n)))))), rfl⟩
          · have hh88 := hg88; try simp only [decide_eq_false_iff_not, Int.not_le] at hh88
            refine .gn rfl rfl rfl (by assumption) ?_
            refine .gn rfl rfl rfl (by assumption) ?_
            refine .p rfl (pure_pickF (tm rfl) (by assumption) ev_bool) ?_
            refine .nil ?_
            exact ⟨rfl, sub_b rfl (by (rw [← hup, show decide ((0 : Int) ≤ halfN (ds.drop n)) = _ from hg88]; done)) (sub_c rfl (sub_c rfl (sub_c rfl (sub_c rfl (sub_c rfl (sub_c rfl sub_n)))))), rfl⟩
        · refine AWP.sub [(91, _), (1, _), (3, _), (6, _), (7, _), (8, _), (9, _)] (sub_c rfl (sub_c rfl (sub_c rfl (sub_c rfl (sub_c rfl (sub_c rfl (sub_c rfl sub_n))))))) ?_
          refine AWP.cond (tm rfl) (fun hc91 => ?_) (fun hc91 => ?_)
          · try simp only [decide_eq_true_eq, decide_eq_false_iff_not, Bool.not_eq_true', Bool.not_eq_false', Int.not_lt, Int.not_le, ne_eq, Decidable.not_not] at hc91
            refine .sr ?_
            refine .mv rfl rfl ?_
            refine .p rfl (pure_sub (tm rfl) ev_int (by omega)) ?_
            refine .as rfl rfl ?_
            refine .ng ?_
            refine .seq ?_
            refine .block ?_
            refine AWP.loopW (rcut_J neg ds e n b6 b27 c27 ts H) (n) ⟨n, Nat.le_refl _, fun q h1 h2 => by omega, rfl, by rw [hrow0], rfl⟩ (sub_c rfl (sub_c rfl (sub_c rfl (sub_c rfl (sub_c rfl sub_n))))) (Heap.le.refl _) ?_
            rintro _ _ _ ⟨j, hj, h9, rfl, rfl, hk⟩
            refine .seq ?_
            refine AWP.seqTo 102 (.bool (decide ((0 : Int) ≤ (j : Int) - 1) && decide ((((((ds.take n).map UInt8.toNat).take j ++ List.replicate (n - j) 48 ++ ts).getD (j - 1) 0 : Nat) : Int) = ((57 : Nat) : Int)))) [3, 6, 8, 9, 14] ?_ ?_
            · -- region 26
              refine .region ?_
              refine .mv rfl rfl ?_
              refine .p rfl (pure_geq (tm rfl) ev_int) ?_
              refine .mv rfl rfl ?_
              refine bool_casesL (t := 96) rfl (fun hg96 => ?_) (fun hg96 => ?_)
              · have hh96 := hg96; try simp only [decide_eq_true_eq] at hh96
                refine .gp rfl rfl rfl (by assumption) (pure_move (tm rfl)) ?_
                refine .gp rfl rfl rfl (by assumption) (pure_move (tm rfl)) ?_
                refine .gp rfl rfl rfl (by assumption) (pure_indexW (j - 1) Tryz.underlying174 Tryz.sizeOf5 (tm rfl) (tm rfl) (by omega) (by omega)) ?_
                refine .gs rfl rfl rfl (by assumption) (step_loadU Tryz.isAgg5 (tm rfl) (Heap.objs_set_same _ _ _) (by (have := (row_len (ts := ts) hks (show j ≤ n by omega)).2; omega))) ?_
                rintro _ _ ⟨rfl, hH⟩
                obtain rfl := hH.symm
                refine .gp rfl rfl rfl (by assumption) (pure_eql (tm rfl) (ev_nat 57)) ?_
                refine .p rfl (pure_pickT (tm rfl) (by assumption) (tm rfl)) ?_
                refine .nil ?_
                exact ⟨rfl, sub_b rfl (by (rw [show decide ((0 : Int) ≤ (j : Int) - 1) = _ from hg96]; rfl)) (sub_c rfl (sub_c rfl (sub_c rfl (sub_c rfl (sub_c rfl sub_n))))), rfl⟩
              · have hh96 := hg96; try simp only [decide_eq_false_iff_not, Int.not_le] at hh96
                refine .gn rfl rfl rfl (by assumption) ?_
                refine .gn rfl rfl rfl (by assumption) ?_
                refine .gn rfl rfl rfl (by assumption) ?_
                refine .gn rfl rfl rfl (by assumption) ?_
                refine .gn rfl rfl rfl (by assumption) ?_
                refine .p rfl (pure_pickF (tm rfl) (by assumption) ev_bool) ?_
                refine .nil ?_
                exact ⟨rfl, sub_b rfl (by (rw [show decide ((0 : Int) ≤ (j : Int) - 1) = _ from hg96]; rfl)) (sub_c rfl (sub_c rfl (sub_c rfl (sub_c rfl (sub_c rfl sub_n))))), rfl⟩
            · refine AWP.sub [(102, _), (3, _), (6, _), (8, _), (9, _), (14, _)] (sub_c rfl (sub_c rfl (sub_c rfl (sub_c rfl (sub_c rfl (sub_c rfl sub_n)))))) ?_
              refine AWP.cond (tm rfl) (fun hc102 => ?_) (fun hc102 => ?_)
              · try simp only [decide_eq_true_eq, decide_eq_false_iff_not, Bool.not_eq_true', Bool.not_eq_false', Int.not_lt, Int.not_le, ne_eq, Decidable.not_not] at hc102
                simp only [Bool.and_eq_true, decide_eq_true_eq] at hc102
                obtain ⟨hj1, hc102b⟩ := hc102
                have hgr := row_get (ts := ts) hks (show 1 ≤ j by omega) hj
                have h57 : (ds.take n).getD (j - 1) 0 = 57 := by
                  have h := hc102b
                  rw [hgr, map_getD] at h
                  exact UInt8.toNat_inj.1 (show _ = (57 : UInt8).toNat by simp only [UInt8.reduceToNat]; omega)
                refine .skip ?_
                refine Next.go ?_
                refine .block ?_
                refine .sr ?_
                refine .mv rfl rfl ?_
                refine .mv rfl rfl ?_
                refine .p rfl (pure_indexW (j - 1) Tryz.underlying174 Tryz.sizeOf5 (tm rfl) (tm rfl) (by omega) (by omega)) ?_
                refine .e0 (step_storeU Tryz.sizeOf5 (tm rfl) (ev_nat 48) (Heap.objs_set_same _ _ _) (by (have := (row_len (ts := ts) hks (show j ≤ n by omega)).2; omega))) ?_
                try first | rw [Heap.set_set] | rw [Heap.set_under (by assumption)]
                refine .ng ?_
                refine .region ?_
                refine .mv rfl rfl ?_
                refine .p rfl (pure_sub (tm rfl) ev_int (by omega)) ?_
                refine .as rfl rfl ?_
                refine .nil ?_
                refine Block.go ?_
                refine Next.go ?_
                rw [row_nine hks (by omega) hj]
                refine Round.mk (J := rcut_J neg ds e n b6 b27 c27 ts H) ⟨j - 1, by omega, fun q h1 h2 => by rcases Nat.lt_or_ge q j with h | h; rw [show q = j - 1 by omega]; exact h57; exact h9 q h h2, rfl, rfl, rfl⟩ (sub_c rfl (sub_c rfl (sub_c rfl (sub_c rfl (sub_e rfl (by congr 1; omega) sub_n))))) (Heap.le.refl _) (by omega)
              · try simp only [decide_eq_true_eq, decide_eq_false_iff_not, Bool.not_eq_true', Bool.not_eq_false', Int.not_lt, Int.not_le, ne_eq, Decidable.not_not] at hc102
                simp only [Bool.and_eq_false_iff, decide_eq_false_iff_not] at hc102
                have hne : 0 < j → (ds.take n).getD (j - 1) 0 ≠ 57 := fun hp h => hc102.elim (fun q => q (by omega)) (fun q => q (by rw [row_get (ts := ts) hks hp hj, map_getD, h]; rfl))
                have htr := trimR_take (l := ds.take n) (c := 57) (by omega) (fun q h1 h2 => h9 q h1 (by omega)) hne
                refine .exit ?_
                refine Next.ex ?_
                refine Next.ex ?_
                refine Block.hit ?_
                refine Next.go ?_
                refine .sr ?_
                refine .mv rfl rfl ?_
                refine .p rfl (pure_lss (tm rfl) ev_int) ?_
                refine .ng ?_
                refine AWP.cond (tm rfl) (fun hc109 => ?_) (fun hc109 => ?_)
                · try simp only [decide_eq_true_eq] at hc109
                  have hj0 : j = 0 := by omega
                  subst hj0
                  refine AWP.frzU (t := 9) rfl hb27 (row_len (ts := ts) hks (Nat.zero_le _)).2 hcl hcm27 ?_
                  rw [List.take_zero, List.nil_append, Nat.sub_zero, List.take_left' List.length_replicate]
                  refine .region ?_
                  refine .e rfl (step_bs1 Tryz.underlying174 Tryz.sizeOf5 Tryz.zeroValue5 rfl (ev_nat 49) (.inl rfl) ⟨rfl, rfl⟩) ?_
                  refine .mv rfl rfl ?_
                  refine .s rfl (step_appendN (xs := [49]) (ys := List.replicate n 48) Tryz.underlying174 Tryz.underlying174 Tryz.sizeOf5 Tryz.typeInfo5 Tryz.zeroValue5 (by decide) (tm rfl) (tm rfl) (by show _ * 1 ≤ _; simp only [List.length_replicate, List.length_cons, List.length_nil]; omega) (by rw [List.length_replicate]; exact hn)) ?_
                  rintro _ _ ⟨b112, c112, rfl, hb112, hcl112, hcm112, hH⟩
                  obtain rfl := hH.symm
                  refine .as rfl rfl ?_
                  refine .ng ?_
                  refine Meets.mk (M := fun env H2 => ∃ (b c : Nat) (zs ts : List Nat), zs = (if upB (ds.drop n) = true then incD (ds.take n) else ds.take n).map UInt8.toNat ∧ zs.length ≤ c ∧ c ≤ maxLen ∧ (H.set b6 (.box 48 [.bool false, .str [], .int .i64 0])).objs b = none ∧ env = [(3, .iptr [.bool neg, .str ds, .int .i64 e]), (6, .ptr (some ⟨b6, 0, none⟩)), (8, .int .i64 (e + (ds.length : Int) - (n : Int))), (9, .mslice (some ⟨b, 0, none⟩) zs.length c)] ∧ H2 = (H.set b6 (.box 48 [.bool false, .str [], .int .i64 0])).set b (.box 5 (U .u8 (zs ++ ts)))) ⟨b112, c112, [49] ++ List.replicate n 48, _, by rw [if_pos (by assumption), inc_all htr, hkn], hcl112, hcm112, hb112, rfl, rfl⟩ (sub_c rfl (sub_c rfl (sub_c rfl (sub_c rfl sub_n)))) (Heap.le.refl _)
                · try simp only [decide_eq_false_iff_not, Int.not_lt] at hc109
                  have hgr := row_get (ts := ts) hks (show 1 ≤ j by omega) hj
                  have hbd := hkd.at (show j - 1 < (ds.take n).length by omega)
                  rw [← map_getD, ← hgr] at hbd
                  refine .region ?_
                  refine .mv rfl rfl ?_
                  refine .mv rfl rfl ?_
                  refine .p rfl (pure_indexW (j - 1) Tryz.underlying174 Tryz.sizeOf5 (tm rfl) (tm rfl) (by omega) (by omega)) ?_
                  refine .e rfl (step_loadU Tryz.isAgg5 (tm rfl) (Heap.objs_set_same _ _ _) (by (have := (row_len (ts := ts) hks (show j ≤ n by omega)).2; omega))) ?_
                  refine .p rfl (pure_addX8 (tm rfl) (ev_nat 1) (by omega)) ?_
                  refine .p rfl (pure_indexW (j - 1) Tryz.underlying174 Tryz.sizeOf5 (tm rfl) (tm rfl) (by omega) (by omega)) ?_
                  refine .e0 (step_storeU Tryz.sizeOf5 (tm rfl) (tm rfl) (Heap.objs_set_same _ _ _) (by (have := (row_len (ts := ts) hks (show j ≤ n by omega)).2; omega))) ?_
                  try first | rw [Heap.set_set] | rw [Heap.set_under (by assumption)]
                  refine .ng ?_
                  refine Meets.mk (M := fun env H2 => ∃ (b c : Nat) (zs ts : List Nat), zs = (if upB (ds.drop n) = true then incD (ds.take n) else ds.take n).map UInt8.toNat ∧ zs.length ≤ c ∧ c ≤ maxLen ∧ (H.set b6 (.box 48 [.bool false, .str [], .int .i64 0])).objs b = none ∧ env = [(3, .iptr [.bool neg, .str ds, .int .i64 e]), (6, .ptr (some ⟨b6, 0, none⟩)), (8, .int .i64 (e + (ds.length : Int) - (n : Int))), (9, .mslice (some ⟨b, 0, none⟩) zs.length c)] ∧ H2 = (H.set b6 (.box 48 [.bool false, .str [], .int .i64 0])).set b (.box 5 (U .u8 (zs ++ ts)))) ⟨b27, c27, ((ds.take n).map UInt8.toNat).take (j - 1) ++ [(((ds.take n).map UInt8.toNat).take j ++ List.replicate (n - j) 48 ++ ts).getD (j - 1) 0 + 1] ++ List.replicate (n - j) 48, ts, by rw [if_pos (by assumption), inc_at hkd (by omega) (by omega) htr, hkn, hgr], by rw [List.length_append, List.length_append, List.length_take, List.length_replicate, List.length_cons, List.length_nil]; omega, hcm27, hb27, rfl, by rw [row_inc hks (by omega) hj]⟩ (sub_c rfl (sub_c rfl (sub_c rfl (sub_e rfl (by rw [List.length_append, List.length_append, List.length_take, List.length_replicate, List.length_cons, List.length_nil]; congr 1; omega) sub_n)))) (Heap.le.refl _)
          · try simp only [decide_eq_true_eq, decide_eq_false_iff_not, Bool.not_eq_true', Bool.not_eq_false', Int.not_lt, Int.not_le, ne_eq, Decidable.not_not] at hc91
            refine .skip ?_
            refine Next.go ?_
            refine Meets.mk (M := fun env H2 => ∃ (b c : Nat) (zs ts : List Nat), zs = (if upB (ds.drop n) = true then incD (ds.take n) else ds.take n).map UInt8.toNat ∧ zs.length ≤ c ∧ c ≤ maxLen ∧ (H.set b6 (.box 48 [.bool false, .str [], .int .i64 0])).objs b = none ∧ env = [(3, .iptr [.bool neg, .str ds, .int .i64 e]), (6, .ptr (some ⟨b6, 0, none⟩)), (8, .int .i64 (e + (ds.length : Int) - (n : Int))), (9, .mslice (some ⟨b, 0, none⟩) zs.length c)] ∧ H2 = (H.set b6 (.box 48 [.bool false, .str [], .int .i64 0])).set b (.box 5 (U .u8 (zs ++ ts)))) ⟨b27, c27, ((ds.take n).map UInt8.toNat), ts, by rw [if_neg (by (rw [hc91]; decide))], by omega, hcm27, hb27, rfl, rfl⟩ (sub_c rfl (sub_c rfl (sub_c rfl (sub_e rfl (by rw [hks]) sub_n)))) (Heap.le.refl _)
      · rintro _ _ ⟨b, c, zs, ts2, hzs, hzc, hcm, hbz, rfl, rfl⟩
        have hne6 := Heap.fresh_ne hbz
        refine .sr ?_
        refine .p rfl (pure_fieldI Tryz.underlying48 rfl Tryz.sizeOf4 (tm rfl)) ?_
        refine .p rfl (pure_load1 Tryz.isAgg4 (tm rfl)) ?_
        refine .mv rfl rfl ?_
        refine .e rfl (step_text (l := (if upB (ds.drop n) = true then incD (ds.take n) else ds.take n)) Tryz.underlying174 Tryz.underlying9 Tryz.underlying5 (tm rfl) (Heap.objs_set_same _ _ _) (by rw [hzs, List.length_map]) (by rw [List.drop_zero, U_take, List.take_left, hzs, U_bytes]) (Nat.le_trans hzc hcm)) ?_
        refine .mv rfl rfl ?_
        refine .cl rfl Tryz.call41 (evs3 rfl rfl rfl) (rMake_calls neg (if upB (ds.drop n) = true then incD (ds.take n) else ds.take n) _ (by split; exact incD_digs hkd; exact hkd) (by split <;> omega) (by constructor <;> omega) _) ?_
        refine .p rfl (pure_extract (tm rfl) rfl) ?_
        refine .p rfl (pure_extract (tm rfl) rfl) ?_
        refine .e0 (step_store Tryz.sizeOf48 (tm rfl) (tm rfl) rfl rfl (.inr ⟨_, rfl⟩) ((Heap.objs_set_ne _ _ (by assumption)).trans (Heap.objs_set_same _ _ _)) (Nat.le_of_ble_eq_true rfl)) ?_
        try first | rw [Heap.set_set] | rw [Heap.set_under (by assumption)]
        refine .as rfl rfl ?_
        refine .ng ?_
        refine AWP.dropb (fresh_again hbz _) ?_
        refine AWP.frz (t := 6) rfl hb6 ?_
        refine .ret ?_
        refine Ret.go (.cons (.cellI _ _ _ _ rfl Tryz.isAgg48 Tryz.sizeOf48 rfl) (.cons (.tmp _ _ rfl) .nil)) _ (Heap.le.refl _) ?_
        refine ⟨?_, rfl⟩
        rfl

set_option maxRecDepth 100000 in
theorem rSig_calls (neg : Bool) (ds : List UInt8) (e : Int) (n : Nat) (hr : rightB ds e = true) (hn : 0 < n) (hn2 : n ≤ 100000) (H : Heap) : ACall Tryz.prog 49 [dA neg ds e, .int .i64 (n : Int), .int .i64 1] H (fun y H' => y = dT (sigD neg ds e n) ∧ H' = H) := by
  have hk1 : (!rightB ds e) = false := by rw [hr]; rfl
  have hrl := rightB_len hr
  have hdd := right_digs hr
  refine ACall.of_body Tryz.func49 rfl Tryz.ntmps49 Tryz.results49 rfl ?_
  refine .sr ?_
  refine .e rfl (step_boxI (tm rfl) (.inr ⟨_, rfl⟩)) ?_
  refine .s rfl (step_alloc Tryz.zeroValue48 (zr48)) ?_
  rintro _ _ ⟨b6, hb6, rfl, hH⟩
  obtain rfl := hH.symm
  refine .p rfl (pure_assign ev_int) ?_
  refine .nr ?_
  refine .p rfl (pure_loadN Tryz.isAgg48 Tryz.sizeOf48 (tm rfl) (Nat.le_of_ble_eq_true rfl)) ?_
  refine .cl rfl Tryz.call19 (evs1 rfl) (rRight_calls neg ds e (by rw [maxLen_eq]; omega) _) ?_
  refine .as rfl rfl ?_
  refine .ng ?_
  refine .seq ?_
  refine .sr ?_
  refine .mv rfl rfl ?_
  refine .p rfl (pure_not (tm rfl)) ?_
  refine .mv rfl rfl ?_
  refine .gp rfl rfl rfl (by assumption) (pure_move (tm rfl)) ?_
  refine .gp rfl rfl rfl (by assumption) (pure_lss (tm rfl) ev_int) ?_
  refine .p rfl (pure_pickF (tm rfl) (by assumption) (tm rfl)) ?_
  refine .mv rfl rfl ?_
  refine .gp rfl rfl rfl (by rfl) (pure_move (tm rfl)) ?_
  refine .gp rfl rfl rfl (by rfl) (pure_gtr (tm rfl) ev_int) ?_
  refine .p rfl (pure_pickF (tm rfl) (by rfl) (tm rfl)) ?_
  refine .mv rfl rfl ?_
  refine .gp rfl rfl rfl (by rfl) (pure_move (tm rfl)) ?_
  refine .gp rfl rfl rfl (by rfl) (pure_lss (tm rfl) ev_int) ?_
  refine .p rfl (pure_pickF (tm rfl) (by rfl) (tm rfl)) ?_
  refine .ng ?_
  refine AWP.cond_false (tm rfl) (by exact decide_eq_false (by omega)) ?_
  refine .skip ?_
  refine Next.go ?_
  refine .seq ?_
  refine .sr ?_
  refine .p rfl (pure_fieldI Tryz.underlying48 rfl Tryz.sizeOf9 (tm rfl)) ?_
  refine .p rfl (pure_load1 Tryz.isAgg9 (tm rfl)) ?_
  refine .p rfl (pure_lenStr Tryz.underlying9 (tm rfl)) ?_
  refine .mv rfl rfl ?_
  refine .p rfl (pure_leq (tm rfl) (tm rfl)) ?_
  refine .ng ?_
  refine AWP.cond (tm rfl) (fun hc30 => ?_) (fun hc30 => ?_)
  · try simp only [decide_eq_true_eq] at hc30
    refine .sr ?_
    refine .p rfl (pure_loadN Tryz.isAgg48 Tryz.sizeOf48 (tm rfl) (Nat.le_of_ble_eq_true rfl)) ?_
    refine .e0 (step_store Tryz.sizeOf48 (tm rfl) (tm rfl) rfl rfl (.inr ⟨_, rfl⟩) (Heap.objs_set_same _ _ _) (Nat.le_of_ble_eq_true rfl)) ?_
    try first | rw [Heap.set_set] | rw [Heap.set_under (by assumption)]
    refine .p rfl (pure_assign ev_int) ?_
    refine .ng ?_
    refine AWP.frz (t := 6) rfl (hb6) ?_
    refine .ret ?_
    refine Next.rt ?_
    refine Ret.go (.cons (.cellI _ _ _ _ rfl Tryz.isAgg48 Tryz.sizeOf48 rfl) (.cons (.tmp _ _ rfl) .nil)) _ (Heap.le.refl _) ?_
    refine ⟨?_, rfl⟩
    unfold sigD
    rw [if_pos (by omega)]; rfl
  · try simp only [decide_eq_false_iff_not, Int.not_le] at hc30
    refine .skip ?_
    refine Next.go ?_
    refine .sr ?_
    refine .p rfl (pure_loadN Tryz.isAgg48 Tryz.sizeOf48 (tm rfl) (Nat.le_of_ble_eq_true rfl)) ?_
    refine .mv rfl rfl ?_
    refine .mv rfl rfl ?_
    refine .cl rfl Tryz.call84 (evs3 rfl rfl rfl) (rcut1_calls neg ds e n hdd hn (by omega) (by omega) (by omega) _) ?_
    refine .p rfl (pure_extract (tm rfl) rfl) ?_
    refine .p rfl (pure_extract (tm rfl) rfl) ?_
    refine .e0 (step_store Tryz.sizeOf48 (tm rfl) (tm rfl) rfl rfl (.inr ⟨_, rfl⟩) (Heap.objs_set_same _ _ _) (Nat.le_of_ble_eq_true rfl)) ?_
    try first | rw [Heap.set_set] | rw [Heap.set_under (by assumption)]
    refine .as rfl rfl ?_
    refine .ng ?_
    refine AWP.frz (t := 6) rfl (hb6) ?_
    refine .ret ?_
    refine Ret.go (.cons (.cellI _ _ _ _ rfl Tryz.isAgg48 Tryz.sizeOf48 rfl) (.cons (.tmp _ _ rfl) .nil)) _ (Heap.le.refl _) ?_
    refine ⟨?_, rfl⟩
    unfold sigD
    rw [if_neg (by omega)]; rfl

end Go.Proofs.YtfkeflcdadlmdaaGreatDoor
