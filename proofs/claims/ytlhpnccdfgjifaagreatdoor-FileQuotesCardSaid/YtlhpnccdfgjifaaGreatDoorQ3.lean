/-
  tabardref22.Unquote: the reference, by the kit's walk.
-/
import Derived.Test.YtlhpnccdfgjifaaGreatDoorQ2
import Derived.IntWalk
namespace Go.Proofs.YtlhpnccdfgjifaaGreatDoor
open Go Go.RowKit Go.Shelf

def InQ (s m : List UInt8) : Prop := s = 34 :: (m ++ [34])
theorem InQ.len {s m : List UInt8} (h : InQ s m) : m.length + 2 = s.length := by unfold InQ at h; rw [h]; simp
theorem InQ.at {s m : List UInt8} (h : InQ s m) {k : Nat} (hk : k < m.length) (h2 : k + 1 < s.length) : s[k + 1] = m[k] := by
  unfold InQ at h
  subst h
  simp [hk]
theorem InQ.of {s : List UInt8} (h0 : 2 ≤ s.length) (h1 : s[0]? = some 34) (h2 : s[s.length - 1]? = some 34) : ∃ m, InQ s m := by
  cases s with
  | nil => simp at h0
  | cons c r =>
    simp at h1
    subst h1
    have hr : r ≠ [] := by rintro rfl; simp at h0
    refine ⟨r.dropLast, ?_⟩
    unfold InQ
    have : r.getLast hr = 34 := by
      have h3 : (34 :: r)[(34 :: r).length - 1]? = r.getLast? := by
        simp only [List.length_cons, Nat.add_sub_cancel]
        rw [List.getLast?_eq_getElem?]
        cases r with
        | nil => exact absurd rfl hr
        | cons x r => simp
      rw [h3, List.getLast?_eq_some_getLast hr] at h2
      exact Option.some.inj h2
    rw [← this, List.dropLast_concat_getLast]
theorem InQ.next {s m : List UInt8} (h : InQ s m) {q p : Nat} (e : q + 1 = p) (hp : p ≤ m.length) : ∃ c, m.drop q = c :: m.drop p ∧ p < s.length ∧ ∀ h, (⟨s.toArray⟩ : ByteArray)[p]'h = c := by
  subst e
  have hl := h.len
  refine ⟨m[q], List.drop_eq_getElem_cons hp, by omega, fun h2 => ?_⟩
  exact h.at hp (by omega)
theorem at_z {s : List UInt8} {p : Nat} {c : UInt8} (h : ∀ h, (⟨s.toArray⟩ : ByteArray)[p]'h = c) {z : Int} (hz : z = (p : Int)) : ∀ h, (⟨s.toArray⟩ : ByteArray)[z.toNat]'h = c := by
  subst hz
  intro h2
  exact h h2
theorem six_cases (n : Nat) : six6 n = -1 ∨ ∃ x : Nat, x ≤ 15 ∧ six6 n = (x : Int) := by
  unfold six6
  split
  · exact .inr ⟨n - 48, by omega, by omega⟩
  · split
    · exact .inr ⟨n - 87, by omega, by omega⟩
    · exact .inl rfl
theorem own_kept {w w' : World} {B : Nat} {v : Value} {n : Nat} {xs : List Value} (h : w.ownsRow B 5 1 v n xs) (k : Below w.heap.size w w') : w'.ownsRow B 5 1 v n xs :=
  h.kept (row := none) ⟨k.os, k.tape, k.output, k.size, fun j hj _ => k.block j hj⟩ (by cases hv : v.ownBlock <;> simp)
set_option pp.maxSteps 600 in
set_option maxHeartbeats 8000000 in
set_option maxRecDepth 1000000 in
theorem refUnquote_walk (s : List UInt8) (w : World) (hs : s.length ≤ 100000) :
    Calls Tryz.prog 6 #[.string ⟨s.toArray⟩] w fun e w' => e = .returned (unqR s) ∧ Below w.heap.size w w' := by
  have hsz : (⟨s.toArray⟩ : ByteArray).size = s.length := rfl
  obtain ⟨i5, hi, hz0, hz1, hz2⟩ := info5_spec
  go_enter Tryz.func6, Tryz.ntmps6
  by_cases hl2 : s.length < 2
  · have hno := unqR_no (s := s) fun t h => by rw [← h] at hl2; simp [quoteS] at hl2; omega
    go_wp2_with fail
    all_goals first | (exfalso; simp_all; done) | (exfalso; simp_all; omega) | skip
    go_ret2
    exact ⟨by first | rfl | (rw [hno]; rfl), Below.refl _ _⟩
  by_cases ha : s[0]'(by omega) = 34
  case neg =>
    have hno := unqR_no (s := s) fun t h => by subst h; exact ha rfl
    have ha2 : ∀ h, (⟨s.toArray⟩ : ByteArray)[0]'h = s[0]'(by omega) := fun h => rfl
    generalize s[0]'(by omega) = c at ha ha2
    have ha3 : c.toNat ≠ 34 := fun h => ha (UInt8.toNat_inj.1 h)
    go_wp2_with fail
    all_goals first | (exfalso; simp_all; done) | (exfalso; simp_all; omega) | skip
    all_goals go_ret2
    all_goals exact ⟨by first | rfl | (rw [hno]; rfl), Below.refl _ _⟩
  by_cases hb : s[s.length - 1]'(by omega) = 34
  case neg =>
    have hno := unqR_no (s := s) fun t h => by
      subst h
      exact hb (by simp [quoteS])
    have ha2 : ∀ h, (⟨s.toArray⟩ : ByteArray)[0]'h = 34 := fun h => ha
    obtain ⟨c, hc⟩ : ∃ c, c = s[s.length - 1]'(by omega) := ⟨_, rfl⟩
    have hb2 : ∀ h, (⟨s.toArray⟩ : ByteArray)[s.length - 1]'h = c := fun h => hc.symm
    have hb3 : c.toNat ≠ 34 := fun h => hb (by rw [← hc]; exact UInt8.toNat_inj.1 h)
    clear hc hb ha
    go_wp2_with fail
    all_goals first | (exfalso; simp_all; done) | (exfalso; simp_all; omega) | skip
    all_goals go_ret2
    all_goals exact ⟨by first | rfl | (rw [hno]; rfl), Below.refl _ _⟩
  obtain ⟨m, hq⟩ := InQ.of (s := s) (by omega) (by rw [List.getElem?_eq_getElem (by omega), ha]) (by rw [List.getElem?_eq_getElem (by omega), hb])
  have hlen := hq.len
  have ha2 : ∀ h, (⟨s.toArray⟩ : ByteArray)[0]'h = 34 := fun h => ha
  have hb2 : ∀ h, (⟨s.toArray⟩ : ByteArray)[s.length - 1]'h = 34 := fun h => hb
  clear ha hb
  go_wp2_with fail
  all_goals first | (exfalso; simp_all; done) | (exfalso; simp_all; omega) | skip
  go_loopw [4, 5] (fun v i wr => ∃ (p : Nat) (bs : List UInt8), i = .int .i64 (p : Int) ∧ 1 ≤ p ∧ p ≤ m.length + 1 ∧ bs.length ≤ p ∧ Left s bs (m.drop (p - 1)) ∧ wr.ownsRow w.heap.size 5 1 v bs.length (Lib.byteCells bs) ∧ Below w.heap.size w wr) (fun _ i _ => s.length - (intOf i).toNat)
  case atStart =>
    refine ⟨1, [], rfl, Nat.le_refl _, by omega, by simp, fun t h => ⟨t, rfl, ?_⟩, World.ownsRow_nil _ _ _ _, Below.refl _ _⟩
    have : bodyS t ++ [34] = m ++ [34] := by have h2 : s = 34 :: (m ++ [34]) := hq; rw [h2] at h; simpa [quoteS] using h
    exact (List.append_cancel_right this).symm
  case round =>
    obtain ⟨p, bs, rfl, hp1, hpm, hbl, hleft, hown, hbw⟩ := hrel
    have hsw : w.heap.size ≤ wr.heap.size := hbw.size
    by_cases hE : p = m.length + 1
    · have hlt : ¬ ((p : Int) < (s.length : Int) - 1) := by omega
      have hfin : ∀ t, quoteS t = s → t = bs := fun t h => by
        obtain ⟨t2, h1, h2⟩ := hleft t h
        have e : m.drop (p - 1) = [] := List.drop_eq_nil_of_le (by omega)
        rw [e] at h2
        cases t2 with
        | nil => simpa using h1
        | cons c t2 => have := (q1_len c).1; simp [bodyS] at h2; rw [h2.1] at this; simp at this
      have hcv := own_string hown
      clear hleft
      go_wp2_with fail
      all_goals first | (exfalso; simp_all; done) | (exfalso; simp_all; omega) | skip
      refine (refQuote_walk bs wr (by omega)).mono ?_
      rintro e W2 ⟨rfl, b2⟩
      have hcv2 := own_string (own_kept hown b2)
      by_cases hq2 : quoteS bs = s
      · have hn := unqR_yes hq2
        rw [hq2]
        go_wp2_with fail
        all_goals first | (exfalso; simp_all; done) | (exfalso; simp_all; omega) | skip
        go_ret2
        exact ⟨by first | rfl | (rw [hn]; rfl), hbw.trans (b2.mono hsw)⟩
      · have hno := unqR_no fun t h => hq2 (by rw [← hfin t h]; exact h)
        have hq3 : (quoteS bs == s) = false := by simpa using hq2
        go_wp2_with fail
        all_goals first | (exfalso; simp_all; done) | (exfalso; simp_all; omega) | skip
        go_ret2
        exact ⟨by first | rfl | (rw [hno]; rfl), hbw.trans (b2.mono hsw)⟩
    have hlt : (p : Int) < (s.length : Int) - 1 := by omega
    obtain ⟨c, hd, hps, hc⟩ := hq.next (q := p - 1) (p := p) (by omega) (by omega)
    rw [hd] at hleft
    by_cases d1 : c.toNat = 92
    case neg =>
      have hL := hleft.one d1
      go_wp2_with (at_builtin; refine wpList_append_own _ rfl _ _ 40 rfl w.heap.size 5 i5 (.int .u8 0) 1 1 Tryz.underlying40 hi hz0 hz1 hz2 rfl (by decide) _ _ _ rfl (hown.alloc _) ⟨wr.heap.size, 0, none⟩ 1 1 (Lib.byteCells [c]) rfl rfl (fun j u hj => alloc_cells wr (Lib.byteCells [c]) 5 j u hj) (bytes_one _) (by simp only [maxLen]; omega) (by omega) (by simp; omega) ?_; intro v' w' ho' hg' _)
      all_goals first | (exfalso; simp_all; done) | (exfalso; simp_all; omega) | skip
      all_goals
        go_roundw
        case rel => exact ⟨p + 1, bs ++ [c], by simp, by omega, by omega, by simp; omega, hL, row_add w' _ v' bs [c] _ 1 rfl ho' rfl, own_below hown hbw ((Below.refl _ wr).alloc (Nat.le_refl _) _) hg'⟩
        case measure =>
          show s.length - ((p : Int) + 1).toNat < s.length - ((p : Int)).toNat
          omega
    by_cases hB : p = m.length
    · have hno := unqR_no (s := s) fun t => by
        have e : m.drop p = [] := List.drop_eq_nil_of_le (by omega)
        rw [e] at hleft
        exact hleft.lone d1 t
      have l1 : ¬ ((p : Int) + 1 < (s.length : Int) - 1) := by omega
      have l3 : ¬ ((p : Int) + 3 < (s.length : Int) - 1) := by omega
      go_wp2_with fail
      all_goals first | (exfalso; simp_all; done) | (exfalso; simp_all; omega) | skip
      all_goals go_ret2
      all_goals exact ⟨by first | rfl | (rw [hno]; rfl), hbw⟩
    obtain ⟨x, hdx, hpx, hx⟩ := hq.next (q := p) (p := p + 1) rfl (by omega)
    have hxz := at_z hx (z := (p : Int) + 1) (by omega)
    rw [hdx] at hleft
    have l1 : ((p : Int) + 1 < (s.length : Int) - 1) := by omega
    by_cases dx34 : x.toNat = 34
    · have hcc : x = 34 := UInt8.toNat_inj.1 dx34
      subst hcc
      have hL := hleft.two d1 (.inl (by decide))
      clear hleft
      go_wp2_with (at_builtin; refine wpList_append_own _ rfl _ _ 40 rfl w.heap.size 5 i5 (.int .u8 0) 1 1 Tryz.underlying40 hi hz0 hz1 hz2 rfl (by decide) _ _ _ rfl (hown.alloc _) ⟨wr.heap.size, 0, none⟩ 1 1 (Lib.byteCells [34]) rfl rfl (fun j u hj => alloc_cells wr (Lib.byteCells [34]) 5 j u hj) (bytes_one _) (by simp only [maxLen]; omega) (by omega) (by simp; omega) ?_; intro v' w' ho' hg' _)
      all_goals first | (exfalso; simp_all; done) | (exfalso; simp_all; omega) | skip
      all_goals
        go_roundw
        case rel => exact ⟨p + 2, bs ++ [34], by simp, by omega, by omega, by simp; omega, hL, row_add w' _ v' bs [34] _ 1 rfl ho' rfl, own_below hown hbw ((Below.refl _ wr).alloc (Nat.le_refl _) _) hg'⟩
        case measure =>
          show s.length - ((p : Int) + 2).toNat < s.length - ((p : Int)).toNat
          omega
    by_cases dx92 : x.toNat = 92
    · have hcc : x = 92 := UInt8.toNat_inj.1 dx92
      subst hcc
      have hL := hleft.two d1 (.inl (by decide))
      clear hleft
      go_wp2_with (at_builtin; refine wpList_append_own _ rfl _ _ 40 rfl w.heap.size 5 i5 (.int .u8 0) 1 1 Tryz.underlying40 hi hz0 hz1 hz2 rfl (by decide) _ _ _ rfl (hown.alloc _) ⟨wr.heap.size, 0, none⟩ 1 1 (Lib.byteCells [92]) rfl rfl (fun j u hj => alloc_cells wr (Lib.byteCells [92]) 5 j u hj) (bytes_one _) (by simp only [maxLen]; omega) (by omega) (by simp; omega) ?_; intro v' w' ho' hg' _)
      all_goals first | (exfalso; simp_all; done) | (exfalso; simp_all; omega) | skip
      all_goals
        go_roundw
        case rel => exact ⟨p + 2, bs ++ [92], by simp, by omega, by omega, by simp; omega, hL, row_add w' _ v' bs [92] _ 1 rfl ho' rfl, own_below hown hbw ((Below.refl _ wr).alloc (Nat.le_refl _) _) hg'⟩
        case measure =>
          show s.length - ((p : Int) + 2).toNat < s.length - ((p : Int)).toNat
          omega
    by_cases d3 : x.toNat = 120 ∧ p + 3 ≤ m.length
    case neg =>
      have hno := unqR_no (s := s) fun t => hleft.bad d1 dx34 dx92 (by
        rcases Nat.lt_or_ge m.length (p + 3) with h | h
        · exact .inr (by rw [List.length_drop]; omega)
        · exact .inl fun e => d3 ⟨e, h⟩) t
      clear hleft
      by_cases l3 : (p : Int) + 3 < (s.length : Int) - 1
      · have dx : x.toNat ≠ 120 := fun e => d3 ⟨e, by omega⟩
        go_wp2_with fail
        all_goals first | (exfalso; simp_all; done) | (exfalso; simp_all; omega) | skip
        all_goals go_ret2
        all_goals exact ⟨by first | rfl | (rw [hno]; rfl), hbw⟩
      · go_wp2_with fail
        all_goals first | (exfalso; simp_all; done) | (exfalso; simp_all; omega) | skip
        all_goals go_ret2
        all_goals exact ⟨by first | rfl | (rw [hno]; rfl), hbw⟩
    obtain ⟨d4, d5⟩ := d3
    have l3 : (p : Int) + 3 < (s.length : Int) - 1 := by omega
    obtain ⟨a, hda, hpa, ha⟩ := hq.next (q := p + 1) (p := p + 2) rfl (by omega)
    obtain ⟨b, hdb, hpb, hb⟩ := hq.next (q := p + 2) (p := p + 3) rfl (by omega)
    have haz := at_z ha (z := (p : Int) + 2) (by omega)
    have hbz := at_z hb (z := (p : Int) + 3) (by omega)
    rw [hda, hdb] at hleft
    rcases six_cases a.toNat with h6 | ⟨y, hy, h6⟩
    · have hno := unqR_no (s := s) fun t ht => by
        obtain ⟨d, t2, _, q2, _, _⟩ := hleft.hex6 d1 d4 ht
        rw [h6] at q2; omega
      clear hleft
      go_wp2_with (first | (go_at_call 21; refine (six_walk _ _).mono ?_; rintro e w' ⟨rfl, hw'⟩; subst w') | fail)
      all_goals first | (exfalso; simp_all; done) | (exfalso; simp_all; omega) | skip
      all_goals go_ret2
      all_goals exact ⟨by first | rfl | (rw [hno]; rfl), hbw⟩
    rcases six_cases b.toNat with h7 | ⟨z, hz, h7⟩
    · have hno := unqR_no (s := s) fun t ht => by
        obtain ⟨d, t2, _, _, q3, _⟩ := hleft.hex6 d1 d4 ht
        rw [h7] at q3; omega
      clear hleft
      go_wp2_with (first | (go_at_call 21; refine (six_walk _ _).mono ?_; rintro e w' ⟨rfl, hw'⟩; subst w') | fail)
      all_goals first | (exfalso; simp_all; done) | (exfalso; simp_all; omega) | skip
      all_goals go_ret2
      all_goals exact ⟨by first | rfl | (rw [hno]; rfl), hbw⟩
    have hL := hleft.ok6 d1 d4 h6 h7
    clear hleft
    have hd : (UInt8.ofNat (16 * y + z)).toNat = 16 * y + z := by simp; omega
    obtain ⟨d, hdd⟩ : ∃ d, d = UInt8.ofNat (16 * y + z) := ⟨_, rfl⟩
    rw [← hdd] at hL hd
    have hw8 : IntKind.u8.wrap (16 * (y : Int) + (z : Int)) = (d.toNat : Int) := by rw [hd]; simp [IntKind.wrap, IntKind.bits, IntKind.signed]; omega
    clear hd hdd
    go_wp2_with (first | (go_at_call 21; refine (six_walk _ _).mono ?_; rintro e w' ⟨rfl, hw'⟩; subst w') | fail)
    all_goals first | (exfalso; simp_all; done) | (exfalso; simp_all; omega) | skip
    have w2 : IntKind.i64.wrap ((p : Int) + 2) = (p : Int) + 2 := by rw [IntWalk.i64_in]; omega
    have w3 : IntKind.i64.wrap ((p : Int) + 3) = (p : Int) + 3 := by rw [IntWalk.i64_in]; omega
    have w4 : IntKind.i64.wrap (16 * (y : Int)) = 16 * (y : Int) := by rw [IntWalk.i64_in]; omega
    have w5 : IntKind.i64.wrap (16 * (y : Int) + (z : Int)) = 16 * (y : Int) + (z : Int) := by rw [IntWalk.i64_in]; omega
    have b2 : 0 ≤ (p : Int) + 2 ∧ (p : Int) + 2 < (s.length : Int) := by omega
    have b3 : 0 ≤ (p : Int) + 3 ∧ (p : Int) + 3 < (s.length : Int) := by omega
    have hown2 : wr.drew.ownsRow w.heap.size 5 1 _ _ _ := hown
    all_goals
      go_region_law (first
        | (refine step_append_own rfl _ _ 40 rfl w.heap.size 5 i5 (.int .u8 0) 1 1 Tryz.underlying40 hi hz0 hz1 hz2 rfl (by decide) _ _ _ rfl (hown2.alloc _) ⟨wr.drew.heap.size, 0, none⟩ 1 1 (Lib.byteCells [d]) rfl rfl (fun j u hj => alloc_cells wr.drew (Lib.byteCells [d]) 5 j u hj) (bytes_one _) (by simp only [maxLen]; omega) (by omega) (by simp; omega) ?_; intro v' w' ho' hg' _)
        | (go_simp; go_at_call 21; refine (six_walk _ _).mono ?_; rintro e w' ⟨rfl, hw'⟩; subst w'))
    all_goals
      go_wp2_with fail
      go_roundw
      case rel => exact ⟨p + 4, bs ++ [d], by simp, by omega, by omega, by simp; omega, hL, row_add w' _ v' bs [d] _ 1 rfl ho' rfl, own_below hown hbw (((Below.refl _ wr).drew).alloc (Nat.le_refl _) _) hg'⟩
      case measure =>
        show s.length - ((p : Int) + 4).toNat < s.length - ((p : Int)).toNat
        omega
end Go.Proofs.YtlhpnccdfgjifaaGreatDoor
