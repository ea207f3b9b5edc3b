/-
  Calls of the library that the machine's bodies are not asked for: HasPrefix, slices.Grow from nothing.
-/
import Derived.Test.YthhcdmmihjhipaaGreatDoorK1
import Derived.Test.YthhcdmmihjhipaaGreatDoorL0
import Derived.WalkKit
import Derived.BigCall
namespace Go.Proofs.YthhcdmmihjhipaaGreatDoor.Cc
open Go Go.RowKit Go.Shelf

def runHP (xs : List V) (H : Heap) : Option (V × Heap) := match xs with
  | [.str s, .str p] => some (.bool (Lib.hasPrefix s p), H)
  | _ => none
theorem hp_ok {f : FuncId} (hc : ∀ (s p : ByteArray) (w : World), Calls P f #[.string s, .string p] w fun e w' => e = .returned (.bool (Lib.hasPrefix s.data.toList p.data.toList)) ∧ w' = w) (he : Enters P f)
    {xs : List V} {H H' : Heap} {r : V} (h : runHP xs H = some (r, H')) : OCall P ng0 f xs H r H' := by
  unfold runHP at h
  split at h <;> first | (cases h; done) | skip
  rename_i s p
  cases h
  refine .inl ⟨fun g vs w hg hr hs => ?_, he⟩
  obtain ⟨v1, us, rfl, r1, hr⟩ := hr.cons
  obtain ⟨v2, us, rfl, r2, hr⟩ := hr.cons
  cases hr.nil
  cases r1 with
  | str s q1 =>
  cases r2 with
  | str p q2 =>
  refine (hc ⟨s.toArray⟩ ⟨p.toArray⟩ w).mono ?_
  rintro e w' ⟨rfl, rfl⟩
  exact ⟨_, rfl, g, G.le.refl g, .bool _, hs⟩
def isHP (xs : List V) : Bool := match xs with
  | [.str _, .str _] => true
  | _ => false
noncomputable def hHP (f : FuncId) (hc : ∀ (s p : ByteArray) (w : World), Calls P f #[.string s, .string p] w fun e w' => e = .returned (.bool (Lib.hasPrefix s.data.toList p.data.toList)) ∧ w' = w) (he : Enters P f) : Handler P ng0 where
  f := f
  is := isHP
  run _ xs H := runHP xs H
  ok _ _ _ xs H r H' _ h := hp_ok hc he h
  ext _ _ xs H r H' X H2 _ h k := by
    unfold runHP at h
    split at h <;> first | (cases h; done) | skip
    cases h
    exact ⟨H2, rfl, k⟩

theorem info27 : (match P.info? 27 with | some i => i.size == 14 && (i.bytes == 120 && (match i.zero with | some z => z.cells.size == 14 | none => false)) | none => false) = true := by kernel_rfl
theorem info27_spec : ∃ i z, P.info? 27 = some i ∧ i.zero = some z ∧ i.size = 14 ∧ i.bytes = 120 ∧ z.cells.size = 14 := by
  have h := info27
  split at h
  · rename_i i hi
    simp only [Bool.and_eq_true, beq_iff_eq] at h
    obtain ⟨h1, h2, h3⟩ := h
    split at h3
    · rename_i z hz
      exact ⟨i, z, hi, hz, h1, h2, by simpa using h3⟩
    · cases h3
  · cases h
noncomputable def runGrow (xs : List V) (H : Heap) : Option (V × Heap) := match xs with
  | [.nilS, .int .i64 (.ofNat n)] => cond (Nat.beq n 0) (some (.nilS, H)) (cond (Nat.ble n 100000) (some (.sl 14 H.nn 0 0, H.new (.cells 27 [] false false))) none)
  | _ => none
theorem grow_ok {xs : List V} {H H' : Heap} {r : V} (h : runGrow xs H = some (r, H')) : OCall P ng0 34 xs H r H' := by
  unfold runGrow at h
  split at h <;> first | (cases h; done) | skip
  rename_i n
  refine .inl ⟨fun g vs w hg hr hs => ?_, enters noNG Tryz.func34 rfl⟩
  obtain ⟨v1, us, rfl, r1, hr⟩ := hr.cons
  obtain ⟨v2, us, rfl, r2, hr⟩ := hr.cons
  cases hr.nil
  cases r1 with
  | nilS =>
  cases r2 with
  | int =>
  cases hb : Nat.beq n 0 with
  | true =>
    rw [hb] at h
    cases h
    obtain rfl := Nat.eq_of_beq_eq_true hb
    refine (Any8.slices_Grow_room Tryz.growL none 0 0 0 w (Nat.le_refl _) (by omega) (by omega) (Nat.le_refl _)).mono ?_
    rintro e w' ⟨rfl, rfl⟩
    exact ⟨_, rfl, g, G.le.refl g, .nilS, hs⟩
  | false =>
  rw [hb] at h
  cases hc : Nat.ble n 100000 with
  | false => rw [hc] at h; cases h
  | true =>
  rw [hc] at h
  cases h
  have hn := Nat.le_of_ble_eq_true hc
  have hn0 : n ≠ 0 := fun e => by subst e; cases hb
  obtain ⟨i0, z, hi, hz, hsz, hby, hzs⟩ := info27_spec
  refine (Any8.slices_Grow_grow Tryz.growL i0 z hi hz (by omega) none 0 0 n [] w (Nat.le_refl _) (by omega) (by rw [hby]; omega) (by omega) (by simp) (fun _ => rfl) (fun a _ j v hj => by simp at hj)).mono ?_
  rintro e w' ⟨rfl, rfl⟩
  obtain ⟨nc, hnc⟩ : ∃ nc, nc = grownCap w (0 + n) 0 (Tryz.grow_ren.t 25) := ⟨_, rfl⟩
  have hcap : nc ≤ maxLen := by
    have := grownCap_le_maxLen w (0 + n) 0 (Tryz.grow_ren.t 25) (by unfold maxLen; omega)
    rwa [← hnc] at this
  have hge : 0 + n ≤ nc := by rw [hnc]; exact grownCap_ge w _ _ _
  rw [← hnc]
  obtain ⟨row, hrow⟩ : ∃ row, row = ([] : List Value).toArray ++ Builtin.zeroCells z.cells (0 + n - 0) ++ Builtin.zeroCells z.cells (nc - (0 + n)) := ⟨_, rfl⟩
  have hrs : row.size = nc * 14 := by
    rw [hrow]
    simp only [Array.size_append, Builtin.zeroCells, Array.size_map, Array.size_range, hzs, List.size_toArray, List.length_nil]
    omega
  rw [← hrow]
  have hb := hs.nn_not_bn
  have hle := G.le_name g H.nn w.heap.size row.size hb
  have hbn : (g.name H.nn w.heap.size row.size hb).bn H.nn = true := by simp [G.name]
  have hnm : (g.name H.nn w.heap.size row.size hb).nm H.nn = w.heap.size := by simp [G.name]
  have hvs : (g.name H.nn w.heap.size row.size hb).vs H.nn = row.size := by simp [G.name]
  refine ⟨_, rfl, _, hle, ?_, hs.drew.new (x := .cells 27 [] false false) row.size (by simp) hb ⟨row, (0, 0), ⟨27, ?_, fun _ => rfl⟩, fun _ => ?_, hvs.symm, Nat.zero_le _, fun h => (by cases h), ⟨by simp, fun i c v h1 _ => by simp at h1⟩⟩⟩
  · have := RelV.sl (g := g.name H.nn w.heap.size row.size hb) 14 H.nn 0 0 nc hbn (by rw [hvs, hrs]; omega) (Nat.zero_le _) hcap
    rwa [hnm] at this
  · show (w.drew.alloc (.cells row 27 (0, 0))).heap[(g.name H.nn w.heap.size row.size hb).nm H.nn]? = _
    rw [hnm]; exact heap_alloc_new _ _
  · exact .inl rfl
def isGrow (xs : List V) : Bool := match xs with
  | [.nilS, .int .i64 (.ofNat _)] => true
  | _ => false
noncomputable def hGrow : Handler P ng0 where
  f := 34
  is := isGrow
  run _ xs H := runGrow xs H
  ok _ _ _ xs H r H' _ h := grow_ok h
  ext _ _ xs H r H' X H2 _ h k := by
    unfold runGrow at h ⊢
    split at h <;> first | (cases h; done) | skip
    rename_i n h9
    cases hb : Nat.beq n 0 with
    | true => rw [hb] at h; cases h; exact ⟨H2, by simp, k⟩
    | false =>
      rw [hb] at h
      cases hc : Nat.ble n 100000 with
      | false => rw [hc] at h; cases h
      | true => rw [hc] at h; cases h; exact ⟨H2.new (.cells 27 [] false false), by simp [k.nn], k.new _⟩
end Go.Proofs.YthhcdmmihjhipaaGreatDoor.Cc

namespace Go.Proofs.YthhcdmmihjhipaaGreatDoor.Cc
open Go Go.RowKit Go.Shelf

set_option maxHeartbeats 4000000 in
set_option maxRecDepth 1000000 in
theorem quoted_walk (s : ByteArray) (c : UInt8) (n : Int) (w : World) (h3 : 3 ≤ s.size) (hs : s.size < 100000) (h1 : s[1]'(by omega) = c) (hc : (c.toNat : Int) ≠ 34) (h2 : s[2]'(by omega) = 34) (h4 : ∀ h : 3 < s.size, ((s[3]'h).toNat : Int) ≠ 34) (hn : 0 ≤ n) (hn2 : n < 1000000) :
    Calls P 46 #[.string s, .int .i64 n] w fun e w' => e = .returned (.agg #[.int .i64 2, .int .i64 n, .int .i64 (n + 3), .string ⟨#[c]⟩, .int .i64 0]) ∧ Below w.heap.size w w' := by
  go_enter Tryz.func46, Tryz.ntmps46
  go_wp2
  go_loopw [7] (fun i wr => ∃ (k : Nat) (bs : List Value), i = .int .i64 (k : Int) ∧ ((k = 1 ∧ bs = []) ∨ (k = 2 ∧ bs = [.int .u8 c.toNat])) ∧ Lib.IsBuilder 161 5 (w.heap.size + 2) (w.heap.size + 2) bs wr ∧
      wr.heap[w.heap.size]? = some (.cells #[.int .i64 0, .int .i64 0, .int .i64 0, .string ⟨#[]⟩, .int .i64 0] 87 (0, 0)) ∧ wr.heap[w.heap.size + 1]? = some (.cells #[.int .i64 2, .int .i64 n, .int .i64 0, .string ⟨#[]⟩, .int .i64 0] 87 (0, 0)) ∧ Below w.heap.size w wr) (fun i _ => 3 - (intOf i).toNat)
  case atStart =>
    refine ⟨1, [], rfl, .inl ⟨rfl, rfl⟩, ?_, ?_, ?_, ?_⟩
    · have := Lib.fresh_isBuilder 161 5 ((w.alloc (.cells #[.int .i64 0, .int .i64 0, .int .i64 0, .string ⟨#[]⟩, .int .i64 0] 87)).alloc (.cells #[.int .i64 2, .int .i64 n, .int .i64 0, .string ⟨#[]⟩, .int .i64 0] 87))
      simpa using this
    · rw [Lib.alloc_old _ _ _ (by simp; omega), Lib.alloc_old _ _ _ (by simp)]; exact heap_alloc_new _ _
    · rw [Lib.alloc_old _ _ _ (by simp)]
      have := heap_alloc_new (w.alloc (.cells #[.int .i64 0, .int .i64 0, .int .i64 0, .string ⟨#[]⟩, .int .i64 0] 87)) (.cells #[.int .i64 2, .int .i64 n, .int .i64 0, .string ⟨#[]⟩, .int .i64 0] 87)
      simpa using this
    · exact (((Below.refl _ w).alloc (Nat.le_refl _) _).alloc (by simp) _).alloc (by simp; omega) _
  case round =>
    obtain ⟨k, bs, rfl, hk, hI, e0, e1, hbw⟩ := hrel
    have c1 : (s[1]'(by omega)).toNat = c.toNat := by rw [h1]
    have c2 : (s[2]'(by omega)).toNat = 34 := by rw [h2]; rfl
    rcases hk with ⟨rfl, rfl⟩ | ⟨rfl, rfl⟩
    · go_wp2
      all_goals first | (exfalso; simp_all; done) | skip
      refine (Tryz.Builder_WriteByte (w.heap.size + 2) (w.heap.size + 2) [] _ wr hI (by simp) (by have := hbw.size; have := (Array.getElem?_eq_some_iff.1 e1).1; obtain ⟨_, v, hb, _⟩ | ⟨_, v, hb, _⟩ := hI <;> have := (Array.getElem?_eq_some_iff.1 hb).1 <;> omega)).mono ?_
      rintro e W1 ⟨rfl, hI1, b1⟩
      go_wp2
      go_roundw
      case rel =>
        refine ⟨2, _, rfl, .inr ⟨rfl, ?_⟩, .inr hI1, (b1.block w.heap.size (by omega)).trans e0, (b1.block (w.heap.size + 1) (by omega)).trans e1, hbw.trans ?_⟩
        · simp
        · exact b1.mono (by omega)
      case measure => decide
    · have hI' : Lib.IsBuilder 161 5 (w.heap.size + 2) (w.heap.size + 2) (Lib.byteCells [c]) wr := hI
      go_wp2
      all_goals first | (exfalso; simp_all; done) | (exfalso; simp_all; omega) | skip
      all_goals
        refine (Tryz.Builder_String (w.heap.size + 2) (w.heap.size + 2) [c] wr hI' (by simp)).mono ?_
        rintro e W1 ⟨rfl, b1⟩
        have e0' := (b1.block w.heap.size (by omega)).trans e0
        have e1' := (b1.block (w.heap.size + 1) (by omega)).trans e1
        have hc00 : W1.cell? ⟨w.heap.size, 0, none⟩ = some (.int .i64 0) := by simp [World.cell?, e0']
        have hz00 : W1.frozen? ⟨w.heap.size, 0, none⟩ = false := by simp [World.frozen?, e0']
        have hc01 : W1.cell? ⟨w.heap.size, 1, none⟩ = some (.int .i64 0) := by simp [World.cell?, e0']
        have hz01 : W1.frozen? ⟨w.heap.size, 1, none⟩ = false := by simp [World.frozen?, e0']
        have hc02 : W1.cell? ⟨w.heap.size, 2, none⟩ = some (.int .i64 0) := by simp [World.cell?, e0']
        have hz02 : W1.frozen? ⟨w.heap.size, 2, none⟩ = false := by simp [World.frozen?, e0']
        have hc03 : W1.cell? ⟨w.heap.size, 3, none⟩ = some (.string ⟨#[]⟩) := by simp [World.cell?, e0']
        have hz03 : W1.frozen? ⟨w.heap.size, 3, none⟩ = false := by simp [World.frozen?, e0']
        have hc04 : W1.cell? ⟨w.heap.size, 4, none⟩ = some (.int .i64 0) := by simp [World.cell?, e0']
        have hz04 : W1.frozen? ⟨w.heap.size, 4, none⟩ = false := by simp [World.frozen?, e0']
        have hc10 : W1.cell? ⟨w.heap.size + 1, 0, none⟩ = some (.int .i64 2) := by simp [World.cell?, e1']
        have hz10 : W1.frozen? ⟨w.heap.size + 1, 0, none⟩ = false := by simp [World.frozen?, e1']
        have hc11 : W1.cell? ⟨w.heap.size + 1, 1, none⟩ = some (.int .i64 n) := by simp [World.cell?, e1']
        have hz11 : W1.frozen? ⟨w.heap.size + 1, 1, none⟩ = false := by simp [World.frozen?, e1']
        have hc12 : W1.cell? ⟨w.heap.size + 1, 2, none⟩ = some (.int .i64 0) := by simp [World.cell?, e1']
        have hz12 : W1.frozen? ⟨w.heap.size + 1, 2, none⟩ = false := by simp [World.frozen?, e1']
        have hc13 : W1.cell? ⟨w.heap.size + 1, 3, none⟩ = some (.string ⟨#[]⟩) := by simp [World.cell?, e1']
        have hz13 : W1.frozen? ⟨w.heap.size + 1, 3, none⟩ = false := by simp [World.frozen?, e1']
        have hc14 : W1.cell? ⟨w.heap.size + 1, 4, none⟩ = some (.int .i64 0) := by simp [World.cell?, e1']
        have hz14 : W1.frozen? ⟨w.heap.size + 1, 4, none⟩ = false := by simp [World.frozen?, e1']
        go_wp2
      all_goals
        try simp only [Exit.inBlock, Exit.then]
        refine bodyPost_ret (by simp [results, Tryz.results46, go_sem, hc00, hc01, hc02, hc03, hc04]; try rfl) rfl ?_
        have hb3 : Below w.heap.size w W1 := hbw.trans (b1.mono (by omega))
        refine ⟨?_, ?_⟩
        · first | rfl | (have h9 : (s.size : Int) = 3 := by omega
                         rw [h9])
        · iterate 7 refine Below.setCell ?_ (by simp) _
          exact hb3

def notQ : List UInt8 → Bool
  | [] => true
  | b :: _ => !(Nat.beq b.toNat 34)
def okQ (q c r : UInt8) (rest : List UInt8) (n : Nat) : Bool := Nat.beq q.toNat 34 && (!(Nat.beq c.toNat 34) && (Nat.beq r.toNat 34 && (notQ rest && (Nat.blt rest.length 90000 && Nat.blt n 1000000))))
def runQ (xs : List V) (H : Heap) : Option (V × Heap) := match xs with
  | [.str (q :: c :: r :: rest), .int .i64 (.ofNat n)] => cond (okQ q c r rest n) (some (.agg [.int .i64 2, .int .i64 (.ofNat n), .int .i64 (.ofNat (n + 3)), .str [c], .int .i64 0], H)) none
  | _ => none
theorem quoted_ok {xs : List V} {H H' : Heap} {r : V} (h : runQ xs H = some (r, H')) : OCall P ng0 46 xs H r H' := by
  unfold runQ at h
  split at h <;> first | (cases h; done) | skip
  rename_i q c r rest n
  obtain ⟨hb, h⟩ := cond_if h
  cases h
  unfold okQ at hb
  simp only [Bool.and_eq_true, Bool.not_eq_true'] at hb
  obtain ⟨b1, b2, b3, b4, b5, b6⟩ := hb
  have b1 := Nat.eq_of_beq_eq_true b1
  have b2 := Nat.ne_of_beq_eq_false b2
  have b3 := Nat.eq_of_beq_eq_true b3
  have b5 : rest.length < 90000 := by simpa [Nat.blt_eq] using b5
  have b6 : n < 1000000 := by simpa [Nat.blt_eq] using b6
  refine .inl ⟨fun g vs w hg hr hs => ?_, enters noNG Tryz.func46 rfl⟩
  obtain ⟨v1, us, rfl, r1, hr⟩ := hr.cons
  obtain ⟨v2, us, rfl, r2, hr⟩ := hr.cons
  cases hr.nil
  cases r1 with
  | str s q1 =>
  cases r2 with
  | int =>
  have hsz : (⟨(q :: c :: r :: rest).toArray⟩ : ByteArray).size = rest.length + 3 := by show (q :: c :: r :: rest).toArray.size = _; simp
  refine (quoted_walk ⟨(q :: c :: r :: rest).toArray⟩ c (n : Int) w (by omega) (by omega) rfl (by omega) (UInt8.toNat_inj.1 b3) (fun h => ?_) (by omega) (by omega)).mono ?_
  · cases rest with
    | nil => simp at hsz; omega
    | cons b rest =>
      have b4 : (!(Nat.beq b.toNat 34)) = true := b4
      have := Nat.ne_of_beq_eq_false (by simpa using b4 : Nat.beq b.toNat 34 = false)
      show ((b.toNat : Nat) : Int) ≠ 34
      omega
  · rintro e w' ⟨rfl, hbl⟩
    refine ⟨_, rfl, g, G.le.refl g, .agg _ _ rfl fun i x v hx hv => ?_, hs.grows ⟨hbl.os, hbl.tape, hbl.output, hbl.size, hbl.block⟩⟩
    match i with
    | 0 => cases hx; cases hv; exact .int _ _
    | 1 => cases hx; cases hv; exact .int _ _
    | 2 => cases hx; cases hv; exact .int _ _
    | 3 => cases hx; cases hv; exact .str [c] (by unfold maxLen; simp)
    | 4 => cases hx; cases hv; exact .int _ _
    | i + 5 => simp at hx
def isQ (xs : List V) : Bool := match xs with
  | [.str (_ :: _ :: _ :: _), .int .i64 (.ofNat _)] => true
  | _ => false
def hQuoted : Handler P ng0 where
  f := 46
  is := isQ
  run _ xs H := runQ xs H
  ok _ _ _ xs H r H' _ h := quoted_ok h
  ext _ _ xs H r H' X H2 _ h k := by
    unfold runQ at h ⊢
    split at h <;> first | (cases h; done) | skip
    obtain ⟨hb, h⟩ := cond_if h
    cases h
    exact ⟨H2, by simp only [hb]; rfl, k⟩
end Go.Proofs.YthhcdmmihjhipaaGreatDoor.Cc
