/-
  The library's functions on texts, as contracts of the frame.
-/
import Derived.Test.YtfkeflcdadlmdaaGreatDoorN2
import Derived.Test.YtfkeflcdadlmdaaGreatDoorLsk
import Derived.Shelf.Strings.SlTrimAscii
import Derived.Test.YtfkeflcdadlmdaaGreatDoorSsk
namespace Go.Proofs.YtfkeflcdadlmdaaGreatDoor
open Go Go.RowKit Go.Shelf

theorem relvs1 {g : G} {x : AV} {vs : List Value} (h : RelVs g [x] vs) : ∃ v, vs = [v] ∧ RelV g x v := by
  obtain ⟨hl, hr⟩ := h
  match vs, hl with
  | [v], _ => exact ⟨v, rfl, hr 0 _ _ rfl rfl⟩
theorem relvs2 {g : G} {x y : AV} {vs : List Value} (h : RelVs g [x, y] vs) : ∃ v u, vs = [v, u] ∧ RelV g x v ∧ RelV g y u := by
  obtain ⟨hl, hr⟩ := h
  match vs, hl with
  | [v, u], _ => exact ⟨v, u, rfl, hr 0 _ _ rfl rfl, hr 1 _ _ rfl rfl⟩
theorem ACall.lib {P : Program} {f : FuncId} {xs : List AV} {H : Heap} (y : AV) (h : ∀ g vs w, RelVs g xs vs → Sat g H w → Calls P f vs.toArray w (fun e w' => ∃ v, e = .returned v ∧ RelV g y v ∧ Below w.heap.size w w')) : ACall P f xs H (fun z H' => z = y ∧ H' = H) :=
  fun g vs w k s => (h g vs w k s).mono fun _ _ ⟨v, he, hr, hb⟩ => ⟨v, he, g, y, H, .id, hr, s.grow hb, rfl, rfl⟩
theorem below_grow (B : Nat) (w : World) (n : Nat) (os : Array Obj) (h : B ≤ w.heap.size) : Below B w (Sort.grow (w.drewN n) os) :=
  ⟨rfl, rfl, rfl, by simp [Sort.grow, World.drewN], fun k hk => by simp [Sort.grow, World.drewN, Array.getElem?_append, Nat.lt_of_lt_of_le hk h]⟩
theorem Sat.tab {g : G} {H : Heap} {w : World} (s : Sat g H w) : Lib.TabIs Tryz.prog w "internal/strconv.uint64pow10" .u64 Lib.pow10Tab := by
  obtain ⟨t, f, h⟩ := g.hinv.tab
  have hlt : 4 < g.base.heap.size := (Array.getElem?_eq_some_iff.1 h).1
  have h2 : w.heap[4]? = some (.cells (Lib.pow10Tab.map fun z => Value.int .u64 z).toArray t f) := (s.below.block 4 hlt).trans h
  have hn : Tryz.prog.globalNamed "internal/strconv.uint64pow10" = some 4 := by kernel_rfl
  unfold Lib.TabIs World.var?
  rw [hn, Option.bind_some, h2]
theorem itoaA (n : Nat) (hn : n ≤ 9223372036854775807) (H : Heap) : ACall Tryz.prog 44 [.int .i64 (n : Int)] H (fun y H' => y = .str (dec n) ∧ H' = H) := by
  refine ACall.lib _ fun g vs w k s => ?_
  obtain ⟨v, rfl, hv⟩ := relvs1 k
  cases hv
  refine (Tryz.strconv_Itoa (n : Int) (by omega) (by omega) w s.tab).mono ?_
  rintro e w' ⟨rfl, q, os, rfl⟩
  refine ⟨_, rfl, ?_, below_grow _ _ _ _ (Nat.le_refl _)⟩
  rw [itoa_nat]
  refine .str _ ?_
  have : (dec n).length ≤ 20 := (dec_len (by decide)).2 (Nat.lt_of_le_of_lt hn (by decide))
  rw [maxLen_eq]; omega
theorem repeatL_one (c : UInt8) : ∀ n, Lib.repeatL [c] n = List.replicate n c
  | 0 => rfl
  | n + 1 => by rw [Lib.repeatL, repeatL_one c n, List.replicate_succ]; rfl
theorem repeatA (c : UInt8) (n : Nat) (hn : n ≤ 100000000) (H : Heap) : ACall Tryz.prog 93 [.str [c], .int .i64 (n : Int)] H (fun y H' => y = .str (List.replicate n c) ∧ H' = H) := by
  refine ACall.lib _ fun g vs w k s => ?_
  obtain ⟨v, u, rfl, hv, hu⟩ := relvs2 k
  cases hv; cases hu
  have hl : (List.replicate n c).length ≤ maxLen := by rw [List.length_replicate, maxLen_eq]; omega
  rcases Nat.lt_or_ge n 2 with h | h
  · rcases (by omega : n = 0 ∨ n = 1) with rfl | rfl
    · refine (Tryz.strings_Repeat_zero ⟨[c].toArray⟩ w).mono ?_
      rintro e w' ⟨rfl, rfl⟩
      exact ⟨_, rfl, .str [] (by simp), Below.refl _ _⟩
    · refine (Tryz.strings_Repeat_one ⟨[c].toArray⟩ w).mono ?_
      rintro e w' ⟨rfl, rfl⟩
      exact ⟨_, rfl, .str [c] hl, Below.refl _ _⟩
  · refine (Tryz.strings_Repeat_main ⟨[c].toArray⟩ n w h (by omega) (by show 1 * n ≤ _; omega) (by show 0 < 1; omega)).mono ?_
    rintro e w' ⟨rfl, hb⟩
    refine ⟨_, rfl, ?_, hb⟩
    have e : Lib.repeatL (⟨#[c]⟩ : ByteArray).data.toList n = List.replicate n c := repeatL_one c n
    rw [e]
    exact .str _ hl
theorem repeatZ (c : UInt8) (q : Int) (n : Nat) (hq : q = (n : Int)) (hn : n ≤ 100000000) (H : Heap) : ACall Tryz.prog 93 [.str [c], .int .i64 q] H (fun y H' => y = .str (List.replicate n c) ∧ H' = H) := by
  subst hq; exact repeatA c n hn H
theorem trimLeftA (c : UInt8) (hc : c.toNat < 128) (s : List UInt8) (H : Heap) : ACall Tryz.prog 68 [.str s, .str [c]] H (fun y H' => y = .str (s.dropWhile (· == c)) ∧ H' = H) := by
  refine ACall.lib _ fun g vs w k st => ?_
  obtain ⟨v, u, rfl, hv, hu⟩ := relvs2 k
  cases hv with | str _ hs => ?_
  cases hu
  refine (Tryz.strings_TrimLeft_one ⟨s.toArray⟩ c hc w).mono ?_
  rintro e w' ⟨rfl, rfl⟩
  exact ⟨_, rfl, .str _ (Nat.le_trans (List.dropWhile_sublist _).length_le hs), Below.refl _ _⟩
theorem trimRightA (c : UInt8) (hc : c.toNat < 128) (s : List UInt8) (H : Heap) : ACall Tryz.prog 69 [.str s, .str [c]] H (fun y H' => y = .str (Lib.trimRightB s c) ∧ H' = H) := by
  refine ACall.lib _ fun g vs w k st => ?_
  obtain ⟨v, u, rfl, hv, hu⟩ := relvs2 k
  cases hv with | str _ hs => ?_
  cases hu
  refine (Tryz.strings_TrimRight_one ⟨s.toArray⟩ c hc w (by show s.toArray.size ≤ _; rw [maxLen_eq] at hs; simpa using hs)).mono ?_
  rintro e w' ⟨rfl, rfl⟩
  refine ⟨_, rfl, .str _ (Nat.le_trans ?_ hs), Below.refl _ _⟩
  show (s.reverse.dropWhile (· == c)).reverse.length ≤ s.length
  rw [List.length_reverse]
  have := (List.dropWhile_sublist (l := s.reverse) (· == c)).length_le
  rwa [List.length_reverse] at this
theorem hasSuffixA (s p : List UInt8) (H : Heap) : ACall Tryz.prog 94 [.str s, .str p] H (fun y H' => y = .bool (Lib.hasSuffix s p) ∧ H' = H) := by
  refine ACall.lib _ fun g vs w k st => ?_
  obtain ⟨v, u, rfl, hv, hu⟩ := relvs2 k
  cases hv with | str _ hs => ?_
  cases hu
  refine (Tryz.strings_HasSuffix ⟨s.toArray⟩ ⟨p.toArray⟩ w (by show s.toArray.size ≤ _; rw [maxLen_eq] at hs; simpa using hs)).mono ?_
  rintro e w' ⟨rfl, rfl⟩
  exact ⟨_, rfl, .bool _, Below.refl _ _⟩
theorem compareA (s p : List UInt8) (H : Heap) : ACall Tryz.prog 212 [.str s, .str p] H (fun y H' => y = .int .i64 (Lib.compareBytes s p) ∧ H' = H) := by
  refine ACall.lib _ fun g vs w k st => ?_
  obtain ⟨v, u, rfl, hv, hu⟩ := relvs2 k
  cases hv; cases hu
  refine (Tryz.strings_Compare ⟨s.toArray⟩ ⟨p.toArray⟩ w).mono ?_
  rintro e w' ⟨rfl, rfl⟩
  exact ⟨_, rfl, .int _ _, Below.refl _ _⟩
end Go.Proofs.YtfkeflcdadlmdaaGreatDoor

namespace Go.Proofs.YtfkeflcdadlmdaaGreatDoor
open Go Go.RowKit

theorem dig_step {a v : Nat} {s : List UInt8} (hv : 0 < v) (h : dec a = if v = 0 then s else dec v ++ s) :
    dec a = if v / 1000000000 = 0 then (if v / 1000000000 = 0 then dec (v % 1000000000) else List.replicate (9 - (dec (v % 1000000000)).length) 48 ++ dec (v % 1000000000)) ++ s
      else dec (v / 1000000000) ++ ((if v / 1000000000 = 0 then dec (v % 1000000000) else List.replicate (9 - (dec (v % 1000000000)).length) 48 ++ dec (v % 1000000000)) ++ s) := by
  rw [if_neg (by omega)] at h
  by_cases h0 : v / 1000000000 = 0
  · rw [if_pos h0, if_pos h0, h, show v % 1000000000 = v by omega]
  · rw [if_neg h0, if_neg h0, h, ← List.append_assoc, ← dec_nine (by omega)]
theorem dig_len {a v : Nat} {s : List UInt8} (h : dec a = if v = 0 then s else dec v ++ s) : s.length ≤ (dec a).length := by
  rw [h]; split
  · exact Nat.le_refl _
  · rw [List.length_append]; omega
theorem right_zero {xs : List Nat} : rightN xs = 0 ↔ val xs = 0 := ⟨val_zero_of_right, right_of_val_zero⟩
theorem part_len {v : Nat} (h : (dec (v % 1000000000)).length ≤ 9) : (if v / 1000000000 = 0 then dec (v % 1000000000) else List.replicate (9 - (dec (v % 1000000000)).length) 48 ++ dec (v % 1000000000)).length ≤ 9 := by
  split
  · exact h
  · rw [List.length_append, List.length_replicate]; omega
theorem mid_take {zs ws : List Nat} {m : Nat} (h : ws.length = m) : (mid zs 0 ws).take m = ws := by
  have := mid_piece (zs := zs) (o := 0) h (Nat.zero_le _)
  rwa [List.drop_zero] at this
theorem right_right (ws : List Nat) : rightN (ws.take (rightN ws)) = rightN ws ∧ val (ws.take (rightN ws)) = val ws := by
  induction ws with
  | nil => exact ⟨rfl, rfl⟩
  | cons x xs ih =>
    by_cases h : rightN xs = 0 ∧ x = 0
    · rw [rightN, if_pos h, List.take_zero]
      exact ⟨rfl, by rw [val, val, val_zero_of_right h.1, h.2]⟩
    · rw [rightN, if_neg h, List.take_succ_cons, rightN, ih.1, if_neg h, val, val, ih.2]
      exact ⟨rfl, rfl⟩

def dig_J (a n b7 : Nat) (H : Heap) : Nat → Env → Heap → Prop := fun k env H1 => ∃ (m : Nat) (zs : List Nat) (s : List UInt8), m ≤ n ∧ zs.length = n ∧ Limbs zs ∧ rightN (zs.take m) = m ∧ dec a = (if val (zs.take m) = 0 then s else dec (val (zs.take m)) ++ s) ∧ env = [(3, .mslice (some ⟨b7, 0, none⟩) m n), (4, .str s)] ∧ H1 = H.set b7 (.box 112 (U .u32 zs)) ∧ k = val (zs.take m)

set_option maxRecDepth 100000 in
theorem Digits_calls (a : Nat) (hx : a < BIG) (H : Heap) : ACall Tryz.prog 166 [bigA a] H (fun y H' => y = .str (dec a) ∧ H' = H) := by
  have ha256 := limbs_256 hx
  have hdl := dec_BIG hx
  refine ACall.of_body Tryz.func166 rfl Tryz.ntmps166 Tryz.results166 rfl ?_
  refine AWP.seq ?_
  -- region 0
  refine AWP.region ?_
  refine AList.p rfl (pure_assign (ev_str rfl)) ?_
  refine AList.nil ?_
  refine Next.go ?_
  refine AWP.seq ?_
  -- region 1
  refine AWP.region ?_
  refine AList.p rfl (pure_move (.tmp _ _ rfl)) ?_
  refine AList.s rfl (step_call0 Tryz.call167 (.cons (.tmp _ _ rfl) .nil) (Trim_own _ _ (limbs_Limbs _) (by omega) _)) ?_
  rintro _ _ ⟨b7, hb7, rfl, hH⟩
  obtain rfl := hH.symm
  rw [val_limbs]
  refine AList.p rfl (pure_assign (.tmp _ _ rfl)) ?_
  refine AList.nil ?_
  refine Next.go ?_
  refine AWP.seq ?_
  refine AWP.seq ?_
  -- region 2
  refine AWP.region ?_
  refine AList.p rfl (pure_move (.tmp _ _ rfl)) ?_
  first | (refine AList.p rfl (pure_lenU Tryz.underlying170 (.tmp _ _ rfl)) ?_) | (refine AList.p rfl (pure_lenM Tryz.underlying170 (.tmp _ _ rfl)) ?_) | (refine AList.p rfl (pure_lenS Tryz.underlying170 (.tmp _ _ rfl)) ?_)
  refine AList.p rfl (pure_eql (.tmp _ _ rfl) (ev_nat 0)) ?_
  refine AList.nil ?_
  refine Next.go ?_
  -- c0
  refine AWP.cond (.tmp _ _ rfl) (fun hc10 => ?_) (fun hc10 => ?_)
  · try simp only [decide_eq_true_eq] at hc10
    refine AWP.seq ?_
    refine AWP.frzU (t := 3) rfl hb7 (Nat.le_refl _) (Nat.le_refl _) (by simp only [maxLen_eq]; omega) ?_
    -- region 3
    refine AWP.region ?_
    refine AList.p rfl (pure_assign (ev_str rfl)) ?_
    refine AList.nil ?_
    refine Next.go ?_
    refine AWP.ret ?_
    refine Next.rt ?_
    -- ret 0
    refine Ret.go (.cons (.tmp _ _ rfl) .nil) _ (Heap.le.refl _) ?_
    refine ⟨?_, rfl⟩
    have ha0 : a = 0 := by
      have h0 := val_limbs a
      rw [List.length_eq_zero_iff.1 (by omega : (limbs a).length = 0)] at h0; exact h0.symm
    rw [ha0]; rfl
  · try simp only [decide_eq_false_iff_not] at hc10
    have ha0 : a ≠ 0 := by rintro rfl; simp [limbs_zero] at hc10
    refine AWP.skip ?_
    refine Next.go ?_
    refine AWP.seq ?_
    -- region 4
    refine AWP.region ?_
    refine AList.p rfl (pure_assign (ev_str rfl)) ?_
    refine AList.nil ?_
    refine Next.go ?_
    refine AWP.seq ?_
    refine AWP.block ?_
    -- L0
    refine AWP.loopW (dig_J a (limbs a).length b7 H) (a) ⟨(limbs a).length, limbs a, [], Nat.le_refl _, rfl, limbs_Limbs a, by rw [List.take_length, limbs_right], by rw [List.take_length, val_limbs, if_neg ha0, List.append_nil], rfl, rfl, by rw [List.take_length, val_limbs]⟩ (sub_c rfl (sub_c rfl sub_n)) (Heap.le.refl _) ?_
    rintro _ _ _ ⟨m, zs, s, hm, hzl, hzL, hrm, hdec, rfl, rfl, hk⟩
    have hsl := dig_len hdec
    refine AWP.seq ?_
    refine AWP.seq ?_
    -- region 5
    refine AWP.region ?_
    refine AList.p rfl (pure_move (.tmp _ _ rfl)) ?_
    first | (refine AList.p rfl (pure_lenU Tryz.underlying170 (.tmp _ _ rfl)) ?_) | (refine AList.p rfl (pure_lenM Tryz.underlying170 (.tmp _ _ rfl)) ?_) | (refine AList.p rfl (pure_lenS Tryz.underlying170 (.tmp _ _ rfl)) ?_)
    refine AList.p rfl (pure_gtr (.tmp _ _ rfl) (ev_nat 0)) ?_
    refine AList.nil ?_
    refine Next.go ?_
    -- c1
    refine AWP.cond (.tmp _ _ rfl) (fun hc13 => ?_) (fun hc13 => ?_)
    · try simp only [decide_eq_true_eq] at hc13
      have hpos : 0 < val (zs.take m) := Nat.pos_of_ne_zero (fun h => by have := right_of_val_zero h; omega)
      refine AWP.skip ?_
      refine Next.go ?_
      refine AWP.block ?_
      refine AWP.seq ?_
      -- region 6
      refine AWP.region ?_
      refine AList.p rfl (pure_move (.tmp _ _ rfl)) ?_
      refine AList.s rfl (step_call0 Tryz.call209 (.cons (.tmp _ _ rfl) (.cons (ev_nat 1000000000) .nil)) (short_calls b7 0 m (limbs a).length 1000000000 (by decide) (by decide) zs hzL (by omega) (by omega) _ (Heap.objs_set_same _ _ _))) ?_
      rintro _ _ ⟨rfl, ws, hwl, hwL, hwv, hH⟩
      obtain rfl := hH.symm
      rw [Heap.set_set]
      rw [List.drop_zero] at *
      generalize hv : val (zs.take m) = v at *
      have hvm := Nat.mod_lt v (by decide : 0 < 1000000000)
      have hpl := (dec_len (n := v % 1000000000) (k := 9) (by decide)).2 hvm
      have hrw := right_zero (xs := ws)
      have hrl := right_le ws
      obtain ⟨hrr, hrv⟩ := right_right ws
      rw [hwv] at hrw hrv
      have hpt := part_len hpl
      have hrp : (List.replicate (9 - (dec (v % 1000000000)).length) (48 : UInt8)).length = 9 - (dec (v % 1000000000)).length := List.length_replicate
      refine AList.p rfl (pure_convX Tryz.underlying112 Tryz.underlying3 (.tmp _ _ rfl) (wrapNI64 (by first | assumption | omega))) ?_
      refine AList.s rfl (step_call0 Tryz.call44 (.cons (.tmp _ _ rfl) .nil) (itoaA _ (by omega) _)) ?_
      rintro _ _ ⟨rfl, hH⟩
      obtain rfl := hH.symm
      refine AList.p rfl (pure_assign (.tmp _ _ rfl)) ?_
      refine AList.nil ?_
      refine Next.go ?_
      refine AWP.seqToL [(3, .mslice (some ⟨b7, 0, none⟩) (rightN ws) (limbs a).length), (5, .str (if v / 1000000000 = 0 then dec (v % 1000000000) else List.replicate (9 - (dec (v % 1000000000)).length) 48 ++ dec (v % 1000000000)))] [4] ?_ ?_
      · refine AWP.seq ?_
        -- region 7
        refine AWP.region ?_
        refine AList.p rfl (pure_move (.tmp _ _ rfl)) ?_
        refine AList.s rfl (step_call0 Tryz.call203 (.cons (.tmp _ _ rfl) .nil) (cutW_calls b7 m (limbs a).length (mid zs 0 ws) (mid_Limbs hzL hwL) (by rw [mid_len hwl (by omega)]; omega) (by omega) hm _ (Heap.objs_set_same _ _ _))) ?_
        rintro _ _ ⟨rfl, hH⟩
        obtain rfl := hH.symm
        rw [mid_take hwl]
        refine AList.p rfl (pure_assign (.tmp _ _ rfl)) ?_
        refine AList.nil ?_
        refine Next.go ?_
        refine AWP.seq ?_
        -- region 8
        refine AWP.region ?_
        refine AList.p rfl (pure_move (.tmp _ _ rfl)) ?_
        first | (refine AList.p rfl (pure_lenU Tryz.underlying170 (.tmp _ _ rfl)) ?_) | (refine AList.p rfl (pure_lenM Tryz.underlying170 (.tmp _ _ rfl)) ?_) | (refine AList.p rfl (pure_lenS Tryz.underlying170 (.tmp _ _ rfl)) ?_)
        refine AList.p rfl (pure_gtr (.tmp _ _ rfl) (ev_nat 0)) ?_
        refine AList.nil ?_
        refine Next.go ?_
        -- c2
        refine AWP.cond (.tmp _ _ rfl) (fun hc22 => ?_) (fun hc22 => ?_)
        · try simp only [decide_eq_true_eq] at hc22
          -- region 9
          refine AWP.region ?_
          refine AList.p rfl (pure_move (.tmp _ _ rfl)) ?_
          refine AList.p rfl (pure_lenStr Tryz.underlying9 (.tmp _ _ rfl)) ?_
          refine AList.p rfl (pure_sub (ev_nat 9) (.tmp _ _ rfl) (by omega)) ?_
          refine AList.s rfl (step_call0 Tryz.call93 (.cons (ev_str rfl) (.cons (.tmp _ _ rfl) .nil)) (repeatZ 48 _ (9 - (dec (v % 1000000000)).length) (by omega) (by omega) _)) ?_
          rintro _ _ ⟨rfl, hH⟩
          obtain rfl := hH.symm
          refine AList.p rfl (pure_move (.tmp _ _ rfl)) ?_
          refine AList.p rfl (pure_addStr (.tmp _ _ rfl) (.tmp _ _ rfl) (by simp only [maxLen_eq] at *; omega)) ?_
          refine AList.p rfl (pure_assign (.tmp _ _ rfl)) ?_
          refine AList.nil ?_
          exact ⟨rfl, (sub_e rfl (by first | rfl | (rw [if_neg (by omega)]) | (rw [if_pos (by omega)])) (sub_e rfl (by first | rfl | (rw [if_neg (by omega)]) | (rw [if_pos (by omega)])) (sub_c rfl sub_n))), rfl⟩
        · try simp only [decide_eq_false_iff_not, Int.not_lt] at hc22
          refine AWP.skip ?_
          exact ⟨rfl, (sub_e rfl (by first | rfl | (rw [if_neg (by omega)]) | (rw [if_pos (by omega)])) (sub_e rfl (by first | rfl | (rw [if_neg (by omega)]) | (rw [if_pos (by omega)])) (sub_c rfl sub_n))), rfl⟩
      · refine AWP.sub [(3, _), (5, _), (4, _)] (sub_c rfl (sub_c rfl (sub_c rfl sub_n))) ?_
        -- region 10
        refine AWP.region ?_
        refine AList.p rfl (pure_move (.tmp _ _ rfl)) ?_
        refine AList.p rfl (pure_move (.tmp _ _ rfl)) ?_
        refine AList.p rfl (pure_addStr (.tmp _ _ rfl) (.tmp _ _ rfl) (by simp only [maxLen_eq] at *; omega)) ?_
        refine AList.p rfl (pure_assign (.tmp _ _ rfl)) ?_
        refine AList.nil ?_
        refine Block.go ?_
        refine Next.go ?_
        have htt : (mid zs 0 ws).take (rightN ws) = ws.take (rightN ws) := by rw [← mid_take (zs := zs) hwl, List.take_take, mid_take hwl, Nat.min_eq_left (by omega)]
        refine Round.mk (J := dig_J a (limbs a).length b7 H) ⟨rightN ws, mid zs 0 ws, _, by omega, (mid_len hwl (by omega)).trans hzl, mid_Limbs hzL hwL, by rw [htt]; exact hrr, by rw [htt, hrv]; exact dig_step hpos hdec, rfl, rfl, by rw [htt, hrv]⟩ (sub_c rfl (sub_c rfl sub_n)) (Heap.le.refl _) (by omega)
    · try simp only [decide_eq_false_iff_not, Int.not_lt] at hc13
      refine AWP.exit ?_
      refine Next.ex ?_
      refine Next.ex ?_
      refine Block.hit ?_
      refine Next.go ?_
      refine AWP.seq ?_
      refine AWP.frzU (t := 3) rfl hb7 (by omega) hm (by simp only [maxLen_eq]; omega) ?_
      -- region 11
      refine AWP.region ?_
      refine AList.p rfl (pure_move (.tmp _ _ rfl)) ?_
      refine AList.p rfl (pure_assign (.tmp _ _ rfl)) ?_
      refine AList.nil ?_
      refine Next.go ?_
      refine AWP.ret ?_
      -- ret 1
      refine Ret.go (.cons (.tmp _ _ rfl) .nil) _ (Heap.le.refl _) ?_
      refine ⟨?_, rfl⟩
      have hm0 : m = 0 := by omega
      rw [hm0, List.take_zero] at hdec
      rw [show dec a = s from hdec.trans (if_pos rfl)]; rfl

end Go.Proofs.YtfkeflcdadlmdaaGreatDoor

namespace Go.Proofs.YtfkeflcdadlmdaaGreatDoor
open Go Go.RowKit Go.Shelf

def isD (b : UInt8) : Prop := 48 ≤ b.toNat ∧ b.toNat ≤ 57
def Digs (l : List UInt8) : Prop := ∀ b, b ∈ l → isD b
def numX (acc : Nat) (l : List UInt8) : Nat := l.foldl (fun a c => a * 10 + (c.toNat - 48)) acc
theorem numX_nil (acc : Nat) : numX acc [] = acc := rfl
theorem numX_cons (acc : Nat) (c : UInt8) (r : List UInt8) : numX acc (c :: r) = numX (acc * 10 + (c.toNat - 48)) r := by unfold numX; rw [List.foldl_cons]
def num (l : List UInt8) : Nat := numX 0 l
theorem numX_eq : ∀ (l : List UInt8) (acc : Nat), numX acc l = acc * 10 ^ l.length + num l
  | [], acc => by rw [num, numX_nil, numX_nil]; simp
  | c :: r, acc => by
    rw [num, numX_cons, numX_cons, numX_eq r (acc * 10 + (c.toNat - 48)), numX_eq r (0 * 10 + (c.toNat - 48)), List.length_cons, Nat.pow_succ, Nat.add_mul, Nat.zero_mul, Nat.zero_add, Nat.mul_assoc, Nat.mul_comm 10]
    omega
theorem num_cons (c : UInt8) (r : List UInt8) : num (c :: r) = (c.toNat - 48) * 10 ^ r.length + num r := by
  rw [num, numX_cons, numX_eq, Nat.zero_mul, Nat.zero_add]
theorem num_lt : ∀ {l : List UInt8}, Digs l → num l < 10 ^ l.length
  | [], _ => by rw [num, numX_nil]; simp
  | c :: r, h => by
    have h1 := num_lt (l := r) fun b hb => h b (by simp [hb])
    have h2 := h c (by simp)
    rw [num_cons, List.length_cons, Nat.pow_succ]
    have h3 : (c.toNat - 48) * 10 ^ r.length ≤ 9 * 10 ^ r.length := Nat.mul_le_mul_right _ (by have := h2.2; omega)
    omega
theorem numX_ge (acc : Nat) (l : List UInt8) : acc ≤ numX acc l := by
  rw [numX_eq]
  have : acc * 1 ≤ acc * 10 ^ l.length := Nat.mul_le_mul_left _ (Nat.pow_pos (by decide))
  omega
theorem parse10_ok : ∀ (l : List UInt8) (acc : Nat), Digs l → numX acc l < 18446744073709551616 → Lib.parseUint10 acc l = .ok (numX acc l)
  | [], acc, _, _ => rfl
  | c :: r, acc, h, hl => by
    rw [numX_cons] at hl ⊢
    have h1 := numX_ge (acc * 10 + (c.toNat - 48)) r
    have h2 := h c (by simp)
    unfold Lib.parseUint10
    rw [if_pos (show 48 ≤ c.toNat ∧ c.toNat ≤ 57 from h2), if_neg (by omega), if_neg (by omega)]
    exact parse10_ok r _ (fun b hb => h b (by simp [hb])) hl
theorem Digs.take {l : List UInt8} (h : Digs l) (n : Nat) : Digs (l.take n) := fun b hb => h b (List.mem_of_mem_take hb)
theorem Digs.drop {l : List UInt8} (h : Digs l) (n : Nat) : Digs (l.drop n) := fun b hb => h b (List.mem_of_mem_drop hb)
theorem Digs.dropWhile {l : List UInt8} (h : Digs l) (q : UInt8 → Bool) : Digs (l.dropWhile q) := fun b hb => h b ((List.dropWhile_sublist q).subset hb)
theorem dec_digs (n : Nat) : Digs (dec n) := by
  have hd : ∀ m, m < 10 → isD (dgt m) := fun m hm => by
    unfold isD dgt
    rw [UInt8.toNat_ofNat']
    omega
  induction n using Nat.strongRecOn with
  | ind n ih =>
    rcases Nat.lt_or_ge n 10 with h | h
    · rw [dec_lt h]; intro b hb; rw [List.mem_singleton.1 hb]; exact hd n h
    · rw [dec_ge h]
      intro b hb
      rcases List.mem_append.1 hb with hb | hb
      · exact ih _ (by omega) b hb
      · rw [List.mem_singleton.1 hb]; exact hd _ (Nat.mod_lt _ (by decide))
end Go.Proofs.YtfkeflcdadlmdaaGreatDoor

namespace Go.Proofs.YtfkeflcdadlmdaaGreatDoor
open Go Go.RowKit Go.Shelf

def dA (neg : Bool) (ds : List UInt8) (e : Int) : AV := .agg [.bool neg, .str ds, .int .i64 e]
def digB (ds : List UInt8) : Bool := ds.all fun b => decide (48 ≤ b.toNat) && decide (b.toNat ≤ 57)
theorem digB_iff {ds : List UInt8} : digB ds = true ↔ Digs ds := by
  unfold digB Digs isD
  simp [List.all_eq_true]
def rightB (ds : List UInt8) (e : Int) : Bool :=
  if ds = [] then decide (e = 0) else
  decide (ds.length ≤ 1100) && decide (-100000 ≤ e) && decide (e ≤ 100000) && digB ds && !decide ((ds.getD 0 0) = 48) && !decide ((ds.getD (ds.length - 1) 0) = 48)
def longD (ds : List UInt8) : List UInt8 := ds.dropWhile (· == 48)
def coreD (ds : List UInt8) : List UInt8 := Lib.trimRightB (longD ds) 48
def moreD (ds : List UInt8) : Nat := (longD ds).length - (coreD ds).length
def okD (ds : List UInt8) (e : Int) : Prop := (coreD ds).length ≤ 1100 ∧ -100000 ≤ e + moreD ds ∧ e + moreD ds ≤ 100000
instance (ds : List UInt8) (e : Int) : Decidable (okD ds e) := inferInstanceAs (Decidable (_ ∧ _ ∧ _))
def mkN (neg : Bool) (ds : List UInt8) (e : Int) : (Bool × List UInt8 × Int) × Int :=
  if coreD ds = [] then ((neg, [], 0), 0) else if okD ds e then ((neg, coreD ds, e + moreD ds), 0) else ((false, [], 0), 2)
def dT (d : (Bool × List UInt8 × Int) × Int) : AV := .tuple [dA d.1.1 d.1.2.1 d.1.2.2, .int .i64 d.2]
theorem trimR_split (l : List UInt8) (c : UInt8) : ∃ n, l = Lib.trimRightB l c ++ List.replicate n c := by
  unfold Lib.trimRightB
  have h : ∀ m : List UInt8, ∃ n, m = List.replicate n c ++ m.dropWhile (· == c) := by
    intro m
    induction m with
    | nil => exact ⟨0, rfl⟩
    | cons x m ih =>
      rw [List.dropWhile_cons]
      split
      · rename_i hx
        obtain ⟨n, hn⟩ := ih
        have hx' : x = c := by simpa using hx
        refine ⟨n + 1, ?_⟩
        rw [List.replicate_succ, List.cons_append, ← hn, hx']
      · exact ⟨0, rfl⟩
  obtain ⟨n, hn⟩ := h l.reverse
  refine ⟨n, ?_⟩
  have := congrArg List.reverse hn
  rw [List.reverse_reverse, List.reverse_append, List.reverse_replicate] at this
  exact this
theorem trimR_len (l : List UInt8) (c : UInt8) : (Lib.trimRightB l c).length ≤ l.length := by
  obtain ⟨n, hn⟩ := trimR_split l c
  have := congrArg List.length hn
  rw [List.length_append] at this
  omega
theorem dropW_len (l : List UInt8) (c : UInt8) : (l.dropWhile (· == c)).length ≤ l.length := (List.dropWhile_sublist _).length_le
theorem trimR_last {l : List UInt8} {c : UInt8} (h : Lib.trimRightB l c ≠ []) : (Lib.trimRightB l c).getD ((Lib.trimRightB l c).length - 1) 0 ≠ c := by
  unfold Lib.trimRightB at h ⊢
  have hh : l.reverse.dropWhile (· == c) ≠ [] := by simpa using h
  have h1 : ∀ m : List UInt8, m.dropWhile (· == c) ≠ [] → ∃ x r, m.dropWhile (· == c) = x :: r ∧ x ≠ c := by
    intro m
    induction m with
    | nil => intro h; exact absurd rfl h
    | cons x m ih =>
      intro h
      rw [List.dropWhile_cons] at h ⊢
      split
      · rename_i hx; rw [if_pos hx] at h; exact ih h
      · rename_i hx; exact ⟨x, m, rfl, by simpa using hx⟩
  obtain ⟨x, r, hx, hne⟩ := h1 _ hh
  rw [hx]
  simp
  exact hne
theorem dropW_head {l : List UInt8} {c : UInt8} (h : l.dropWhile (· == c) ≠ []) : (l.dropWhile (· == c)).getD 0 0 ≠ c := by
  induction l with
  | nil => exact absurd rfl h
  | cons x m ih =>
    rw [List.dropWhile_cons] at h ⊢
    split
    · rename_i hx; rw [if_pos hx] at h; exact ih h
    · rename_i hx; simpa using hx
theorem Digs.trimR {l : List UInt8} (h : Digs l) (c : UInt8) : Digs (Lib.trimRightB l c) := fun b hb => by
  obtain ⟨n, hn⟩ := trimR_split l c
  exact h b (by rw [hn]; simp [hb])
theorem trimR_head {l : List UInt8} {c : UInt8} (h : Lib.trimRightB l c ≠ []) : (Lib.trimRightB l c).getD 0 0 = l.getD 0 0 := by
  obtain ⟨n, hn⟩ := trimR_split l c
  cases ht : Lib.trimRightB l c with
  | nil => exact absurd ht h
  | cons x r => rw [ht] at hn; rw [hn]; rfl
theorem core_right {ds : List UInt8} (hd : Digs ds) (h : coreD ds ≠ []) {e : Int} : rightB (coreD ds) e = (decide ((coreD ds).length ≤ 1100) && decide (-100000 ≤ e) && decide (e ≤ 100000)) := by
  unfold rightB
  rw [if_neg h]
  have h1 : digB (coreD ds) = true := digB_iff.2 ((hd.dropWhile _).trimR _)
  have h2 : (coreD ds).getD ((coreD ds).length - 1) 0 ≠ 48 := trimR_last h
  have h3 : (coreD ds).getD 0 0 ≠ 48 := by
    unfold coreD
    rw [trimR_head h]
    refine dropW_head fun h0 => h ?_
    unfold coreD longD
    rw [h0]; rfl
  rw [h1, decide_eq_false h2, decide_eq_false h3]
  simp
theorem mk_right {neg : Bool} {ds : List UInt8} {e : Int} (hd : Digs ds) : rightB (mkN neg ds e).1.2.1 (mkN neg ds e).1.2.2 = true := by
  unfold mkN
  split
  · rfl
  · rename_i h
    split
    · rename_i h2
      obtain ⟨h3, h4, h5⟩ := h2
      show rightB (coreD ds) (e + moreD ds) = true
      rw [core_right hd h]
      simp [h3, h4, h5]
    · rfl
theorem right_digs {ds : List UInt8} {e : Int} (h : rightB ds e = true) : Digs ds := by
  unfold rightB at h
  split at h
  · rename_i h0; rw [h0]; intro b hb; simp at hb
  · simp only [Bool.and_eq_true] at h
    exact digB_iff.1 h.1.1.2
theorem rightB_len {ds : List UInt8} {e : Int} (h : rightB ds e = true) : ds.length ≤ 1100 ∧ -100000 ≤ e ∧ e ≤ 100000 := by
  unfold rightB at h
  split at h
  · rename_i h0
    have : e = 0 := by simpa using h
    rw [h0, this]; simp
  · simp only [Bool.and_eq_true, decide_eq_true_eq] at h
    exact ⟨h.1.1.1.1.1, h.1.1.1.1.2, h.1.1.1.2⟩
end Go.Proofs.YtfkeflcdadlmdaaGreatDoor

namespace Go.Proofs.YtfkeflcdadlmdaaGreatDoor
open Go Go.RowKit

def kindN (x : Nat) : Nat :=
  if x / 4503599627370496 % 2048 = 2047 then (if x % 4503599627370496 = 0 then 3 else 4)
  else if x / 4503599627370496 % 2048 = 0 then (if x % 4503599627370496 = 0 then 0 else 1) else 2
def partM (x : Nat) : Nat := if kindN x ≤ 1 then x % 4503599627370496 else if kindN x = 2 then 4503599627370496 + x % 4503599627370496 else 0
def partE (x : Nat) : Int := if kindN x ≤ 1 then -1074 else if kindN x = 2 then ((x / 4503599627370496 % 2048 : Nat) : Int) - 1075 else 0
def negB (x : Nat) : Bool := decide ((9223372036854775808 : Int) ≤ (x : Int))
theorem and_2047 (x : Nat) : x &&& 2047 = x % 2048 := Nat.and_two_pow_sub_one_eq_mod x 11
theorem and_frac (x : Nat) : x &&& 4503599627370495 = x % 4503599627370496 := Nat.and_two_pow_sub_one_eq_mod x 52
theorem or_one {f : Nat} (h : f < 4503599627370496) : 4503599627370496 ||| f = 4503599627370496 + f := by
  have := Nat.two_pow_add_eq_or_of_lt (i := 52) h 1
  simp at this
  omega
theorem partM_lt (x : Nat) : partM x < 9007199254740992 := by
  unfold partM
  split
  · omega
  · split <;> omega
theorem partE_range (x : Nat) : -1075 ≤ partE x ∧ partE x ≤ 972 := by
  unfold partE
  split
  · omega
  · split <;> omega
theorem kindN_le (x : Nat) : kindN x ≤ 4 := by
  unfold kindN
  split
  · split <;> omega
  · split
    · split <;> omega
    · omega
end Go.Proofs.YtfkeflcdadlmdaaGreatDoor

namespace Go.Proofs.YtfkeflcdadlmdaaGreatDoor
open Go Go.RowKit

set_option maxRecDepth 100000 in
theorem Kind_calls (x : Nat) (hx : x < 18446744073709551616) (H : Heap) : ACall Tryz.prog 36 [.int .u64 (x : Int)] H (fun y H' => y = .int .i64 (kindN x : Int) ∧ H' = H) := by
  have hp : (2 : Nat) ^ 52 = 4503599627370496 := by decide
  refine ACall.of_body Tryz.func36 rfl Tryz.ntmps36 Tryz.results36 rfl ?_
  refine .sr ?_
  refine .p rfl (pure_assign ev_int) ?_
  refine .ng ?_
  refine .seq ?_
  refine .sr ?_
  refine .mv rfl rfl ?_
  refine .p rfl (pure_shr64 (tm rfl) (ev_nat 52) (by assumption)) ?_
  refine .p rfl (pure_and64 (tm rfl) (ev_nat 2047) (by omega) (by omega)) ?_
  refine .mv rfl rfl ?_
  refine .p rfl (pure_and64 (tm rfl) (ev_nat 4503599627370495) (by assumption) (by omega)) ?_
  refine .as rfl rfl ?_
  refine .as rfl rfl ?_
  refine .ng ?_
  refine .block ?_
  refine .seq ?_
  rw [and_2047, and_frac, hp]
  refine .region ?_
  refine .mv rfl rfl ?_
  refine .p rfl (pure_eql (tm rfl) (ev_nat 2047)) ?_
  refine .mv rfl rfl ?_
  refine bool_casesL (t := 13) rfl (fun hg13 => ?_) (fun hg13 => ?_)
  · have hh13 := hg13; try simp only [decide_eq_true_eq] at hh13
    refine .gp rfl rfl rfl (by assumption) (pure_move (tm rfl)) ?_
    refine .gp rfl rfl rfl (by assumption) (pure_neq (tm rfl) (ev_nat 0)) ?_
    refine .p rfl (pure_pickT (tm rfl) (by assumption) (tm rfl)) ?_
    refine .as rfl rfl ?_
    refine .ng ?_
    refine AWP.cond (tm rfl) (fun hc10 => ?_) (fun hc10 => ?_)
    · try simp only [decide_eq_true_eq, ne_eq] at hc10
      refine .sr ?_
      refine .p rfl (pure_assign ev_int) ?_
      refine .ng ?_
      refine .ret ?_
      refine Block.rt ?_
      refine Next.rt ?_
      refine Ret.go (.cons (.tmp _ _ rfl) .nil) _ (Heap.le.refl _) ?_
      refine ⟨?_, rfl⟩
      simp only [packed, kindN]
      congr 1
      (repeat' split) <;> first | rfl | omega
    · try simp only [decide_eq_false_iff_not, ne_eq, Decidable.not_not] at hc10
      refine .sr ?_
      refine .mv rfl rfl ?_
      refine .p rfl (pure_eql (tm rfl) (ev_nat 2047)) ?_
      refine .as rfl rfl ?_
      refine .ng ?_
      refine AWP.cond (tm rfl) (fun hc17 => ?_) (fun hc17 => ?_)
      · try simp only [decide_eq_true_eq] at hc17
        refine .sr ?_
        refine .p rfl (pure_assign ev_int) ?_
        refine .ng ?_
        refine .ret ?_
        refine Block.rt ?_
        refine Next.rt ?_
        refine Ret.go (.cons (.tmp _ _ rfl) .nil) _ (Heap.le.refl _) ?_
        refine ⟨?_, rfl⟩
        simp only [packed, kindN]
        congr 1
        (repeat' split) <;> first | rfl | omega
      · try simp only [decide_eq_false_iff_not] at hc17
        refine .sr ?_
        refine .mv rfl rfl ?_
        refine .p rfl (pure_gtr (tm rfl) (ev_nat 0)) ?_
        refine .as rfl rfl ?_
        refine .ng ?_
        refine AWP.cond (tm rfl) (fun hc20 => ?_) (fun hc20 => ?_)
        · try simp only [decide_eq_true_eq] at hc20
          refine .sr ?_
          refine .p rfl (pure_assign ev_int) ?_
          refine .ng ?_
          refine .ret ?_
          refine Block.rt ?_
          refine Next.rt ?_
          refine Ret.go (.cons (.tmp _ _ rfl) .nil) _ (Heap.le.refl _) ?_
          refine ⟨?_, rfl⟩
          simp only [packed, kindN]
          congr 1
          (repeat' split) <;> first | rfl | omega
        · try simp only [decide_eq_false_iff_not, Int.not_lt] at hc20
          refine .sr ?_
          refine .mv rfl rfl ?_
          refine .p rfl (pure_gtr (tm rfl) (ev_nat 0)) ?_
          refine .as rfl rfl ?_
          refine .ng ?_
          refine AWP.cond (tm rfl) (fun hc23 => ?_) (fun hc23 => ?_)
          · try simp only [decide_eq_true_eq] at hc23
            refine .sr ?_
            refine .p rfl (pure_assign ev_int) ?_
            refine .ng ?_
            refine .ret ?_
            refine Block.rt ?_
            refine Next.rt ?_
            refine Ret.go (.cons (.tmp _ _ rfl) .nil) _ (Heap.le.refl _) ?_
            refine ⟨?_, rfl⟩
            simp only [packed, kindN]
            congr 1
            (repeat' split) <;> first | rfl | omega
          · try simp only [decide_eq_false_iff_not, Int.not_lt] at hc23
            refine .skip ?_
            refine Block.go ?_
            refine Next.go ?_
            refine .sr ?_
            refine .p rfl (pure_assign ev_int) ?_
            refine .ng ?_
            refine .ret ?_
            refine Ret.go (.cons (.tmp _ _ rfl) .nil) _ (Heap.le.refl _) ?_
            refine ⟨?_, rfl⟩
            simp only [packed, kindN]
            congr 1
            (repeat' split) <;> first | rfl | omega
  · have hh13 := hg13; try simp only [decide_eq_false_iff_not] at hh13
    refine .gn rfl rfl rfl (by assumption) ?_
    refine .gn rfl rfl rfl (by assumption) ?_
    refine .p rfl (pure_pickF (tm rfl) (by assumption) ev_bool) ?_
    refine .as rfl rfl ?_
    refine .ng ?_
    refine AWP.cond_false (tm rfl) (by rfl) ?_
    refine .sr ?_
    refine .mv rfl rfl ?_
    refine .p rfl (pure_eql (tm rfl) (ev_nat 2047)) ?_
    refine .as rfl rfl ?_
    refine .ng ?_
    refine AWP.cond (tm rfl) (fun hc17 => ?_) (fun hc17 => ?_)
    · try simp only [decide_eq_true_eq] at hc17
      refine .sr ?_
      refine .p rfl (pure_assign ev_int) ?_
      refine .ng ?_
      refine .ret ?_
      refine Block.rt ?_
      refine Next.rt ?_
      refine Ret.go (.cons (.tmp _ _ rfl) .nil) _ (Heap.le.refl _) ?_
      refine ⟨?_, rfl⟩
      simp only [packed, kindN]
      congr 1
      (repeat' split) <;> first | rfl | omega
    · try simp only [decide_eq_false_iff_not] at hc17
      refine .sr ?_
      refine .mv rfl rfl ?_
      refine .p rfl (pure_gtr (tm rfl) (ev_nat 0)) ?_
      refine .as rfl rfl ?_
      refine .ng ?_
      refine AWP.cond (tm rfl) (fun hc20 => ?_) (fun hc20 => ?_)
      · try simp only [decide_eq_true_eq] at hc20
        refine .sr ?_
        refine .p rfl (pure_assign ev_int) ?_
        refine .ng ?_
        refine .ret ?_
        refine Block.rt ?_
        refine Next.rt ?_
        refine Ret.go (.cons (.tmp _ _ rfl) .nil) _ (Heap.le.refl _) ?_
        refine ⟨?_, rfl⟩
        simp only [packed, kindN]
        congr 1
        (repeat' split) <;> first | rfl | omega
      · try simp only [decide_eq_false_iff_not, Int.not_lt] at hc20
        refine .sr ?_
        refine .mv rfl rfl ?_
        refine .p rfl (pure_gtr (tm rfl) (ev_nat 0)) ?_
        refine .as rfl rfl ?_
        refine .ng ?_
        refine AWP.cond (tm rfl) (fun hc23 => ?_) (fun hc23 => ?_)
        · try simp only [decide_eq_true_eq] at hc23
          refine .sr ?_
          refine .p rfl (pure_assign ev_int) ?_
          refine .ng ?_
          refine .ret ?_
          refine Block.rt ?_
          refine Next.rt ?_
          refine Ret.go (.cons (.tmp _ _ rfl) .nil) _ (Heap.le.refl _) ?_
          refine ⟨?_, rfl⟩
          simp only [packed, kindN]
          congr 1
          (repeat' split) <;> first | rfl | omega
        · try simp only [decide_eq_false_iff_not, Int.not_lt] at hc23
          refine .skip ?_
          refine Block.go ?_
          refine Next.go ?_
          refine .sr ?_
          refine .p rfl (pure_assign ev_int) ?_
          refine .ng ?_
          refine .ret ?_
          refine Ret.go (.cons (.tmp _ _ rfl) .nil) _ (Heap.le.refl _) ?_
          refine ⟨?_, rfl⟩
          simp only [packed, kindN]
          congr 1
          (repeat' split) <;> first | rfl | omega

set_option maxRecDepth 100000 in
theorem rKind_calls (x : Nat) (hx : x < 18446744073709551616) (H : Heap) : ACall Tryz.prog 16 [.int .u64 (x : Int)] H (fun y H' => y = .int .i64 (kindN x : Int) ∧ H' = H) := by
  have hp : (2 : Nat) ^ 52 = 4503599627370496 := by decide
  refine ACall.of_body Tryz.func16 rfl Tryz.ntmps16 Tryz.results16 rfl ?_
  refine .sr ?_
  refine .p rfl (pure_assign ev_int) ?_
  refine .nr ?_
  refine .mv rfl rfl ?_
  refine .p rfl (pure_shr64 (tm rfl) (ev_nat 52) (by assumption)) ?_
  refine .p rfl (pure_rem64 (tm rfl) (ev_nat 2048) (by omega)) ?_
  refine .as rfl rfl ?_
  refine .nr ?_
  refine .mv rfl rfl ?_
  refine .p rfl (pure_rem64 (tm rfl) (ev_nat 4503599627370496) (by omega)) ?_
  refine .as rfl rfl ?_
  refine .ng ?_
  refine .seq ?_
  refine .block ?_
  refine .seq ?_
  rw [hp]
  refine .region ?_
  refine .mv rfl rfl ?_
  refine .p rfl (pure_eql (tm rfl) (ev_nat 2047)) ?_
  refine .mv rfl rfl ?_
  refine bool_casesL (t := 13) rfl (fun hg13 => ?_) (fun hg13 => ?_)
  · have hh13 := hg13; try simp only [decide_eq_true_eq] at hh13
    refine .gp rfl rfl rfl (by assumption) (pure_move (tm rfl)) ?_
    refine .gp rfl rfl rfl (by assumption) (pure_eql (tm rfl) (ev_nat 0)) ?_
    refine .p rfl (pure_pickT (tm rfl) (by assumption) (tm rfl)) ?_
    refine .as rfl rfl ?_
    refine .ng ?_
    refine AWP.cond (tm rfl) (fun hc10 => ?_) (fun hc10 => ?_)
    · try simp only [decide_eq_true_eq] at hc10
      refine .sr ?_
      refine .p rfl (pure_assign ev_int) ?_
      refine .ng ?_
      refine .ret ?_
      refine Block.rt ?_
      refine Next.rt ?_
      refine Ret.go (.cons (.tmp _ _ rfl) .nil) _ (Heap.le.refl _) ?_
      refine ⟨?_, rfl⟩
      simp only [packed, kindN]
      congr 1
      (repeat' split) <;> first | rfl | omega
    · try simp only [decide_eq_false_iff_not] at hc10
      refine .sr ?_
      refine .mv rfl rfl ?_
      refine .p rfl (pure_eql (tm rfl) (ev_nat 2047)) ?_
      refine .as rfl rfl ?_
      refine .ng ?_
      refine AWP.cond (tm rfl) (fun hc17 => ?_) (fun hc17 => ?_)
      · try simp only [decide_eq_true_eq] at hc17
        refine .sr ?_
        refine .p rfl (pure_assign ev_int) ?_
        refine .ng ?_
        refine .ret ?_
        refine Block.rt ?_
        refine Next.rt ?_
        refine Ret.go (.cons (.tmp _ _ rfl) .nil) _ (Heap.le.refl _) ?_
        refine ⟨?_, rfl⟩
        simp only [packed, kindN]
        congr 1
        (repeat' split) <;> first | rfl | omega
      · try simp only [decide_eq_false_iff_not] at hc17
        refine .sr ?_
        refine .mv rfl rfl ?_
        refine .p rfl (pure_eql (tm rfl) (ev_nat 0)) ?_
        refine .mv rfl rfl ?_
        refine bool_casesL (t := 23) rfl (fun hg23 => ?_) (fun hg23 => ?_)
        · have hh23 := hg23; try simp only [decide_eq_true_eq] at hh23
          refine .gp rfl rfl rfl (by assumption) (pure_move (tm rfl)) ?_
          refine .gp rfl rfl rfl (by assumption) (pure_eql (tm rfl) (ev_nat 0)) ?_
          refine .p rfl (pure_pickT (tm rfl) (by assumption) (tm rfl)) ?_
          refine .as rfl rfl ?_
          refine .ng ?_
          refine AWP.cond (tm rfl) (fun hc20 => ?_) (fun hc20 => ?_)
          · try simp only [decide_eq_true_eq] at hc20
            refine .sr ?_
            refine .p rfl (pure_assign ev_int) ?_
            refine .ng ?_
            refine .ret ?_
            refine Block.rt ?_
            refine Next.rt ?_
            refine Ret.go (.cons (.tmp _ _ rfl) .nil) _ (Heap.le.refl _) ?_
            refine ⟨?_, rfl⟩
            simp only [packed, kindN]
            congr 1
            (repeat' split) <;> first | rfl | omega
          · try simp only [decide_eq_false_iff_not] at hc20
            refine .sr ?_
            refine .mv rfl rfl ?_
            refine .p rfl (pure_eql (tm rfl) (ev_nat 0)) ?_
            refine .as rfl rfl ?_
            refine .ng ?_
            refine AWP.cond (tm rfl) (fun hc27 => ?_) (fun hc27 => ?_)
            · try simp only [decide_eq_true_eq] at hc27
              refine .sr ?_
              refine .p rfl (pure_assign ev_int) ?_
              refine .ng ?_
              refine .ret ?_
              refine Block.rt ?_
              refine Next.rt ?_
              refine Ret.go (.cons (.tmp _ _ rfl) .nil) _ (Heap.le.refl _) ?_
              refine ⟨?_, rfl⟩
              simp only [packed, kindN]
              congr 1
              (repeat' split) <;> first | rfl | omega
            · try simp only [decide_eq_false_iff_not] at hc27
              refine .skip ?_
              refine Block.go ?_
              refine Next.go ?_
              refine .sr ?_
              refine .p rfl (pure_assign ev_int) ?_
              refine .ng ?_
              refine .ret ?_
              refine Ret.go (.cons (.tmp _ _ rfl) .nil) _ (Heap.le.refl _) ?_
              refine ⟨?_, rfl⟩
              simp only [packed, kindN]
              congr 1
              (repeat' split) <;> first | rfl | omega
        · have hh23 := hg23; try simp only [decide_eq_false_iff_not] at hh23
          refine .gn rfl rfl rfl (by assumption) ?_
          refine .gn rfl rfl rfl (by assumption) ?_
          refine .p rfl (pure_pickF (tm rfl) (by assumption) ev_bool) ?_
          refine .as rfl rfl ?_
          refine .ng ?_
          refine AWP.cond_false (tm rfl) (by rfl) ?_
          refine .sr ?_
          refine .mv rfl rfl ?_
          refine .p rfl (pure_eql (tm rfl) (ev_nat 0)) ?_
          refine .as rfl rfl ?_
          refine .ng ?_
          refine AWP.cond (tm rfl) (fun hc27 => ?_) (fun hc27 => ?_)
          · try simp only [decide_eq_true_eq] at hc27
            refine .sr ?_
            refine .p rfl (pure_assign ev_int) ?_
            refine .ng ?_
            refine .ret ?_
            refine Block.rt ?_
            refine Next.rt ?_
            refine Ret.go (.cons (.tmp _ _ rfl) .nil) _ (Heap.le.refl _) ?_
            refine ⟨?_, rfl⟩
            simp only [packed, kindN]
            congr 1
            (repeat' split) <;> first | rfl | omega
          · try simp only [decide_eq_false_iff_not] at hc27
            refine .skip ?_
            refine Block.go ?_
            refine Next.go ?_
            refine .sr ?_
            refine .p rfl (pure_assign ev_int) ?_
            refine .ng ?_
            refine .ret ?_
            refine Ret.go (.cons (.tmp _ _ rfl) .nil) _ (Heap.le.refl _) ?_
            refine ⟨?_, rfl⟩
            simp only [packed, kindN]
            congr 1
            (repeat' split) <;> first | rfl | omega
  · have hh13 := hg13; try simp only [decide_eq_false_iff_not] at hh13
    refine .gn rfl rfl rfl (by assumption) ?_
    refine .gn rfl rfl rfl (by assumption) ?_
    refine .p rfl (pure_pickF (tm rfl) (by assumption) ev_bool) ?_
    refine .as rfl rfl ?_
    refine .ng ?_
    refine AWP.cond_false (tm rfl) (by rfl) ?_
    refine .sr ?_
    refine .mv rfl rfl ?_
    refine .p rfl (pure_eql (tm rfl) (ev_nat 2047)) ?_
    refine .as rfl rfl ?_
    refine .ng ?_
    refine AWP.cond (tm rfl) (fun hc17 => ?_) (fun hc17 => ?_)
    · try simp only [decide_eq_true_eq] at hc17
      refine .sr ?_
      refine .p rfl (pure_assign ev_int) ?_
      refine .ng ?_
      refine .ret ?_
      refine Block.rt ?_
      refine Next.rt ?_
      refine Ret.go (.cons (.tmp _ _ rfl) .nil) _ (Heap.le.refl _) ?_
      refine ⟨?_, rfl⟩
      simp only [packed, kindN]
      congr 1
      (repeat' split) <;> first | rfl | omega
    · try simp only [decide_eq_false_iff_not] at hc17
      refine .sr ?_
      refine .mv rfl rfl ?_
      refine .p rfl (pure_eql (tm rfl) (ev_nat 0)) ?_
      refine .mv rfl rfl ?_
      refine bool_casesL (t := 23) rfl (fun hg23 => ?_) (fun hg23 => ?_)
      · have hh23 := hg23; try simp only [decide_eq_true_eq] at hh23
        refine .gp rfl rfl rfl (by assumption) (pure_move (tm rfl)) ?_
        refine .gp rfl rfl rfl (by assumption) (pure_eql (tm rfl) (ev_nat 0)) ?_
        refine .p rfl (pure_pickT (tm rfl) (by assumption) (tm rfl)) ?_
        refine .as rfl rfl ?_
        refine .ng ?_
        refine AWP.cond (tm rfl) (fun hc20 => ?_) (fun hc20 => ?_)
        · try simp only [decide_eq_true_eq] at hc20
          refine .sr ?_
          refine .p rfl (pure_assign ev_int) ?_
          refine .ng ?_
          refine .ret ?_
          refine Block.rt ?_
          refine Next.rt ?_
          refine Ret.go (.cons (.tmp _ _ rfl) .nil) _ (Heap.le.refl _) ?_
          refine ⟨?_, rfl⟩
          simp only [packed, kindN]
          congr 1
          (repeat' split) <;> first | rfl | omega
        · try simp only [decide_eq_false_iff_not] at hc20
          refine .sr ?_
          refine .mv rfl rfl ?_
          refine .p rfl (pure_eql (tm rfl) (ev_nat 0)) ?_
          refine .as rfl rfl ?_
          refine .ng ?_
          refine AWP.cond (tm rfl) (fun hc27 => ?_) (fun hc27 => ?_)
          · try simp only [decide_eq_true_eq] at hc27
            refine .sr ?_
            refine .p rfl (pure_assign ev_int) ?_
            refine .ng ?_
            refine .ret ?_
            refine Block.rt ?_
            refine Next.rt ?_
            refine Ret.go (.cons (.tmp _ _ rfl) .nil) _ (Heap.le.refl _) ?_
            refine ⟨?_, rfl⟩
            simp only [packed, kindN]
            congr 1
            (repeat' split) <;> first | rfl | omega
          · try simp only [decide_eq_false_iff_not] at hc27
            refine .skip ?_
            refine Block.go ?_
            refine Next.go ?_
            refine .sr ?_
            refine .p rfl (pure_assign ev_int) ?_
            refine .ng ?_
            refine .ret ?_
            refine Ret.go (.cons (.tmp _ _ rfl) .nil) _ (Heap.le.refl _) ?_
            refine ⟨?_, rfl⟩
            simp only [packed, kindN]
            congr 1
            (repeat' split) <;> first | rfl | omega
      · have hh23 := hg23; try simp only [decide_eq_false_iff_not] at hh23
        refine .gn rfl rfl rfl (by assumption) ?_
        refine .gn rfl rfl rfl (by assumption) ?_
        refine .p rfl (pure_pickF (tm rfl) (by assumption) ev_bool) ?_
        refine .as rfl rfl ?_
        refine .ng ?_
        refine AWP.cond_false (tm rfl) (by rfl) ?_
        refine .sr ?_
        refine .mv rfl rfl ?_
        refine .p rfl (pure_eql (tm rfl) (ev_nat 0)) ?_
        refine .as rfl rfl ?_
        refine .ng ?_
        refine AWP.cond (tm rfl) (fun hc27 => ?_) (fun hc27 => ?_)
        · try simp only [decide_eq_true_eq] at hc27
          refine .sr ?_
          refine .p rfl (pure_assign ev_int) ?_
          refine .ng ?_
          refine .ret ?_
          refine Block.rt ?_
          refine Next.rt ?_
          refine Ret.go (.cons (.tmp _ _ rfl) .nil) _ (Heap.le.refl _) ?_
          refine ⟨?_, rfl⟩
          simp only [packed, kindN]
          congr 1
          (repeat' split) <;> first | rfl | omega
        · try simp only [decide_eq_false_iff_not] at hc27
          refine .skip ?_
          refine Block.go ?_
          refine Next.go ?_
          refine .sr ?_
          refine .p rfl (pure_assign ev_int) ?_
          refine .ng ?_
          refine .ret ?_
          refine Ret.go (.cons (.tmp _ _ rfl) .nil) _ (Heap.le.refl _) ?_
          refine ⟨?_, rfl⟩
          simp only [packed, kindN]
          congr 1
          (repeat' split) <;> first | rfl | omega

set_option maxRecDepth 100000 in
theorem rIs_calls (x : Nat) (hx : x < 18446744073709551616) (H : Heap) : ACall Tryz.prog 125 [.int .u64 (x : Int)] H (fun y H' => y = .bool (negB x) ∧ H' = H) := by
  refine ACall.of_body Tryz.func125 rfl Tryz.ntmps125 Tryz.results125 rfl ?_
  refine .sr ?_
  refine .p rfl (pure_assign ev_bool) ?_
  refine .nr ?_
  refine .mv rfl rfl ?_
  refine .p rfl (pure_geq (tm rfl) (ev_nat 9223372036854775808)) ?_
  refine .as rfl rfl ?_
  refine .ng ?_
  refine .ret ?_
  refine Ret.go (.cons (.tmp _ _ rfl) .nil) _ (Heap.le.refl _) ?_
  exact ⟨rfl, rfl⟩

set_option maxRecDepth 100000 in
theorem Split_calls (x : Nat) (hx : x < 18446744073709551616) (H : Heap) : ACall Tryz.prog 120 [.int .u64 (x : Int)] H (fun y H' => y = .tuple [.bool (negB x), .int .u64 ((partM x : Nat) : Int), .int .i64 (partE x)] ∧ H' = H) := by
  have hp : (2 : Nat) ^ 52 = 4503599627370496 := by decide
  have hk := kindN_le x
  have hml := Nat.mod_lt x (by decide : 0 < 4503599627370496)
  have hor := or_one hml
  have hbb := and_2047 (x / 2 ^ 52)
  refine ACall.of_body Tryz.func120 rfl Tryz.ntmps120 Tryz.results120 rfl ?_
  refine .sr ?_
  refine .p rfl (pure_assign ev_bool) ?_
  refine .p rfl (pure_assign (ev_nat 0)) ?_
  refine .p rfl (pure_assign ev_int) ?_
  refine .nr ?_
  refine .mv rfl rfl ?_
  refine .p rfl (pure_geq (tm rfl) (ev_nat 9223372036854775808)) ?_
  refine .mv rfl rfl ?_
  refine .p rfl (pure_and64 (tm rfl) (ev_nat 4503599627370495) (by assumption) (by omega)) ?_
  refine .as rfl rfl ?_
  refine .as rfl rfl ?_
  refine .ng ?_
  refine .seq ?_
  refine .seq ?_
  rw [and_frac]
  refine .region ?_
  refine .mv rfl rfl ?_
  refine .cl rfl Tryz.call36 (evs1 rfl) (Kind_calls _ (by assumption) _) ?_
  refine .ng ?_
  refine .block ?_
  refine AWP.seqToL [(13, .bool (decide (kindN x ≤ 1)))] [0, 2, 3, 4, 5, 6, 12] ?_ ?_
  · refine .sr ?_
    refine .p rfl (pure_eql (tm rfl) ev_int) ?_
    refine .as rfl rfl ?_
    refine .ng ?_
    refine AWP.cond (tm rfl) (fun hc13 => ?_) (fun hc13 => ?_)
    · try simp only [decide_eq_true_eq] at hc13
      refine .skip ?_
      exact ⟨rfl, (sub_e rfl (by congr 1; symm; first | (exact decide_eq_true (by omega)) | (by_cases h : kindN x ≤ 1 <;> simp [h] <;> omega)) (sub_c rfl (sub_c rfl (sub_c rfl (sub_c rfl (sub_c rfl (sub_c rfl (sub_c rfl sub_n)))))))), rfl⟩
    · try simp only [decide_eq_false_iff_not] at hc13
      refine .region ?_
      refine .p rfl (pure_eql (tm rfl) ev_int) ?_
      refine .as rfl rfl ?_
      refine .nil ?_
      exact ⟨rfl, (sub_e rfl (by congr 1; symm; first | (exact decide_eq_true (by omega)) | (by_cases h : kindN x ≤ 1 <;> simp [h] <;> omega)) (sub_c rfl (sub_c rfl (sub_c rfl (sub_c rfl (sub_c rfl (sub_c rfl (sub_c rfl sub_n)))))))), rfl⟩
  · refine AWP.sub [(13, _), (0, _), (2, _), (3, _), (4, _), (5, _), (6, _), (12, _)] (sub_c rfl (sub_c rfl (sub_c rfl (sub_c rfl (sub_c rfl (sub_c rfl (sub_c rfl (sub_c rfl sub_n)))))))) ?_
    refine AWP.cond (tm rfl) (fun hc13 => ?_) (fun hc13 => ?_)
    · try simp only [decide_eq_true_eq] at hc13
      refine .sr ?_
      refine .mv rfl rfl ?_
      refine .mv rfl rfl ?_
      refine .as rfl rfl ?_
      refine .as rfl rfl ?_
      refine .p rfl (pure_assign ev_int) ?_
      refine .ng ?_
      refine .ret ?_
      refine Block.rt ?_
      refine Next.rt ?_
      refine Ret.go (.cons (.tmp _ _ rfl) (.cons (.tmp _ _ rfl) (.cons (.tmp _ _ rfl) .nil))) _ (Heap.le.refl _) ?_
      refine ⟨?_, rfl⟩
      simp only [packed, partM, partE]
      rw [if_pos (by omega), if_pos (by omega)] <;> rfl
    · try simp only [decide_eq_false_iff_not] at hc13
      refine .sr ?_
      refine .p rfl (pure_eql (tm rfl) ev_int) ?_
      refine .as rfl rfl ?_
      refine .ng ?_
      refine AWP.cond (tm rfl) (fun hc18 => ?_) (fun hc18 => ?_)
      · try simp only [decide_eq_true_eq] at hc18
        refine .sr ?_
        refine .mv rfl rfl ?_
        refine .mv rfl rfl ?_
        refine .p rfl (pure_or64 (ev_nat 4503599627370496) (tm rfl) (by omega) (by omega)) ?_
        refine .mv rfl rfl ?_
        refine .p rfl (pure_shr64 (tm rfl) (ev_nat 52) (by assumption)) ?_
        refine .p rfl (pure_and64 (tm rfl) (ev_nat 2047) (by omega) (by omega)) ?_
        refine .p rfl (pure_convX Tryz.underlying30 Tryz.underlying3 (tm rfl) (wrapNI64 (by omega))) ?_
        refine .p rfl (pure_sub (tm rfl) ev_int (by omega)) ?_
        refine .as rfl rfl ?_
        refine .as rfl rfl ?_
        refine .as rfl rfl ?_
        refine .ng ?_
        refine .ret ?_
        refine Block.rt ?_
        refine Next.rt ?_
        refine Ret.go (.cons (.tmp _ _ rfl) (.cons (.tmp _ _ rfl) (.cons (.tmp _ _ rfl) .nil))) _ (Heap.le.refl _) ?_
        refine ⟨?_, rfl⟩
        simp only [packed, partM, partE]
        rw [if_neg (by omega), if_pos (by omega), if_neg (by omega), if_pos (by omega), hor, and_2047, hp] <;> rfl
      · try simp only [decide_eq_false_iff_not] at hc18
        refine .skip ?_
        refine Block.go ?_
        refine Next.go ?_
        refine .sr ?_
        refine .mv rfl rfl ?_
        refine .as rfl rfl ?_
        refine .p rfl (pure_assign (ev_nat 0)) ?_
        refine .p rfl (pure_assign ev_int) ?_
        refine .ng ?_
        refine .ret ?_
        refine Ret.go (.cons (.tmp _ _ rfl) (.cons (.tmp _ _ rfl) (.cons (.tmp _ _ rfl) .nil))) _ (Heap.le.refl _) ?_
        refine ⟨?_, rfl⟩
        simp only [packed, partM, partE]
        rw [if_neg (by omega), if_neg (by omega), if_neg (by omega), if_neg (by omega)] <;> rfl

set_option maxRecDepth 100000 in
theorem rSplit_calls (x : Nat) (hx : x < 18446744073709551616) (H : Heap) : ACall Tryz.prog 81 [.int .u64 (x : Int)] H (fun y H' => y = .tuple [.bool (negB x), .int .u64 ((partM x : Nat) : Int), .int .i64 (partE x)] ∧ H' = H) := by
  have hp : (2 : Nat) ^ 52 = 4503599627370496 := by decide
  have hk := kindN_le x
  refine ACall.of_body Tryz.func81 rfl Tryz.ntmps81 Tryz.results81 rfl ?_
  refine .sr ?_
  refine .p rfl (pure_assign ev_bool) ?_
  refine .p rfl (pure_assign (ev_nat 0)) ?_
  refine .p rfl (pure_assign ev_int) ?_
  refine .ng ?_
  refine .seq ?_
  refine .sr ?_
  refine .mv rfl rfl ?_
  refine .cl rfl Tryz.call16 (evs1 rfl) (rKind_calls _ (by assumption) _) ?_
  refine .ng ?_
  refine .block ?_
  refine AWP.seqToL [(7, .bool (decide (kindN x ≤ 1)))] [0, 2, 3, 4, 6] ?_ ?_
  · refine .sr ?_
    refine .p rfl (pure_eql (tm rfl) ev_int) ?_
    refine .as rfl rfl ?_
    refine .ng ?_
    refine AWP.cond (tm rfl) (fun hc7 => ?_) (fun hc7 => ?_)
    · try simp only [decide_eq_true_eq] at hc7
      refine .skip ?_
      exact ⟨rfl, (sub_e rfl (by congr 1; symm; first | (exact decide_eq_true (by omega)) | (by_cases h : kindN x ≤ 1 <;> simp [h] <;> omega)) (sub_c rfl (sub_c rfl (sub_c rfl (sub_c rfl (sub_c rfl sub_n)))))), rfl⟩
    · try simp only [decide_eq_false_iff_not] at hc7
      refine .region ?_
      refine .p rfl (pure_eql (tm rfl) ev_int) ?_
      refine .as rfl rfl ?_
      refine .nil ?_
      exact ⟨rfl, (sub_e rfl (by congr 1; symm; first | (exact decide_eq_true (by omega)) | (by_cases h : kindN x ≤ 1 <;> simp [h] <;> omega)) (sub_c rfl (sub_c rfl (sub_c rfl (sub_c rfl (sub_c rfl sub_n)))))), rfl⟩
  · refine AWP.sub [(7, _), (0, _), (2, _), (3, _), (4, _), (6, _)] (sub_c rfl (sub_c rfl (sub_c rfl (sub_c rfl (sub_c rfl (sub_c rfl sub_n)))))) ?_
    refine AWP.cond (tm rfl) (fun hc7 => ?_) (fun hc7 => ?_)
    · try simp only [decide_eq_true_eq] at hc7
      refine .sr ?_
      refine .mv rfl rfl ?_
      refine .cl rfl Tryz.call125 (evs1 rfl) (rIs_calls _ (by assumption) _) ?_
      refine .mv rfl rfl ?_
      refine .p rfl (pure_rem64 (tm rfl) (ev_nat 4503599627370496) (by omega)) ?_
      refine .as rfl rfl ?_
      refine .as rfl rfl ?_
      refine .p rfl (pure_assign ev_int) ?_
      refine .ng ?_
      refine .ret ?_
      refine Block.rt ?_
      refine Next.rt ?_
      refine Ret.go (.cons (.tmp _ _ rfl) (.cons (.tmp _ _ rfl) (.cons (.tmp _ _ rfl) .nil))) _ (Heap.le.refl _) ?_
      refine ⟨?_, rfl⟩
      simp only [packed, partM, partE]
      rw [if_pos (by omega), if_pos (by omega)] <;> rfl
    · try simp only [decide_eq_false_iff_not] at hc7
      refine .sr ?_
      refine .p rfl (pure_eql (tm rfl) ev_int) ?_
      refine .as rfl rfl ?_
      refine .ng ?_
      refine AWP.cond (tm rfl) (fun hc14 => ?_) (fun hc14 => ?_)
      · try simp only [decide_eq_true_eq] at hc14
        refine .sr ?_
        refine .mv rfl rfl ?_
        refine .cl rfl Tryz.call125 (evs1 rfl) (rIs_calls _ (by assumption) _) ?_
        refine .mv rfl rfl ?_
        refine .p rfl (pure_rem64 (tm rfl) (ev_nat 4503599627370496) (by omega)) ?_
        refine .p rfl (pure_addX64 (ev_nat 4503599627370496) (tm rfl) (by omega)) ?_
        refine .mv rfl rfl ?_
        refine .p rfl (pure_shr64 (tm rfl) (ev_nat 52) (by assumption)) ?_
        refine .p rfl (pure_rem64 (tm rfl) (ev_nat 2048) (by omega)) ?_
        refine .p rfl (pure_convX Tryz.underlying30 Tryz.underlying3 (tm rfl) (wrapNI64 (by omega))) ?_
        refine .p rfl (pure_sub (tm rfl) ev_int (by omega)) ?_
        refine .as rfl rfl ?_
        refine .as rfl rfl ?_
        refine .as rfl rfl ?_
        refine .ng ?_
        refine .ret ?_
        refine Block.rt ?_
        refine Next.rt ?_
        refine Ret.go (.cons (.tmp _ _ rfl) (.cons (.tmp _ _ rfl) (.cons (.tmp _ _ rfl) .nil))) _ (Heap.le.refl _) ?_
        refine ⟨?_, rfl⟩
        simp only [packed, partM, partE]
        rw [if_neg (by omega), if_pos (by omega), if_neg (by omega), if_pos (by omega), hp] <;> rfl
      · try simp only [decide_eq_false_iff_not] at hc14
        refine .skip ?_
        refine Block.go ?_
        refine Next.go ?_
        refine .sr ?_
        refine .mv rfl rfl ?_
        refine .cl rfl Tryz.call125 (evs1 rfl) (rIs_calls _ (by assumption) _) ?_
        refine .as rfl rfl ?_
        refine .p rfl (pure_assign (ev_nat 0)) ?_
        refine .p rfl (pure_assign ev_int) ?_
        refine .ng ?_
        refine .ret ?_
        refine Ret.go (.cons (.tmp _ _ rfl) (.cons (.tmp _ _ rfl) (.cons (.tmp _ _ rfl) .nil))) _ (Heap.le.refl _) ?_
        refine ⟨?_, rfl⟩
        simp only [packed, partM, partE]
        rw [if_neg (by omega), if_neg (by omega), if_neg (by omega), if_neg (by omega)] <;> rfl

end Go.Proofs.YtfkeflcdadlmdaaGreatDoor
