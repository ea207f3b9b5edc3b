import Derived.Test.YtmmgbnolccpjoaaGreatDoorYd
import Derived.Test.YtmmgbnolccpjoaaGreatDoorN2
import Derived.Test.YtmmgbnolccpjoaaGreatDoorLsk
import Derived.Shelf.Strings.SlTrimAscii
import Derived.Test.YtmmgbnolccpjoaaGreatDoorSsk
namespace Go.Proofs.YtmmgbnolccpjoaaGreatDoor
open Go Go.RowKit Go.Shelf

theorem relvs1 {g : G} {x : AV} {vs : List Value} (h : RelVs g [x] vs) : ∃ v, vs = [v] ∧ RelV g x v := by
 obtain ⟨hl, hr⟩ := h
 match vs, hl with
 | [v], _ => exact ⟨v, rfl, hr 0 _ _ rfl rfl⟩
theorem relvs2 {g : G} {x y : AV} {vs : List Value} (h : RelVs g [x, y] vs) : ∃ v u, vs = [v, u] ∧ RelV g x v ∧ RelV g y u := by
 obtain ⟨hl, hr⟩ := h
 match vs, hl with
 | [v, u], _ => exact ⟨v, u, rfl, hr 0 _ _ rfl rfl, hr 1 _ _ rfl rfl⟩
theorem relvs3 {g : G} {x y z : AV} {vs : List Value} (h : RelVs g [x, y, z] vs) : ∃ v u t, vs = [v, u, t] ∧ RelV g x v ∧ RelV g y u ∧ RelV g z t := by
 obtain ⟨hl, hr⟩ := h
 match vs, hl with
 | [v, u, t], _ => exact ⟨v, u, t, rfl, hr 0 _ _ rfl rfl, hr 1 _ _ rfl rfl, hr 2 _ _ rfl rfl⟩
theorem ACall.lib {P : Program} {f : FuncId} {xs : List AV} {H : Heap} (y : AV) (h : ∀ g vs w, RelVs g xs vs → Sat g H w → Calls P f vs.toArray w (fun e w' => ∃ v, e = .returned v ∧ RelV g y v ∧ Below w.heap.size w w')) : ACall P f xs H (fun z H' => z = y ∧ H' = H) :=
 fun g vs w k s => (h g vs w k s).mono fun _ _ ⟨v, he, hr, hb⟩ => ⟨v, he, g, y, H, .id, hr, s.grow hb, rfl, rfl⟩
theorem bbU (B : Nat) (w : World) (n : Nat) (os : Array Obj) (h : B ≤ w.heap.size) : Below B w (Sort.grow (w.drewN n) os) :=
 ⟨rfl, rfl, rfl, by simp [Sort.grow, World.drewN], fun k hk => by simp [Sort.grow, World.drewN, Array.getElem?_append, Nat.lt_of_lt_of_le hk h]⟩
theorem awH (B : Nat) (w : World) (n : Nat) : Below B w (w.drewN n) := ⟨rfl, rfl, rfl, Nat.le_refl _, fun _ _ => rfl⟩
theorem Sat.tab {g : G} {H : Heap} {w : World} (s : Sat g H w) : Lib.TabIs Tryz.prog w "internal/strconv.uint64pow10" .u64 Lib.pow10Tab := by
 obtain ⟨t, f, h⟩ := g.hinv.tab
 have hlt : 7 < g.base.heap.size := (Array.getElem?_eq_some_iff.1 h).1
 have h2 : w.heap[7]? = some (.cells (Lib.pow10Tab.map fun z => Value.int .u64 z).toArray t f) := (s.below.block 7 hlt).trans h
 have hn : Tryz.prog.globalNamed "internal/strconv.uint64pow10" = some 7 := by kernel_rfl
 unfold Lib.TabIs World.var?
 rw [hn, Option.bind_some, h2]
theorem Sat.maxCell {g : G} {H : Heap} {w : World} (s : Sat g H w) : ∃ m, w.cell? ⟨2, 0, none⟩ = some (.int .i64 m) := by
 obtain ⟨m, hm⟩ := g.hinv.max
 have hlt := World.block_lt_of_cell? _ (a := ⟨2, 0, none⟩) hm
 exact ⟨m, by rw [World.cell?_of_block (w := g.base) (s.below.block 2 hlt)]; exact hm⟩
theorem itoaA (n : Nat) (hn : n ≤ 9223372036854775807) (H : Heap) : ACall Tryz.prog 109 [.int .i64 (n : Int)] H (fun y H' => y = .str (dec n) ∧ H' = H) := by
 refine ACall.lib _ fun g vs w k s => ?_
 obtain ⟨v, rfl, hv⟩ := relvs1 k
 cases hv
 refine (Tryz.strconv_Itoa (n : Int) (by omega) (by omega) w s.tab).mono ?_
 rintro e w' ⟨rfl, q, os, rfl⟩
 refine ⟨_, rfl, ?_, bbU _ _ _ _ (Nat.le_refl _)⟩
 rw [itoa_nat]
 refine .str _ ?_
 have : (dec n).length ≤ 20 := (aiM (by decide)).2 (Nat.lt_of_le_of_lt hn (by decide))
 rw [zN]; omega
theorem akU (c : UInt8) : ∀ n, Lib.repeatL [c] n = List.replicate n c
 | 0 => rfl
 | n + 1 => by rw [Lib.repeatL, akU c n, List.replicate_succ]; rfl
theorem repeatA (c : UInt8) (n : Nat) (hn : n ≤ 100000000) (H : Heap) : ACall Tryz.prog 232 [.str [c], .int .i64 (n : Int)] H (fun y H' => y = .str (List.replicate n c) ∧ H' = H) := by
 refine ACall.lib _ fun g vs w k s => ?_
 obtain ⟨v, u, rfl, hv, hu⟩ := relvs2 k
 cases hv; cases hu
 have hl : (List.replicate n c).length ≤ maxLen := by rw [List.length_replicate, zN]; omega
 rcases Nat.lt_or_ge n 2 with h | h
 ·rcases (by omega : n = 0 ∨ n = 1) with rfl | rfl
  ·refine (Tryz.strings_Repeat_zero ⟨[c].toArray⟩ w).mono ?_
   rintro e w' ⟨rfl, rfl⟩
   exact ⟨_, rfl, .str [] (by simp), Below.refl _ _⟩
  ·refine (Tryz.strings_Repeat_one ⟨[c].toArray⟩ w).mono ?_
   rintro e w' ⟨rfl, rfl⟩
   exact ⟨_, rfl, .str [c] hl, Below.refl _ _⟩
 ·refine (Tryz.strings_Repeat_main ⟨[c].toArray⟩ n w h (by omega) (by show 1 * n ≤ _; omega) (by show 0 < 1; omega)).mono ?_
  rintro e w' ⟨rfl, hb⟩
  refine ⟨_, rfl, ?_, hb⟩
  have e : Lib.repeatL (⟨#[c]⟩ : ByteArray).data.toList n = List.replicate n c := akU c n
  rw [e]
  exact .str _ hl
theorem repeatZ (c : UInt8) (q : Int) (n : Nat) (hq : q = (n : Int)) (hn : n ≤ 100000000) (H : Heap) : ACall Tryz.prog 232 [.str [c], .int .i64 q] H (fun y H' => y = .str (List.replicate n c) ∧ H' = H) := by
 subst hq; exact repeatA c n hn H
theorem trimLeftA (c : UInt8) (hc : c.toNat < 128) (s : List UInt8) (H : Heap) : ACall Tryz.prog 163 [.str s, .str [c]] H (fun y H' => y = .str (s.dropWhile (· == c)) ∧ H' = H) := by
 refine ACall.lib _ fun g vs w k st => ?_
 obtain ⟨v, u, rfl, hv, hu⟩ := relvs2 k
 cases hv with | str _ hs => ?_
 cases hu
 refine (Tryz.strings_TrimLeft_one ⟨s.toArray⟩ c hc w).mono ?_
 rintro e w' ⟨rfl, rfl⟩
 exact ⟨_, rfl, .str _ (Nat.le_trans (List.dropWhile_sublist _).length_le hs), Below.refl _ _⟩
theorem trimRightA (c : UInt8) (hc : c.toNat < 128) (s : List UInt8) (H : Heap) : ACall Tryz.prog 164 [.str s, .str [c]] H (fun y H' => y = .str (Lib.trimRightB s c) ∧ H' = H) := by
 refine ACall.lib _ fun g vs w k st => ?_
 obtain ⟨v, u, rfl, hv, hu⟩ := relvs2 k
 cases hv with | str _ hs => ?_
 cases hu
 refine (Tryz.strings_TrimRight_one ⟨s.toArray⟩ c hc w (by show s.toArray.size ≤ _; rw [zN] at hs; simpa using hs)).mono ?_
 rintro e w' ⟨rfl, rfl⟩
 refine ⟨_, rfl, .str _ (Nat.le_trans ?_ hs), Below.refl _ _⟩
 show (s.reverse.dropWhile (· == c)).reverse.length ≤ s.length
 rw [List.length_reverse]
 have := (List.dropWhile_sublist (l := s.reverse) (· == c)).length_le
 rwa [List.length_reverse] at this
theorem trimSetA (cs : List UInt8) (hc : ∀ b, b ∈ cs → b.toNat < 128) (hcl : cs.length < 1000) (s : List UInt8) (H : Heap) : ACall Tryz.prog 259 [.str s, .str cs] H (fun y H' => y = .str (Lib.trimS s cs) ∧ H' = H) := by
 refine ACall.lib _ fun g vs w k st => ?_
 obtain ⟨v, u, rfl, hv, hu⟩ := relvs2 k
 cases hv with | str _ hs => ?_
 cases hu
 refine (Any.strings_Trim_laid Tryz.lays160 (by kernel_rfl) ⟨s.toArray⟩ ⟨cs.toArray⟩ w (by show s.toArray.size ≤ _; rw [zN] at hs; simpa using hs) (by show cs.toArray.size < _; rw [List.size_toArray]; omega) (fun j b h => hc b (List.mem_of_getElem? (by simpa using h)))).mono ?_
 rintro e w' ⟨rfl, hb⟩
 refine ⟨_, rfl, .str _ (Nat.le_trans ?_ hs), hb⟩
 show ((s.reverse.dropWhile (cs.contains ·)).reverse.dropWhile (cs.contains ·)).length ≤ s.length
 have h1 := (List.dropWhile_sublist (l := (s.reverse.dropWhile (cs.contains ·)).reverse) (cs.contains ·)).length_le
 have h2 := (List.dropWhile_sublist (l := s.reverse) (cs.contains ·)).length_le
 rw [List.length_reverse] at h1 h2
 omega
theorem hasSuffixA (s p : List UInt8) (H : Heap) : ACall Tryz.prog 222 [.str s, .str p] H (fun y H' => y = .bool (Lib.hasSuffix s p) ∧ H' = H) := by
 refine ACall.lib _ fun g vs w k st => ?_
 obtain ⟨v, u, rfl, hv, hu⟩ := relvs2 k
 cases hv with | str _ hs => ?_
 cases hu
 refine (Tryz.strings_HasSuffix ⟨s.toArray⟩ ⟨p.toArray⟩ w (by show s.toArray.size ≤ _; rw [zN] at hs; simpa using hs)).mono ?_
 rintro e w' ⟨rfl, rfl⟩
 exact ⟨_, rfl, .bool _, Below.refl _ _⟩
theorem compareA (s p : List UInt8) (H : Heap) : ACall Tryz.prog 113 [.str s, .str p] H (fun y H' => y = .int .i64 (Lib.compareBytes s p) ∧ H' = H) := by
 refine ACall.lib _ fun g vs w k st => ?_
 obtain ⟨v, u, rfl, hv, hu⟩ := relvs2 k
 cases hv; cases hu
 refine (Tryz.strings_Compare ⟨s.toArray⟩ ⟨p.toArray⟩ w).mono ?_
 rintro e w' ⟨rfl, rfl⟩
 exact ⟨_, rfl, .int _ _, Below.refl _ _⟩
section
open Go Go.RowKit

theorem dig_step {a v : Nat} {s : List UInt8} (hv : 0 < v) (h : dec a = if v = 0 then s else dec v ++ s) :
  dec a = if v / 1000000000 = 0 then (if v / 1000000000 = 0 then dec (v % 1000000000) else List.replicate (9 - (dec (v % 1000000000)).length) 48 ++ dec (v % 1000000000)) ++ s
   else dec (v / 1000000000) ++ ((if v / 1000000000 = 0 then dec (v % 1000000000) else List.replicate (9 - (dec (v % 1000000000)).length) 48 ++ dec (v % 1000000000)) ++ s) := by
 rw [if_neg (by omega)] at h
 by_cases h0 : v / 1000000000 = 0
 ·rw [if_pos h0, if_pos h0, h, show v % 1000000000 = v by omega]
 ·rw [if_neg h0, if_neg h0, h, ← List.append_assoc, ← dec_nine (by omega)]
theorem dig_len {a v : Nat} {s : List UInt8} (h : dec a = if v = 0 then s else dec v ++ s) : s.length ≤ (dec a).length := by
 rw [h]; split
 ·exact Nat.le_refl _
 ·rw [List.length_append]; omega
theorem azI {xs : List Nat} : yL xs = 0 ↔ val xs = 0 := ⟨qL, qO⟩
theorem part_len {v : Nat} (h : (dec (v % 1000000000)).length ≤ 9) : (if v / 1000000000 = 0 then dec (v % 1000000000) else List.replicate (9 - (dec (v % 1000000000)).length) 48 ++ dec (v % 1000000000)).length ≤ 9 := by
 split
 ·exact h
 ·rw [List.length_append, List.length_replicate]; omega
theorem apU {zs ws : List Nat} {m : Nat} (h : ws.length = m) : (mid zs 0 ws).take m = ws := by
 have := asJ (zs := zs) (o := 0) h (Nat.zero_le _)
 rwa [List.drop_zero] at this
theorem auU (ws : List Nat) : yL (ws.take (yL ws)) = yL ws ∧ val (ws.take (yL ws)) = val ws := by
 induction ws with
 | nil => exact ⟨rfl, rfl⟩
 | cons x xs ih =>
  by_cases h : yL xs = 0 ∧ x = 0
  ·rw [yL, if_pos h, List.take_zero]
   exact ⟨rfl, by rw [val, val, qL h.1, h.2]⟩
  ·rw [yL, if_neg h, List.take_succ_cons, yL, ih.1, if_neg h, val, val, ih.2]
   exact ⟨rfl, rfl⟩

def dig_J (a n b7 : Nat) (H : Heap) : Nat → Env → Heap → Prop := fun k env H1 => ∃ (m : Nat) (zs : List Nat) (s : List UInt8), m ≤ n ∧ zs.length = n ∧ Limbs zs ∧ yL (zs.take m) = m ∧ dec a = (if val (zs.take m) = 0 then s else dec (val (zs.take m)) ++ s) ∧ env = [(3, .mslice (some ⟨b7, 0, none⟩) m n), (4, .str s)] ∧ H1 = H.set b7 (.box 166 (U .u32 zs)) ∧ k = val (zs.take m)

set_option maxRecDepth 100000 in
theorem atR (a : Nat) (hx : a < BIG) (H : Heap) : ACall Tryz.prog 277 [aaP a] H (fun y H' => y = .str (dec a) ∧ H' = H) := by
 have ha256 := aaC hx
 have hdl := bgR hx
 refine ACall.of_body Tryz.func277 rfl Tryz.ntmps277 Tryz.results277 rfl ?_
 refine AX ?_
 -- region 0
 refine AX ?_
 refine AList.p rfl (zD (zM rfl)) ?_
 refine AList.nil ?_
 iterate 2 refine AX ?_
 -- region 1
 refine AX ?_
 refine AList.p rfl (zT (.tmp _ _ rfl)) ?_
 refine AList.s rfl (zC Tryz.call278 (.cons (.tmp _ _ rfl) .nil) (ayL _ _ (zK _) (by omega) _)) ?_
 rintro _ _ ⟨b7, hb7, rfl, hH⟩
 obtain rfl := hH.symm
 rw [zR]
 refine AList.p rfl (zD (.tmp _ _ rfl)) ?_
 refine AList.nil ?_
 iterate 3 refine AX ?_
 -- region 2
 refine AX ?_
 refine AList.p rfl (zT (.tmp _ _ rfl)) ?_
 first | (refine AList.p rfl (afB Tryz.underlying239 (.tmp _ _ rfl)) ?_) | (refine AList.p rfl (afC Tryz.underlying239 (.tmp _ _ rfl)) ?_) | (refine AList.p rfl (adZ Tryz.underlying239 (.tmp _ _ rfl)) ?_)
 refine AList.p rfl (qH (.tmp _ _ rfl) (zE 0)) ?_
 refine AList.nil ?_
 refine AX ?_
 -- c0
 refine AWP.cond (.tmp _ _ rfl) (fun hc10 => ?_) (fun hc10 => ?_)
 ·try simp only [decide_eq_true_eq] at hc10
  refine AX ?_
  refine AWP.frzU (t := 3) rfl hb7 (Nat.le_refl _) (Nat.le_refl _) (by simp only [zN]; omega) ?_
  -- region 3
  refine AX ?_
  refine AList.p rfl (zD (zM rfl)) ?_
  refine AList.nil ?_
  iterate 3 refine AX ?_
  -- ret 0
  refine Ret.go (.cons (.tmp _ _ rfl) .nil) _ (Heap.le.refl _) ?_
  refine ⟨?_, rfl⟩
  have ha0 : a = 0 := by
   have h0 := zR a
   rw [List.length_eq_zero_iff.1 (by omega : (zF a).length = 0)] at h0; exact h0.symm
  rw [ha0]; rfl
 ·try simp only [decide_eq_false_iff_not] at hc10
  have ha0 : a ≠ 0 := by rintro rfl; simp [qV] at hc10
  iterate 3 refine AX ?_
  -- region 4
  refine AX ?_
  refine AList.p rfl (zD (zM rfl)) ?_
  refine AList.nil ?_
  iterate 3 refine AX ?_
  -- L0
  refine AWP.loopW (dig_J a (zF a).length b7 H) (a) ⟨(zF a).length, zF a, [], Nat.le_refl _, rfl, zK a, by rw [List.take_length, aeR], by rw [List.take_length, zR, if_neg ha0, List.append_nil], rfl, rfl, by rw [List.take_length, zR]⟩ sX (Heap.le.refl _) ?_
  rintro _ _ _ ⟨m, zs, s, hm, hzl, hzL, hrm, hdec, rfl, rfl, hk⟩
  have hsl := dig_len hdec
  iterate 2 refine AX ?_
  -- region 5
  refine AX ?_
  refine AList.p rfl (zT (.tmp _ _ rfl)) ?_
  first | (refine AList.p rfl (afB Tryz.underlying239 (.tmp _ _ rfl)) ?_) | (refine AList.p rfl (afC Tryz.underlying239 (.tmp _ _ rfl)) ?_) | (refine AList.p rfl (adZ Tryz.underlying239 (.tmp _ _ rfl)) ?_)
  refine AList.p rfl (yQ (.tmp _ _ rfl) (zE 0)) ?_
  refine AList.nil ?_
  refine AX ?_
  -- c1
  refine AWP.cond (.tmp _ _ rfl) (fun hc13 => ?_) (fun hc13 => ?_)
  ·try simp only [decide_eq_true_eq] at hc13
   have hpos : 0 < val (zs.take m) := Nat.pos_of_ne_zero (fun h => by have := qO h; omega)
   iterate 4 refine AX ?_
   -- region 6
   refine AX ?_
   refine AList.p rfl (zT (.tmp _ _ rfl)) ?_
   refine AList.s rfl (zC Tryz.call317 (.cons (.tmp _ _ rfl) (.cons (zE 1000000000) .nil)) (akM b7 0 m (zF a).length 1000000000 (by decide) (by decide) zs hzL (by omega) (by omega) _ (Heap.objs_set_same _ _ _))) ?_
   rintro _ _ ⟨rfl, ws, hwl, hwL, hwv, hH⟩
   obtain rfl := hH.symm
   rw [Heap.set_set]
   rw [List.drop_zero] at *
   generalize hv : val (zs.take m) = v at *
   have hvm := Nat.mod_lt v (by decide : 0 < 1000000000)
   have hpl := (aiM (n := v % 1000000000) (k := 9) (by decide)).2 hvm
   have hrw := azI (xs := ws)
   have hrl := aaF ws
   obtain ⟨hrr, hrv⟩ := auU ws
   rw [hwv] at hrw hrv
   have hpt := part_len hpl
   have hrp : (List.replicate (9 - (dec (v % 1000000000)).length) (48 : UInt8)).length = 9 - (dec (v % 1000000000)).length := List.length_replicate
   refine AList.p rfl (qP Tryz.underlying166 Tryz.underlying3 (.tmp _ _ rfl) (wrapNI64 (by first | assumption | omega))) ?_
   refine AList.s rfl (zC Tryz.call109 (.cons (.tmp _ _ rfl) .nil) (itoaA _ (by omega) _)) ?_
   rintro _ _ ⟨rfl, hH⟩
   obtain rfl := hH.symm
   refine AList.p rfl (zD (.tmp _ _ rfl)) ?_
   refine AList.nil ?_
   refine AX ?_
   refine AWP.seqToL [(3, .mslice (some ⟨b7, 0, none⟩) (yL ws) (zF a).length), (5, .str (if v / 1000000000 = 0 then dec (v % 1000000000) else List.replicate (9 - (dec (v % 1000000000)).length) 48 ++ dec (v % 1000000000)))] [4] ?_ ?_
   ·refine AX ?_
    -- region 7
    refine AX ?_
    refine AList.p rfl (zT (.tmp _ _ rfl)) ?_
    refine AList.s rfl (zC Tryz.call311 (.cons (.tmp _ _ rfl) .nil) (bbK b7 m (zF a).length (mid zs 0 ws) (acG hzL hwL) (by rw [acZ hwl (by omega)]; omega) (by omega) hm _ (Heap.objs_set_same _ _ _))) ?_
    rintro _ _ ⟨rfl, hH⟩
    obtain rfl := hH.symm
    rw [apU hwl]
    refine AList.p rfl (zD (.tmp _ _ rfl)) ?_
    refine AList.nil ?_
    iterate 2 refine AX ?_
    -- region 8
    refine AX ?_
    refine AList.p rfl (zT (.tmp _ _ rfl)) ?_
    first | (refine AList.p rfl (afB Tryz.underlying239 (.tmp _ _ rfl)) ?_) | (refine AList.p rfl (afC Tryz.underlying239 (.tmp _ _ rfl)) ?_) | (refine AList.p rfl (adZ Tryz.underlying239 (.tmp _ _ rfl)) ?_)
    refine AList.p rfl (yQ (.tmp _ _ rfl) (zE 0)) ?_
    refine AList.nil ?_
    refine AX ?_
    -- c2
    refine AWP.cond (.tmp _ _ rfl) (fun hc22 => ?_) (fun hc22 => ?_)
    ·try simp only [decide_eq_true_eq] at hc22
     -- region 9
     refine AX ?_
     refine AList.p rfl (zT (.tmp _ _ rfl)) ?_
     refine AList.p rfl (alB Tryz.underlying9 (.tmp _ _ rfl)) ?_
     refine AList.p rfl (adM (zE 9) (.tmp _ _ rfl) (by omega)) ?_
     refine AList.s rfl (zC Tryz.call232 (.cons (zM rfl) (.cons (.tmp _ _ rfl) .nil)) (repeatZ 48 _ (9 - (dec (v % 1000000000)).length) (by omega) (by omega) _)) ?_
     rintro _ _ ⟨rfl, hH⟩
     obtain rfl := hH.symm
     refine AList.p rfl (zT (.tmp _ _ rfl)) ?_
     refine AList.p rfl (yD (.tmp _ _ rfl) (.tmp _ _ rfl) (by simp only [zN] at *; omega)) ?_
     refine AList.p rfl (zD (.tmp _ _ rfl)) ?_
     refine AList.nil ?_
     exact ⟨rfl, (zZ rfl (by first | rfl | (rw [if_neg (by omega)]) | (rw [if_pos (by omega)])) (zZ rfl (by first | rfl | (rw [if_neg (by omega)]) | (rw [if_pos (by omega)])) (zP rfl qM))), rfl⟩
    ·try simp only [decide_eq_false_iff_not, Int.not_lt] at hc22
     refine AX ?_
     exact ⟨rfl, (zZ rfl (by first | rfl | (rw [if_neg (by omega)]) | (rw [if_pos (by omega)])) (zZ rfl (by first | rfl | (rw [if_neg (by omega)]) | (rw [if_pos (by omega)])) (zP rfl qM))), rfl⟩
   ·refine AWP.sub [(3, _), (5, _), (4, _)] sX ?_
    -- region 10
    refine AX ?_
    refine AList.p rfl (zT (.tmp _ _ rfl)) ?_
    refine AList.p rfl (zT (.tmp _ _ rfl)) ?_
    refine AList.p rfl (yD (.tmp _ _ rfl) (.tmp _ _ rfl) (by simp only [zN] at *; omega)) ?_
    refine AList.p rfl (zD (.tmp _ _ rfl)) ?_
    refine AList.nil ?_
    iterate 2 refine AX ?_
    have htt : (mid zs 0 ws).take (yL ws) = ws.take (yL ws) := by rw [← apU (zs := zs) hwl, List.take_take, apU hwl, Nat.min_eq_left (by omega)]
    refine Round.mk (J := dig_J a (zF a).length b7 H) ⟨yL ws, mid zs 0 ws, _, by omega, (acZ hwl (by omega)).trans hzl, acG hzL hwL, by rw [htt]; exact hrr, by rw [htt, hrv]; exact dig_step hpos hdec, rfl, rfl, by rw [htt, hrv]⟩ sX (Heap.le.refl _) (by omega)
  ·try simp only [decide_eq_false_iff_not, Int.not_lt] at hc13
   iterate 6 refine AX ?_
   refine AWP.frzU (t := 3) rfl hb7 (by omega) hm (by simp only [zN]; omega) ?_
   -- region 11
   refine AX ?_
   refine AList.p rfl (zT (.tmp _ _ rfl)) ?_
   refine AList.p rfl (zD (.tmp _ _ rfl)) ?_
   refine AList.nil ?_
   iterate 2 refine AX ?_
   -- ret 1
   refine Ret.go (.cons (.tmp _ _ rfl) .nil) _ (Heap.le.refl _) ?_
   refine ⟨?_, rfl⟩
   have hm0 : m = 0 := by omega
   rw [hm0, List.take_zero] at hdec
   rw [show dec a = s from hdec.trans (if_pos rfl)]; rfl

end
def isD (b : UInt8) : Prop := 48 ≤ b.toNat ∧ b.toNat ≤ 57
def Digs (l : List UInt8) : Prop := ∀ b, b ∈ l → isD b
def atT (acc : Nat) (l : List UInt8) : Nat := l.foldl (fun a c => a * 10 + (c.toNat - 48)) acc
theorem apS (acc : Nat) : atT acc [] = acc := rfl
theorem acE (acc : Nat) (c : UInt8) (r : List UInt8) : atT acc (c :: r) = atT (acc * 10 + (c.toNat - 48)) r := by unfold atT; rw [List.foldl_cons]
def num (l : List UInt8) : Nat := atT 0 l
theorem alL : ∀ (l : List UInt8) (acc : Nat), atT acc l = acc * 10 ^ l.length + num l
 | [], acc => by rw [num, apS, apS]; simp
 | c :: r, acc => by
  rw [num, acE, acE, alL r (acc * 10 + (c.toNat - 48)), alL r (0 * 10 + (c.toNat - 48)), List.length_cons, Nat.pow_succ, Nat.add_mul, Nat.zero_mul, Nat.zero_add, Nat.mul_assoc, Nat.mul_comm 10]
  omega
theorem baC (a b : List UInt8) : num (a ++ b) = num a * 10 ^ b.length + num b := by
 have h : ∀ (a : List UInt8) (acc : Nat), atT acc (a ++ b) = atT (atT acc a) b := by
  intro a
  induction a with
  | nil => intro acc; rfl
  | cons c r ih => intro acc; rw [List.cons_append, acE, acE, ih]
 rw [num, h, alL]; rfl
theorem axM (c : UInt8) (r : List UInt8) : num (c :: r) = (c.toNat - 48) * 10 ^ r.length + num r := by
 rw [num, acE, alL, Nat.zero_mul, Nat.zero_add]
theorem agA : ∀ {l : List UInt8}, Digs l → num l < 10 ^ l.length
 | [], _ => by rw [num, apS]; simp
 | c :: r, h => by
  have h1 := agA (l := r) fun b hb => h b (by simp [hb])
  have h2 := h c (by simp)
  rw [axM, List.length_cons, Nat.pow_succ]
  have h3 : (c.toNat - 48) * 10 ^ r.length ≤ 9 * 10 ^ r.length := Nat.mul_le_mul_right _ (by have := h2.2; omega)
  omega
theorem beS (acc : Nat) (l : List UInt8) : acc ≤ atT acc l := by
 rw [alL]
 have : acc * 1 ≤ acc * 10 ^ l.length := Nat.mul_le_mul_left _ (Nat.pow_pos (by decide))
 omega
theorem anX : ∀ (l : List UInt8) (acc : Nat), Digs l → atT acc l < 18446744073709551616 → Lib.parseUint10 acc l = .ok (atT acc l)
 | [], acc, _, _ => rfl
 | c :: r, acc, h, hl => by
  rw [acE] at hl ⊢
  have h1 := beS (acc * 10 + (c.toNat - 48)) r
  have h2 := h c (by simp)
  unfold Lib.parseUint10
  rw [if_pos (show 48 ≤ c.toNat ∧ c.toNat ≤ 57 from h2), if_neg (by omega), if_neg (by omega)]
  exact anX r _ (fun b hb => h b (by simp [hb])) hl
theorem Digs.take {l : List UInt8} (h : Digs l) (n : Nat) : Digs (l.take n) := fun b hb => h b (List.mem_of_mem_take hb)
theorem Digs.drop {l : List UInt8} (h : Digs l) (n : Nat) : Digs (l.drop n) := fun b hb => h b (List.mem_of_mem_drop hb)
theorem Digs.dropWhile {l : List UInt8} (h : Digs l) (q : UInt8 → Bool) : Digs (l.dropWhile q) := fun b hb => h b ((List.dropWhile_sublist q).subset hb)
theorem awJ {l : List UInt8} (hne : l ≠ []) (h : Digs l) (hl : l.length ≤ 18) : Lib.atoiAll l = .ok (num l : Int) := by
 have h1 := agA h
 have h2 : 10 ^ l.length ≤ 10 ^ 18 := Nat.pow_le_pow_right (by decide) hl
 have h3 := anX l 0 h (by rw [show atT 0 l = num l from rfl]; omega)
 cases l with
 | nil => exact absurd rfl hne
 | cons c r =>
  have h4 := h c (by simp)
  have h4a := h4.1
  unfold Lib.atoiAll
  simp only []
  rw [if_neg (by omega)]
  unfold Lib.parseMag
  rw [if_neg (by simp), h3]
  simp only []
  rw [if_neg (by rintro ⟨_, hb⟩; rw [show atT 0 (c :: r) = num (c :: r) from rfl] at hb; omega), if_neg (by rintro ⟨hb, _⟩; omega), if_neg (by omega)]
  rfl
theorem atoiA (s : List UInt8) (hne : s ≠ []) (h : Digs s) (hl : s.length ≤ 18) (H : Heap) : ACall Tryz.prog 257 [.str s] H (fun y H' => y = .tuple [.int .i64 (num s : Int), .nilIface] ∧ H' = H) := by
 refine ACall.lib _ fun g vs w k st => ?_
 obtain ⟨v, rfl, hv⟩ := relvs1 k
 cases hv
 refine (Tryz.strconv_Atoi_ok ⟨s.toArray⟩ (by show s.toArray.size ≤ _; rw [List.size_toArray]; omega) _ (awJ hne h hl) w).mono ?_
 rintro e w' ⟨rfl, hw⟩
 refine ⟨_, rfl, .tuple _ _ rfl (fun i c v hc hv => ?_), ?_⟩
 ·match i with
  | 0 => cases hc; cases hv; exact .int _ _
  | 1 => cases hc; cases hv; exact .nilIface
  | i + 2 => simp at hc
 ·rcases hw with rfl | ⟨t, rfl⟩
  ·exact Below.refl _ _
  ·exact Lib.bytesWorld_below _ _ _
theorem ayF (n : Nat) : Digs (dec n) := by
 have hd : ∀ m, m < 10 → isD (dgt m) := fun m hm => by
  unfold isD dgt
  rw [UInt8.toNat_ofNat']
  omega
 induction n using Nat.strongRecOn with
 | ind n ih =>
  rcases Nat.lt_or_ge n 10 with h | h
  ·rw [atD h]; intro b hb; rw [List.mem_singleton.1 hb]; exact hd n h
  ·rw [aoN h]
   intro b hb
   rcases List.mem_append.1 hb with hb | hb
   ·exact ih _ (by omega) b hb
   ·rw [List.mem_singleton.1 hb]; exact hd _ (Nat.mod_lt _ (by decide))
def dA (neg : Bool) (ds : List UInt8) (e : Int) : AV := .agg [.bool neg, .str ds, .int .i64 e]
def bgO (ds : List UInt8) : Bool := ds.all fun b => decide (48 ≤ b.toNat) && decide (b.toNat ≤ 57)
theorem adP {ds : List UInt8} : bgO ds = true ↔ Digs ds := by
 unfold bgO Digs isD
 simp [List.all_eq_true]
def qJ (ds : List UInt8) (e : Int) : Bool :=
 if ds = [] then decide (e = 0) else
 decide (ds.length ≤ 1100) && decide (-100000 ≤ e) && decide (e ≤ 100000) && bgO ds && !decide ((ds.getD 0 0) = 48) && !decide ((ds.getD (ds.length - 1) 0) = 48)
def avQ (ds : List UInt8) : List UInt8 := ds.dropWhile (· == 48)
def acO (ds : List UInt8) : List UInt8 := Lib.trimRightB (avQ ds) 48
def ajK (ds : List UInt8) : Nat := (avQ ds).length - (acO ds).length
def okD (ds : List UInt8) (e : Int) : Prop := (acO ds).length ≤ 1100 ∧ -100000 ≤ e + ajK ds ∧ e + ajK ds ≤ 100000
instance (ds : List UInt8) (e : Int) : Decidable (okD ds e) := inferInstanceAs (Decidable (_ ∧ _ ∧ _))
def mkN (neg : Bool) (ds : List UInt8) (e : Int) : (Bool × List UInt8 × Int) × Int :=
 if acO ds = [] then ((neg, [], 0), 0) else if okD ds e then ((neg, acO ds, e + ajK ds), 0) else ((false, [], 0), 2)
def dT (d : (Bool × List UInt8 × Int) × Int) : AV := .tuple [dA d.1.1 d.1.2.1 d.1.2.2, .int .i64 d.2]
theorem agF (l : List UInt8) (c : UInt8) : ∃ n, l = Lib.trimRightB l c ++ List.replicate n c := by
 unfold Lib.trimRightB
 have h : ∀ m : List UInt8, ∃ n, m = List.replicate n c ++ m.dropWhile (· == c) := by
  intro m
  induction m with
  | nil => exact ⟨0, rfl⟩
  | cons x m ih =>
   rw [List.dropWhile_cons]
   split
   ·rename_i hx
    obtain ⟨n, hn⟩ := ih
    have hx' : x = c := by simpa using hx
    refine ⟨n + 1, ?_⟩
    rw [List.replicate_succ, List.cons_append, ← hn, hx']
   ·exact ⟨0, rfl⟩
 obtain ⟨n, hn⟩ := h l.reverse
 refine ⟨n, ?_⟩
 have := congrArg List.reverse hn
 rw [List.reverse_reverse, List.reverse_append, List.reverse_replicate] at this
 exact this
theorem aeZ (l : List UInt8) (c : UInt8) : (Lib.trimRightB l c).length ≤ l.length := by
 obtain ⟨n, hn⟩ := agF l c
 have := congrArg List.length hn
 rw [List.length_append] at this
 omega
theorem amC (l : List UInt8) (c : UInt8) : (l.dropWhile (· == c)).length ≤ l.length := (List.dropWhile_sublist _).length_le
theorem anE {l : List UInt8} {c : UInt8} (h : Lib.trimRightB l c ≠ []) : (Lib.trimRightB l c).getD ((Lib.trimRightB l c).length - 1) 0 ≠ c := by
 unfold Lib.trimRightB at h ⊢
 have hh : l.reverse.dropWhile (· == c) ≠ [] := by simpa using h
 have h1 : ∀ m : List UInt8, m.dropWhile (· == c) ≠ [] → ∃ x r, m.dropWhile (· == c) = x :: r ∧ x ≠ c := by
  intro m
  induction m with
  | nil => intro h; exact absurd rfl h
  | cons x m ih =>
   intro h
   rw [List.dropWhile_cons] at h ⊢
   split
   ·rename_i hx; rw [if_pos hx] at h; exact ih h
   ·rename_i hx; exact ⟨x, m, rfl, by simpa using hx⟩
 obtain ⟨x, r, hx, hne⟩ := h1 _ hh
 rw [hx]
 simp
 exact hne
theorem bbF {l : List UInt8} {c : UInt8} (h : l.dropWhile (· == c) ≠ []) : (l.dropWhile (· == c)).getD 0 0 ≠ c := by
 induction l with
 | nil => exact absurd rfl h
 | cons x m ih =>
  rw [List.dropWhile_cons] at h ⊢
  split
  ·rename_i hx; rw [if_pos hx] at h; exact ih h
  ·rename_i hx; simpa using hx
theorem Digs.trimR {l : List UInt8} (h : Digs l) (c : UInt8) : Digs (Lib.trimRightB l c) := fun b hb => by
 obtain ⟨n, hn⟩ := agF l c
 exact h b (by rw [hn]; simp [hb])
theorem ayV {l : List UInt8} {c : UInt8} (h : Lib.trimRightB l c ≠ []) : (Lib.trimRightB l c).getD 0 0 = l.getD 0 0 := by
 obtain ⟨n, hn⟩ := agF l c
 cases ht : Lib.trimRightB l c with
 | nil => exact absurd ht h
 | cons x r => rw [ht] at hn; rw [hn]; rfl
theorem aiO {ds : List UInt8} (hd : Digs ds) (h : acO ds ≠ []) {e : Int} : qJ (acO ds) e = (decide ((acO ds).length ≤ 1100) && decide (-100000 ≤ e) && decide (e ≤ 100000)) := by
 unfold qJ
 rw [if_neg h]
 have h1 : bgO (acO ds) = true := adP.2 ((hd.dropWhile _).trimR _)
 have h2 : (acO ds).getD ((acO ds).length - 1) 0 ≠ 48 := anE h
 have h3 : (acO ds).getD 0 0 ≠ 48 := by
  unfold acO
  rw [ayV h]
  refine bbF fun h0 => h ?_
  unfold acO avQ
  rw [h0]; rfl
 rw [h1, decide_eq_false h2, decide_eq_false h3]
 simp
theorem ajT {neg : Bool} {ds : List UInt8} {e : Int} (hd : Digs ds) : qJ (mkN neg ds e).1.2.1 (mkN neg ds e).1.2.2 = true := by
 unfold mkN
 split
 ·rfl
 ·rename_i h
  split
  ·rename_i h2
   obtain ⟨h3, h4, h5⟩ := h2
   show qJ (acO ds) (e + ajK ds) = true
   rw [aiO hd h]
   simp [h3, h4, h5]
  ·rfl
theorem aaK {ds : List UInt8} {e : Int} (h : qJ ds e = true) : Digs ds := by
 unfold qJ at h
 split at h
 ·rename_i h0; rw [h0]; intro b hb; simp at hb
 ·simp only [Bool.and_eq_true] at h
  exact adP.1 h.1.1.2
theorem abK {ds : List UInt8} {e : Int} (h : qJ ds e = true) : ds.length ≤ 1100 ∧ -100000 ≤ e ∧ e ≤ 100000 := by
 unfold qJ at h
 split at h
 ·rename_i h0
  have : e = 0 := by simpa using h
  rw [h0, this]; simp
 ·simp only [Bool.and_eq_true, decide_eq_true_eq] at h
  exact ⟨h.1.1.1.1.1, h.1.1.1.1.2, h.1.1.1.2⟩
section
open Go Go.RowKit

def zY (x : Nat) : Nat :=
 if x / 4503599627370496 % 2048 = 2047 then (if x % 4503599627370496 = 0 then 3 else 4)
 else if x / 4503599627370496 % 2048 = 0 then (if x % 4503599627370496 = 0 then 0 else 1) else 2
def yS (x : Nat) : Nat := if zY x ≤ 1 then x % 4503599627370496 else if zY x = 2 then 4503599627370496 + x % 4503599627370496 else 0
def yM (x : Nat) : Int := if zY x ≤ 1 then -1074 else if zY x = 2 then ((x / 4503599627370496 % 2048 : Nat) : Int) - 1075 else 0
def ajD (x : Nat) : Bool := decide ((9223372036854775808 : Int) ≤ (x : Int))
theorem aqM (x : Nat) : x &&& 2047 = x % 2048 := Nat.and_two_pow_sub_one_eq_mod x 11
theorem ayJ (x : Nat) : x &&& 4503599627370495 = x % 4503599627370496 := Nat.and_two_pow_sub_one_eq_mod x 52
theorem or_one {f : Nat} (h : f < 4503599627370496) : 4503599627370496 ||| f = 4503599627370496 + f := by
 have := Nat.two_pow_add_eq_or_of_lt (i := 52) h 1
 simp at this
 omega
theorem abD (x : Nat) : yS x < 9007199254740992 := by
 unfold yS
 split
 ·omega
 ·split <;> omega
theorem qY (x : Nat) : -1075 ≤ yM x ∧ yM x ≤ 972 := by
 unfold yM
 split
 ·omega
 ·split <;> omega
theorem ahJ (x : Nat) : zY x ≤ 4 := by
 unfold zY
 split
 ·split <;> omega
 ·split
  ·split <;> omega
  ·omega
end
section
open Go Go.RowKit

set_option maxRecDepth 100000 in
theorem qC (x : Nat) (hx : x < 18446744073709551616) (H : Heap) : ACall Tryz.prog 89 [.int .u64 (x : Int)] H (fun y H' => y = .int .i64 (zY x : Int) ∧ H' = H) := by
 have hp : (2 : Nat) ^ 52 = 4503599627370496 := by decide
 refine ACall.of_body Tryz.func89 rfl Tryz.ntmps89 Tryz.results89 rfl ?_
 iterate 9 refine AX ?_
 refine .p rfl (zW (tm rfl) (zE 52) (by assumption)) (.p rfl (qQ (tm rfl) (zE 2047) (by omega) (by omega)) ?_)
 refine AX ?_
 refine .p rfl (qQ (tm rfl) (zE 4503599627370495) (by assumption) (by omega)) ?_
 iterate 6 refine AX ?_
 rw [aqM, ayJ, hp]
 iterate 2 refine AX ?_
 refine .p rfl (qH (tm rfl) (zE 2047)) ?_
 refine AX ?_
 refine zH (t := 13) rfl (fun hg13 => ?_) (fun hg13 => ?_)
 ·have hh13 := hg13; try simp only [decide_eq_true_eq] at hh13
  refine AX ?_
  refine .gp rfl rfl rfl (by assumption) (apL (tm rfl) (zE 0)) ?_
  iterate 4 refine AX ?_
  refine AWP.cx rfl (fun hc10 => ?_) (fun hc10 => ?_)
  ·iterate 8 refine AX ?_
   refine Ret.go (.cons (.tmp _ _ rfl) .nil) _ (Heap.le.refl _) ?_
   refine ⟨?_, rfl⟩
   simp only [zU, zY]
   congr 1
   (repeat' split) <;> first | rfl | omega
  ·iterate 3 refine AX ?_
   refine .p rfl (qH (tm rfl) (zE 2047)) ?_
   iterate 3 refine AX ?_
   refine AWP.cx rfl (fun hc17 => ?_) (fun hc17 => ?_)
   ·iterate 8 refine AX ?_
    refine Ret.go (.cons (.tmp _ _ rfl) .nil) _ (Heap.le.refl _) ?_
    refine ⟨?_, rfl⟩
    simp only [zU, zY]
    congr 1
    (repeat' split) <;> first | rfl | omega
   ·iterate 3 refine AX ?_
    refine .p rfl (yQ (tm rfl) (zE 0)) ?_
    iterate 3 refine AX ?_
    refine AWP.cx rfl (fun hc20 => ?_) (fun hc20 => ?_)
    ·iterate 8 refine AX ?_
     refine Ret.go (.cons (.tmp _ _ rfl) .nil) _ (Heap.le.refl _) ?_
     refine ⟨?_, rfl⟩
     simp only [zU, zY]
     congr 1
     (repeat' split) <;> first | rfl | omega
    ·iterate 3 refine AX ?_
     refine .p rfl (yQ (tm rfl) (zE 0)) ?_
     iterate 3 refine AX ?_
     refine AWP.cx rfl (fun hc23 => ?_) (fun hc23 => ?_)
     ·iterate 8 refine AX ?_
      refine Ret.go (.cons (.tmp _ _ rfl) .nil) _ (Heap.le.refl _) ?_
      refine ⟨?_, rfl⟩
      simp only [zU, zY]
      congr 1
      (repeat' split) <;> first | rfl | omega
     ·iterate 9 refine AX ?_
      refine Ret.go (.cons (.tmp _ _ rfl) .nil) _ (Heap.le.refl _) ?_
      refine ⟨?_, rfl⟩
      simp only [zU, zY]
      congr 1
      (repeat' split) <;> first | rfl | omega
 ·have hh13 := hg13; try simp only [decide_eq_false_iff_not] at hh13
  iterate 6 refine AX ?_
  refine AWP.cond_false (tm rfl) (by rfl) ?_
  iterate 3 refine AX ?_
  refine .p rfl (qH (tm rfl) (zE 2047)) ?_
  iterate 3 refine AX ?_
  refine AWP.cx rfl (fun hc17 => ?_) (fun hc17 => ?_)
  ·iterate 8 refine AX ?_
   refine Ret.go (.cons (.tmp _ _ rfl) .nil) _ (Heap.le.refl _) ?_
   refine ⟨?_, rfl⟩
   simp only [zU, zY]
   congr 1
   (repeat' split) <;> first | rfl | omega
  ·iterate 3 refine AX ?_
   refine .p rfl (yQ (tm rfl) (zE 0)) ?_
   iterate 3 refine AX ?_
   refine AWP.cx rfl (fun hc20 => ?_) (fun hc20 => ?_)
   ·iterate 8 refine AX ?_
    refine Ret.go (.cons (.tmp _ _ rfl) .nil) _ (Heap.le.refl _) ?_
    refine ⟨?_, rfl⟩
    simp only [zU, zY]
    congr 1
    (repeat' split) <;> first | rfl | omega
   ·iterate 3 refine AX ?_
    refine .p rfl (yQ (tm rfl) (zE 0)) ?_
    iterate 3 refine AX ?_
    refine AWP.cx rfl (fun hc23 => ?_) (fun hc23 => ?_)
    ·iterate 8 refine AX ?_
     refine Ret.go (.cons (.tmp _ _ rfl) .nil) _ (Heap.le.refl _) ?_
     refine ⟨?_, rfl⟩
     simp only [zU, zY]
     congr 1
     (repeat' split) <;> first | rfl | omega
    ·iterate 9 refine AX ?_
     refine Ret.go (.cons (.tmp _ _ rfl) .nil) _ (Heap.le.refl _) ?_
     refine ⟨?_, rfl⟩
     simp only [zU, zY]
     congr 1
     (repeat' split) <;> first | rfl | omega

set_option maxRecDepth 100000 in
theorem aaV (x : Nat) (hx : x < 18446744073709551616) (H : Heap) : ACall Tryz.prog 181 [.int .u64 (x : Int)] H (fun y H' => y = .tuple [.bool (ajD x), .int .u64 ((yS x : Nat) : Int), .int .i64 (yM x)] ∧ H' = H) := by
 have hp : (2 : Nat) ^ 52 = 4503599627370496 := by decide
 have hk := ahJ x
 have hml := Nat.mod_lt x (by decide : 0 < 4503599627370496)
 have hor := or_one hml
 have hbb := aqM (x / 2 ^ 52)
 refine ACall.of_body Tryz.func181 rfl Tryz.ntmps181 Tryz.results181 rfl ?_
 iterate 3 refine AX ?_
 refine .p rfl (zD (zE 0)) ?_
 iterate 6 refine AX ?_
 refine .p rfl (abC (tm rfl) (zE 9223372036854775808)) ?_
 refine AX ?_
 refine .p rfl (qQ (tm rfl) (zE 4503599627370495) (by assumption) (by omega)) ?_
 iterate 6 refine AX ?_
 rw [ayJ]
 iterate 2 refine AX ?_
 refine .cl rfl Tryz.call89 (evs1 rfl) (qC _ (by assumption) _) ?_
 iterate 3 refine AX ?_
 refine AWP.seqToL [(13, .bool (decide (zY x ≤ 1)))] [0, 2, 3, 4, 5, 6, 12] ?_ ?_
 ·iterate 6 refine AX ?_
  refine AWP.cx rfl (fun hc13 => ?_) (fun hc13 => ?_)
  ·refine AX ?_
   exact ⟨rfl, (zZ rfl (by congr 1; symm; first | (exact decide_eq_true (by omega)) | (by_cases h : zY x ≤ 1 <;> simp [h] <;> omega)) sX), rfl⟩
  ·iterate 4 refine AX ?_
   exact ⟨rfl, (zZ rfl (by congr 1; symm; first | (exact decide_eq_true (by omega)) | (by_cases h : zY x ≤ 1 <;> simp [h] <;> omega)) sX), rfl⟩
 ·refine AWP.sub [(13, _), (0, _), (2, _), (3, _), (4, _), (5, _), (6, _), (12, _)] sX ?_
  refine AWP.cx rfl (fun hc13 => ?_) (fun hc13 => ?_)
  ·iterate 12 refine AX ?_
   refine Ret.go (.cons (.tmp _ _ rfl) (.cons (.tmp _ _ rfl) (.cons (.tmp _ _ rfl) .nil))) _ (Heap.le.refl _) ?_
   refine ⟨?_, rfl⟩
   simp only [zU, yS, yM]
   rw [if_pos (by omega), if_pos (by omega)] <;> rfl
  ·iterate 6 refine AX ?_
   refine AWP.cx rfl (fun hc18 => ?_) (fun hc18 => ?_)
   ·iterate 4 refine AX ?_
    refine .p rfl (qW (zE 4503599627370496) (tm rfl) (by omega) (by omega)) ?_
    refine AX ?_
    refine .p rfl (zW (tm rfl) (zE 52) (by assumption)) (.p rfl (qQ (tm rfl) (zE 2047) (by omega) (by omega)) ?_)
    iterate 10 refine AX ?_
    refine Ret.go (.cons (.tmp _ _ rfl) (.cons (.tmp _ _ rfl) (.cons (.tmp _ _ rfl) .nil))) _ (Heap.le.refl _) ?_
    refine ⟨?_, rfl⟩
    simp only [zU, yS, yM]
    rw [if_neg (by omega), if_pos (by omega), if_neg (by omega), if_pos (by omega), hor, aqM, hp] <;> rfl
   ·iterate 7 refine AX ?_
    refine .p rfl (zD (zE 0)) ?_
    iterate 4 refine AX ?_
    refine Ret.go (.cons (.tmp _ _ rfl) (.cons (.tmp _ _ rfl) (.cons (.tmp _ _ rfl) .nil))) _ (Heap.le.refl _) ?_
    refine ⟨?_, rfl⟩
    simp only [zU, yS, yM]
    rw [if_neg (by omega), if_neg (by omega), if_neg (by omega), if_neg (by omega)] <;> rfl

end
end Go.Proofs.YtmmgbnolccpjoaaGreatDoor
