import Derived.Test.YtmmgbnolccpjoaaGreatDoorN2
import Derived.Test.YtmmgbnolccpjoaaGreatDoorLsk
import Derived.Shelf.Strings.SlTrimAscii
namespace Go.Proofs.YtmmgbnolccpjoaaGreatDoor
open Go Go.RowKit Go.Shelf

variable {g : G} {x : AV} {vs : List Value} {v : Nat} {l : List UInt8} {c : UInt8}
theorem relvs1 (h : RelVs g [x] vs) : ∃ v, vs = [v] ∧ RelV g x v := by
 obtain ⟨hl, hr⟩ := h
 match vs, hl with
 | [v], _ => exact ⟨v, rfl, hr 0 _ _ rfl rfl⟩
theorem relvs2 {y : AV} (h : RelVs g [x, y] vs) : ∃ v u, vs = [v, u] ∧ RelV g x v ∧ RelV g y u := by
 obtain ⟨hl, hr⟩ := h
 match vs, hl with
 | [v, u], _ => exact ⟨v, u, rfl, hr 0 _ _ rfl rfl, hr 1 _ _ rfl rfl⟩
theorem relvs3 {y z : AV} (h : RelVs g [x, y, z] vs) : ∃ v u t, vs = [v, u, t] ∧ RelV g x v ∧ RelV g y u ∧ RelV g z t := by
 obtain ⟨hl, hr⟩ := h
 match vs, hl with
 | [v, u, t], _ => exact ⟨v, u, t, rfl, hr 0 _ _ rfl rfl, hr 1 _ _ rfl rfl, hr 2 _ _ rfl rfl⟩
theorem ACall.lib {P : Program} {f : FuncId} {xs : List AV} {H : Heap} (y : AV) (h : ∀ g vs w, RelVs g xs vs → Sat g H w → Calls P f vs.toArray w (fun e w' => ∃ v, e = .returned v ∧ RelV g y v ∧ Below w.heap.size w w')) : ACall P f xs H (fun z H' => z = y ∧ H' = H) :=
 fun g vs w k s => (h g vs w k s).mono fun _ _ ⟨v, he, hr, hb⟩ => ⟨v, he, g, y, H, .id, hr, s.grow hb, rfl, rfl⟩
theorem bhJ (B : Nat) (w : World) (n : Nat) (os : Array Obj) (h : B ≤ w.heap.size) : Below B w (Sort.grow (w.drewN n) os) :=
 ⟨rfl, rfl, rfl, by simp [Sort.grow, World.drewN], fun k hk => by simp [Sort.grow, World.drewN, fT, bM hk h]⟩
theorem baU (B : Nat) (w : World) (n : Nat) : Below B w (w.drewN n) := ⟨rfl, rfl, rfl, aX _, fun _ _ => rfl⟩
theorem Sat.tab {g : G} {H : Heap} {w : World} (s : Sat g H w) : Lib.TabIs Tryz.prog w "internal/strconv.uint64pow10" .u64 Lib.pow10Tab := by
 obtain ⟨t, f, h⟩ := g.hinv.tab
 have hlt : 7 < g.base.heap.size := (cH.1 h).1
 have h2 : w.heap[7]? = some (.cells (Lib.pow10Tab.map fun z => Value.int .u64 z).toArray t f) := (s.below.block 7 hlt).trans h
 have hn : Tryz.prog.globalNamed "internal/strconv.uint64pow10" = some 7 := by kernel_rfl
 unfold Lib.TabIs World.var?
 rw [hn, Option.bind_some, h2]
theorem Sat.maxCell {H : Heap} {w : World} (s : Sat g H w) : ∃ m, w.cell? ⟨2, 0, none⟩ = some (.int .i64 m) := by
 obtain ⟨m, hm⟩ := g.hinv.max
 have hlt := World.block_lt_of_cell? _ (a := ⟨2, 0, none⟩) hm
 exact ⟨m, by rw [World.cell?_of_block (w := g.base) (s.below.block 2 hlt)]; exact hm⟩
theorem itoaA (n : Nat) (hn : n ≤ 9223372036854775807) (H : Heap) : ACall Tryz.prog 109 [.int .i64 (n : Int)] H (fun y H' => y = .str (dec n) ∧ H' = H) := by
 refine ACall.lib _ fun g vs w k s => ?_
 obtain ⟨v, rfl, hv⟩ := relvs1 k
 cases hv
 refine (Tryz.strconv_Itoa (n : Int) (by omega) (by omega) w s.tab).mono ?_
 rintro e w' ⟨rfl, q, os, rfl⟩
 refine ⟨_, rfl, ?_, bhJ _ _ _ _ (aX _)⟩
 rw [itoa_nat]
 refine .str _ ?_
 have : (dec n).length ≤ 20 := (ahR (by decide)).2 (aR hn (by decide))
 rw [zW]; omega
theorem anR (c : UInt8) : ∀ n, Lib.repeatL [c] n = List.replicate n c
 | 0 => rfl
 | n + 1 => by rw [Lib.repeatL, anR c n, fJ]; rfl
theorem repeatA (c : UInt8) (n : Nat) (hn : n ≤ 100000000) (H : Heap) : ACall Tryz.prog 232 [.str [c], .int .i64 (n : Int)] H (fun y H' => y = .str (List.replicate n c) ∧ H' = H) := by
 refine ACall.lib _ fun g vs w k s => ?_
 obtain ⟨v, u, rfl, hv, hu⟩ := relvs2 k
 cases hv; cases hu
 have hl : (List.replicate n c).length ≤ maxLen := by rw [bR, zW]; omega
 rcases bZ n 2 with h | h
 ·rcases (by omega : n = 0 ∨ n = 1) with rfl | rfl
  ·refine (Tryz.strings_Repeat_zero ⟨[c].toArray⟩ w).mono ?_
   rintro e w' ⟨rfl, rfl⟩
   exact ⟨_, rfl, .str [] (by simp), Below.refl _ _⟩
  refine (Tryz.strings_Repeat_one ⟨[c].toArray⟩ w).mono ?_
  rintro e w' ⟨rfl, rfl⟩
  exact ⟨_, rfl, .str [c] hl, Below.refl _ _⟩
 refine (Tryz.strings_Repeat_main ⟨[c].toArray⟩ n w h (by omega) (by show 1 * n ≤ _; omega) (by show 0 < 1; omega)).mono ?_
 rintro e w' ⟨rfl, hb⟩
 refine ⟨_, rfl, ?_, hb⟩
 have e : Lib.repeatL (⟨#[c]⟩ : ByteArray).data.toList n = List.replicate n c := anR c n
 rw [e]
 exact .str _ hl
theorem repeatZ (c : UInt8) (q : Int) (n : Nat) (hq : q = (n : Int)) (hn : n ≤ 100000000) (H : Heap) : ACall Tryz.prog 232 [.str [c], .int .i64 q] H (fun y H' => y = .str (List.replicate n c) ∧ H' = H) := by
 subst hq; exact repeatA c n hn H
theorem trimLeftA (c : UInt8) (hc : c.toNat < 128) (s : List UInt8) (H : Heap) : ACall Tryz.prog 163 [.str s, .str [c]] H (fun y H' => y = .str (s.dropWhile (· == c)) ∧ H' = H) := by
 refine ACall.lib _ fun g vs w k st => ?_
 obtain ⟨v, u, rfl, hv, hu⟩ := relvs2 k
 cases hv with | str _ hs => ?_
 cases hu
 refine (Tryz.strings_TrimLeft_one ⟨s.toArray⟩ c hc w).mono ?_
 rintro e w' ⟨rfl, rfl⟩
 exact ⟨_, rfl, .str _ (aZ (eC _).length_le hs), Below.refl _ _⟩
theorem trimRightA (c : UInt8) (hc : c.toNat < 128) (s : List UInt8) (H : Heap) : ACall Tryz.prog 164 [.str s, .str [c]] H (fun y H' => y = .str (Lib.trimRightB s c) ∧ H' = H) := by
 refine ACall.lib _ fun g vs w k st => ?_
 obtain ⟨v, u, rfl, hv, hu⟩ := relvs2 k
 cases hv with | str _ hs => ?_
 cases hu
 refine (Tryz.strings_TrimRight_one ⟨s.toArray⟩ c hc w (by show s.toArray.size ≤ _; rw [zW] at hs; simpa using hs)).mono ?_
 rintro e w' ⟨rfl, rfl⟩
 refine ⟨_, rfl, .str _ (aZ ?_ hs), Below.refl _ _⟩
 show (s.reverse.dropWhile (· == c)).reverse.length ≤ s.length
 rw [fK]
 have := (eC (l := s.reverse) (· == c)).length_le
 rwa [fK] at this
theorem trimSetA (cs : List UInt8) (hc : ∀ b, b ∈ cs → b.toNat < 128) (hcl : cs.length < 1000) (s : List UInt8) (H : Heap) : ACall Tryz.prog 259 [.str s, .str cs] H (fun y H' => y = .str (Lib.trimS s cs) ∧ H' = H) := by
 refine ACall.lib _ fun g vs w k st => ?_
 obtain ⟨v, u, rfl, hv, hu⟩ := relvs2 k
 cases hv with | str _ hs => ?_
 cases hu
 refine (Any.strings_Trim_laid Tryz.lays160 (by kernel_rfl) ⟨s.toArray⟩ ⟨cs.toArray⟩ w (by show s.toArray.size ≤ _; rw [zW] at hs; simpa using hs) (by show cs.toArray.size < _; rw [dX]; omega) (fun j b h => hc b (eW (by simpa using h)))).mono ?_
 rintro e w' ⟨rfl, hb⟩
 refine ⟨_, rfl, .str _ (aZ ?_ hs), hb⟩
 show ((s.reverse.dropWhile (cs.contains ·)).reverse.dropWhile (cs.contains ·)).length ≤ s.length
 have h1 := (eC (l := (s.reverse.dropWhile (cs.contains ·)).reverse) (cs.contains ·)).length_le
 have h2 := (eC (l := s.reverse) (cs.contains ·)).length_le
 rw [fK] at h1 h2
 omega
theorem hasSuffixA (s p : List UInt8) (H : Heap) : ACall Tryz.prog 222 [.str s, .str p] H (fun y H' => y = .bool (Lib.hasSuffix s p) ∧ H' = H) := by
 refine ACall.lib _ fun g vs w k st => ?_
 obtain ⟨v, u, rfl, hv, hu⟩ := relvs2 k
 cases hv with | str _ hs => ?_
 cases hu
 refine (Tryz.strings_HasSuffix ⟨s.toArray⟩ ⟨p.toArray⟩ w (by show s.toArray.size ≤ _; rw [zW] at hs; simpa using hs)).mono ?_
 rintro e w' ⟨rfl, rfl⟩
 exact ⟨_, rfl, .bool _, Below.refl _ _⟩
theorem compareA (s p : List UInt8) (H : Heap) : ACall Tryz.prog 113 [.str s, .str p] H (fun y H' => y = .int .i64 (Lib.compareBytes s p) ∧ H' = H) := by
 refine ACall.lib _ fun g vs w k st => ?_
 obtain ⟨v, u, rfl, hv, hu⟩ := relvs2 k
 cases hv; cases hu
 refine (Tryz.strings_Compare ⟨s.toArray⟩ ⟨p.toArray⟩ w).mono ?_
 rintro e w' ⟨rfl, rfl⟩
 exact ⟨_, rfl, .int _ _, Below.refl _ _⟩
section
open Go Go.RowKit
set_option maxRecDepth 100000

theorem dig_step {a : Nat} {s : List UInt8} (hv : 0 < v) (h : dec a = if v = 0 then s else dec v ++ s) :
  dec a = if v / 1000000000 = 0 then (if v / 1000000000 = 0 then dec (v % 1000000000) else List.replicate (9 - (dec (v % 1000000000)).length) 48 ++ dec (v % 1000000000)) ++ s
   else dec (v / 1000000000) ++ ((if v / 1000000000 = 0 then dec (v % 1000000000) else List.replicate (9 - (dec (v % 1000000000)).length) 48 ++ dec (v % 1000000000)) ++ s) := by
 rw [aN (by omega)] at h
 by_cases h0 : v / 1000000000 = 0
 ·rw [aO h0, aO h0, h, show v % 1000000000 = v by omega]
 rw [aN h0, aN h0, h, ← bV, ← dec_nine (by omega)]
theorem dig_len {a : Nat} {s : List UInt8} (h : dec a = if v = 0 then s else dec v ++ s) : s.length ≤ (dec a).length := by
 rw [h]; split
 ·exact aX _
 rw [aS]; omega
theorem beL {xs : List Nat} : qD xs = 0 ↔ val xs = 0 := ⟨aaL, aaM⟩
theorem part_len (h : (dec (v % 1000000000)).length ≤ 9) : (if v / 1000000000 = 0 then dec (v % 1000000000) else List.replicate (9 - (dec (v % 1000000000)).length) 48 ++ dec (v % 1000000000)).length ≤ 9 := by
 split
 ·exact h
 rw [aS, bR]; omega
theorem atI {zs ws : List Nat} {m : Nat} (h : ws.length = m) : (mid zs 0 ws).take m = ws := by
 have := awE (zs := zs) (o := 0) h (Nat.zero_le _)
 rwa [dK] at this
theorem ayS (ws : List Nat) : qD (ws.take (qD ws)) = qD ws ∧ val (ws.take (qD ws)) = val ws := by
 induction ws with
 | nil => exact ⟨rfl, rfl⟩
 | cons x xs ih =>
  by_cases h : qD xs = 0 ∧ x = 0
  ·rw [qD, aO h, eV]
   exact ⟨rfl, by rw [val, val, aaL h.1, h.2]⟩
  rw [qD, aN h, List.take_succ_cons, qD, ih.1, aN h, val, val, ih.2]
  exact ⟨rfl, rfl⟩

def dig_J (a n b7 : Nat) (H : Heap) : Nat → Env → Heap → Prop := fun k env H1 => ∃ (m : Nat) (zs : List Nat) (s : List UInt8), m ≤ n ∧ zs.length = n ∧ Limbs zs ∧ qD (zs.take m) = m ∧ dec a = (if val (zs.take m) = 0 then s else dec (val (zs.take m)) ++ s) ∧ env = [(3, .mslice (some ⟨b7, 0, none⟩) m n), (4, .str s)] ∧ H1 = H.set b7 (.box 166 (U .u32 zs)) ∧ k = val (zs.take m)

theorem axK (a : Nat) (hx : a < BIG) (H : Heap) : ACall Tryz.prog 277 [aaT a] H (fun y H' => y = .str (dec a) ∧ H' = H) := by
 have ha256 := yU hx
 have hdl := apB hx
 refine ACall.of_body Tryz.func277 rfl Tryz.ntmps277 Tryz.results277 rfl ?_
 refine AX ?_
 -- region 0
 refine AX ?_
 refine AList.p rfl (zA (zS rfl)) ?_
 refine AList.nil ?_
 iterate 2 refine AX ?_
 -- region 1
 refine AX ?_
 refine AList.p rfl (zJ (.tmp _ _ rfl)) ?_
 refine AList.s rfl (zF C278 (.cons (.tmp _ _ rfl) .nil) (bdL _ _ (zP _) (by omega) _)) ?_
 rintro _ _ ⟨b7, hb7, rfl, hH⟩
 obtain rfl := hH.symm
 rw [zT]
 refine AList.p rfl (zA (.tmp _ _ rfl)) ?_
 refine AList.nil ?_
 iterate 3 refine AX ?_
 -- region 2
 refine AX ?_
 refine AList.p rfl (zJ (.tmp _ _ rfl)) ?_
 first | (refine AList.p rfl (abD U239 (.tmp _ _ rfl)) ?_) | (refine AList.p rfl (ahM U239 (.tmp _ _ rfl)) ?_) | (refine AList.p rfl (afV U239 (.tmp _ _ rfl)) ?_)
 refine AList.p rfl (zR (.tmp _ _ rfl) (zI 0)) ?_
 refine AList.nil ?_
 refine AX ?_
 -- c0
 refine AWP.cond (.tmp _ _ rfl) (fun hc10 => ?_) (fun hc10 => ?_)
 ·try simp only [aM] at hc10
  refine AX ?_
  refine AWP.frzU (t := 3) rfl hb7 (aX _) (aX _) (by simp only [zW]; omega) ?_
  -- region 3
  refine AX ?_
  refine AList.p rfl (zA (zS rfl)) ?_
  refine AList.nil ?_
  iterate 3 refine AX ?_
  -- ret 0
  refine AX ?_
  refine ⟨?_, rfl⟩
  have ha0 : a = 0 := by
   have h0 := zT a
   rw [dN.1 (by omega : (zK a).length = 0)] at h0; exact h0.symm
  rw [ha0]; rfl
 try simp only [aL] at hc10
 have ha0 : a ≠ 0 := by rintro rfl; simp [aaZ] at hc10
 iterate 3 refine AX ?_
 -- region 4
 refine AX ?_
 refine AList.p rfl (zA (zS rfl)) ?_
 refine AList.nil ?_
 iterate 3 refine AX ?_
 -- L0
 refine AWP.loopW (dig_J a (zK a).length b7 H) (a) ⟨(zK a).length, zK a, [], aX _, rfl, zP a, by rw [dL, agQ], by rw [dL, zT, aN ha0, cS], rfl, rfl, by rw [dL, zT]⟩ sX (hRa _) ?_
 rintro _ _ _ ⟨m, zs, s, hm, hzl, hzL, hrm, hdec, rfl, rfl, hk⟩
 have hsl := dig_len hdec
 iterate 2 refine AX ?_
 -- region 5
 refine AX ?_
 refine AList.p rfl (zJ (.tmp _ _ rfl)) ?_
 first | (refine AList.p rfl (abD U239 (.tmp _ _ rfl)) ?_) | (refine AList.p rfl (ahM U239 (.tmp _ _ rfl)) ?_) | (refine AList.p rfl (afV U239 (.tmp _ _ rfl)) ?_)
 refine AList.p rfl (yC (.tmp _ _ rfl) (zI 0)) ?_
 refine AList.nil ?_
 refine AX ?_
 -- c1
 refine AWP.cond (.tmp _ _ rfl) (fun hc13 => ?_) (fun hc13 => ?_)
 ·try simp only [aM] at hc13
  have hpos : 0 < val (zs.take m) := eI (fun h => by have := aaM h; omega)
  iterate 4 refine AX ?_
  -- region 6
  refine AX ?_
  refine AList.p rfl (zJ (.tmp _ _ rfl)) ?_
  refine AList.s rfl (zF Tryz.call317 (.cons (.tmp _ _ rfl) (.cons (zI 1000000000) .nil)) (anC b7 0 m (zK a).length 1000000000 (by decide) (by decide) zs hzL (by omega) (by omega) _ (oS _ _ _))) ?_
  rintro _ _ ⟨rfl, ws, hwl, hwL, hwv, hH⟩
  obtain rfl := hH.symm
  rw [sS]
  rw [dK] at *
  generalize hv : val (zs.take m) = v at *
  have hvm := bQ v (by decide : 0 < 1000000000)
  have hpl := (ahR (n := v % 1000000000) (k := 9) (by decide)).2 hvm
  have hrw := beL (xs := ws)
  have hrl := aaW ws
  obtain ⟨hrr, hrv⟩ := ayS ws
  rw [hwv] at hrw hrv
  have hpt := part_len hpl
  have hrp : (List.replicate (9 - (dec (v % 1000000000)).length) (48 : UInt8)).length = 9 - (dec (v % 1000000000)).length := bR
  refine AList.p rfl (qM U166 U3 (.tmp _ _ rfl) (wrapNI64 (by first | assumption | omega))) ?_
  refine AList.s rfl (zF Tryz.call109 (.cons (.tmp _ _ rfl) .nil) (itoaA _ (by omega) _)) ?_
  rintro _ _ ⟨rfl, hH⟩
  obtain rfl := hH.symm
  refine AList.p rfl (zA (.tmp _ _ rfl)) ?_
  refine AList.nil ?_
  refine AX ?_
  refine AWP.seqToL [(3, .mslice (some ⟨b7, 0, none⟩) (qD ws) (zK a).length), (5, .str (if v / 1000000000 = 0 then dec (v % 1000000000) else List.replicate (9 - (dec (v % 1000000000)).length) 48 ++ dec (v % 1000000000)))] [4] ?_ ?_
  ·refine AX ?_
   -- region 7
   refine AX ?_
   refine AList.p rfl (zJ (.tmp _ _ rfl)) ?_
   refine AList.s rfl (zF C311 (.cons (.tmp _ _ rfl) .nil) (bgZ b7 m (zK a).length (mid zs 0 ws) (adP hzL hwL) (by rw [aeU hwl (by omega)]; omega) (by omega) hm _ (oS _ _ _))) ?_
   rintro _ _ ⟨rfl, hH⟩
   obtain rfl := hH.symm
   rw [atI hwl]
   refine AList.p rfl (zA (.tmp _ _ rfl)) ?_
   refine AList.nil ?_
   iterate 2 refine AX ?_
   -- region 8
   refine AX ?_
   refine AList.p rfl (zJ (.tmp _ _ rfl)) ?_
   first | (refine AList.p rfl (abD U239 (.tmp _ _ rfl)) ?_) | (refine AList.p rfl (ahM U239 (.tmp _ _ rfl)) ?_) | (refine AList.p rfl (afV U239 (.tmp _ _ rfl)) ?_)
   refine AList.p rfl (yC (.tmp _ _ rfl) (zI 0)) ?_
   refine AList.nil ?_
   refine AX ?_
   -- c2
   refine AWP.cond (.tmp _ _ rfl) (fun hc22 => ?_) (fun hc22 => ?_)
   ·try simp only [aM] at hc22
    -- region 9
    refine AX ?_
    refine AList.p rfl (zJ (.tmp _ _ rfl)) ?_
    refine AList.p rfl (yQ U9 (.tmp _ _ rfl)) ?_
    refine AList.p rfl (yG (zI 9) (.tmp _ _ rfl) (by omega)) ?_
    refine AList.s rfl (zF C232 (.cons (zS rfl) (.cons (.tmp _ _ rfl) .nil)) (repeatZ 48 _ (9 - (dec (v % 1000000000)).length) (by omega) (by omega) _)) ?_
    rintro _ _ ⟨rfl, hH⟩
    obtain rfl := hH.symm
    refine AList.p rfl (zJ (.tmp _ _ rfl)) ?_
    refine AList.p rfl (yX (.tmp _ _ rfl) (.tmp _ _ rfl) (by simp only [zW] at *; omega)) ?_
    refine AList.p rfl (zA (.tmp _ _ rfl)) ?_
    refine AList.nil ?_
    exact ⟨rfl, (zX rfl (by first | rfl | (rw [aN (by omega)]) | (rw [aO (by omega)])) (zX rfl (by first | rfl | (rw [aN (by omega)]) | (rw [aO (by omega)])) (zC rfl zU))), rfl⟩
   try simp only [aL, bN] at hc22
   refine AX ?_
   exact ⟨rfl, (zX rfl (by first | rfl | (rw [aN (by omega)]) | (rw [aO (by omega)])) (zX rfl (by first | rfl | (rw [aN (by omega)]) | (rw [aO (by omega)])) (zC rfl zU))), rfl⟩
  refine AWP.sub [(3, _), (5, _), (4, _)] sX ?_
  -- region 10
  refine AX ?_
  refine AList.p rfl (zJ (.tmp _ _ rfl)) ?_
  refine AList.p rfl (zJ (.tmp _ _ rfl)) ?_
  refine AList.p rfl (yX (.tmp _ _ rfl) (.tmp _ _ rfl) (by simp only [zW] at *; omega)) ?_
  refine AList.p rfl (zA (.tmp _ _ rfl)) ?_
  refine AList.nil ?_
  iterate 2 refine AX ?_
  have htt : (mid zs 0 ws).take (qD ws) = ws.take (qD ws) := by rw [← atI (zs := zs) hwl, List.take_take, atI hwl, dE (by omega)]
  refine Round.mk (J := dig_J a (zK a).length b7 H) ⟨qD ws, mid zs 0 ws, _, by omega, (aeU hwl (by omega)).trans hzl, adP hzL hwL, by rw [htt]; exact hrr, by rw [htt, hrv]; exact dig_step hpos hdec, rfl, rfl, by rw [htt, hrv]⟩ sX (hRa _) (by omega)
 try simp only [aL, bN] at hc13
 iterate 6 refine AX ?_
 refine AWP.frzU (t := 3) rfl hb7 (by omega) hm (by simp only [zW]; omega) ?_
 -- region 11
 refine AX ?_
 refine AList.p rfl (zJ (.tmp _ _ rfl)) ?_
 refine AList.p rfl (zA (.tmp _ _ rfl)) ?_
 refine AList.nil ?_
 iterate 2 refine AX ?_
 -- ret 1
 refine AX ?_
 refine ⟨?_, rfl⟩
 have hm0 : m = 0 := by omega
 rw [hm0, eV] at hdec
 rw [show dec a = s from hdec.trans (aO rfl)]; rfl

end
def isD (b : UInt8) : Prop := 48 ≤ b.toNat ∧ b.toNat ≤ 57
def Digs (l : List UInt8) : Prop := ∀ b, b ∈ l → isD b
def axN (acc : Nat) (l : List UInt8) : Nat := l.foldl (fun a c => a * 10 + (c.toNat - 48)) acc
theorem ahZ (acc : Nat) : axN acc [] = acc := rfl
theorem acV (acc : Nat) (c : UInt8) (r : List UInt8) : axN acc (c :: r) = axN (acc * 10 + (c.toNat - 48)) r := by unfold axN; rw [List.foldl_cons]
def num (l : List UInt8) : Nat := axN 0 l
theorem aoH : ∀ (l : List UInt8) (acc : Nat), axN acc l = acc * 10 ^ l.length + num l
 | [], acc => by rw [num, ahZ, ahZ]; simp
 | c :: r, acc => by
  rw [num, acV, acV, aoH r (acc * 10 + (c.toNat - 48)), aoH r (0 * 10 + (c.toNat - 48)), bE, bO, bP, dF, bW, bC, bD 10]
  omega
theorem ahY (a b : List UInt8) : num (a ++ b) = num a * 10 ^ b.length + num b := by
 have h : ∀ (a : List UInt8) (acc : Nat), axN acc (a ++ b) = axN (axN acc a) b := by
  intro a
  induction a with
  | nil => intro acc; rfl
  | cons c r ih => intro acc; rw [eT, acV, acV, ih]
 rw [num, h, aoH]; rfl
theorem ajR (c : UInt8) (r : List UInt8) : num (c :: r) = (c.toNat - 48) * 10 ^ r.length + num r := by
 rw [num, acV, aoH, dF, bW]
theorem afX : ∀ {l : List UInt8}, Digs l → num l < 10 ^ l.length
 | [], _ => by rw [num, ahZ]; simp
 | c :: r, h => by
  have h1 := afX (l := r) fun b hb => h b (by simp [hb])
  have h2 := h c (by simp)
  rw [ajR, bE, bO]
  have h3 : (c.toNat - 48) * 10 ^ r.length ≤ 9 * 10 ^ r.length := aV _ (by have := h2.2; omega)
  omega
theorem bkO (acc : Nat) (l : List UInt8) : acc ≤ axN acc l := by
 rw [aoH]
 have : acc * 1 ≤ acc * 10 ^ l.length := bT _ (bI (by decide))
 omega
theorem arG : ∀ (l : List UInt8) (acc : Nat), Digs l → axN acc l < 18446744073709551616 → Lib.parseUint10 acc l = .ok (axN acc l)
 | [], acc, _, _ => rfl
 | c :: r, acc, h, hl => by
  rw [acV] at hl ⊢
  have h1 := bkO (acc * 10 + (c.toNat - 48)) r
  have h2 := h c (by simp)
  unfold Lib.parseUint10
  rw [aO (show 48 ≤ c.toNat ∧ c.toNat ≤ 57 from h2), aN (by omega), aN (by omega)]
  exact arG r _ (fun b hb => h b (by simp [hb])) hl
theorem Digs.take (h : Digs l) (n : Nat) : Digs (l.take n) := fun b hb => h b (List.mem_of_mem_take hb)
theorem Digs.drop (h : Digs l) (n : Nat) : Digs (l.drop n) := fun b hb => h b (List.mem_of_mem_drop hb)
theorem Digs.dropWhile (h : Digs l) (q : UInt8 → Bool) : Digs (l.dropWhile q) := fun b hb => h b ((eC q).subset hb)
theorem baW (hne : l ≠ []) (h : Digs l) (hl : l.length ≤ 18) : Lib.atoiAll l = .ok (num l : Int) := by
 have h1 := afX h
 have h2 : 10 ^ l.length ≤ 10 ^ 18 := aT (by decide) hl
 have h3 := arG l 0 h (by rw [show axN 0 l = num l from rfl]; omega)
 cases l with
 | nil => exact absurd rfl hne
 | cons c r =>
  have h4 := h c (by simp)
  have h4a := h4.1
  unfold Lib.atoiAll
  simp only []
  rw [aN (by omega)]
  unfold Lib.parseMag
  rw [aN (by simp), h3]
  simp only []
  rw [aN (by rintro ⟨_, hb⟩; rw [show axN 0 (c :: r) = num (c :: r) from rfl] at hb; omega), aN (by rintro ⟨hb, _⟩; omega), aN (by omega)]
  rfl
theorem atoiA (s : List UInt8) (hne : s ≠ []) (h : Digs s) (hl : s.length ≤ 18) (H : Heap) : ACall Tryz.prog 257 [.str s] H (fun y H' => y = .tuple [.int .i64 (num s : Int), .nilIface] ∧ H' = H) := by
 refine ACall.lib _ fun g vs w k st => ?_
 obtain ⟨v, rfl, hv⟩ := relvs1 k
 cases hv
 refine (Tryz.strconv_Atoi_ok ⟨s.toArray⟩ (by show s.toArray.size ≤ _; rw [dX]; omega) _ (baW hne h hl) w).mono ?_
 rintro e w' ⟨rfl, hw⟩
 refine ⟨_, rfl, .tuple _ _ rfl (fun i c v hc hv => ?_), ?_⟩
 ·match i with
  | 0 => cases hc; cases hv; exact .int _ _
  | 1 => cases hc; cases hv; exact .nilIface
  | i + 2 => simp at hc
 rcases hw with rfl | ⟨t, rfl⟩
 ·exact Below.refl _ _
 exact Lib.bytesWorld_below _ _ _
theorem azP (n : Nat) : num (dec n) = n := by
 induction n using Nat.strongRecOn with
 | ind n ih =>
  have hd : ∀ m, m < 10 → (dgt m).toNat - 48 = m := fun m hm => by
   unfold dgt
   rw [eU]
   omega
  rcases bZ n 10 with h | h
  ·rw [alT h, ajR, hd n h, num, ahZ]; simp
  rw [alU h, ahY, ih _ (by omega), ajR, hd _ (bQ _ (by decide)), num, ahZ]
  simp; omega
theorem akA (n : Nat) : Digs (dec n) := by
 have hd : ∀ m, m < 10 → isD (dgt m) := fun m hm => by
  unfold isD dgt
  rw [eU]
  omega
 induction n using Nat.strongRecOn with
 | ind n ih =>
  rcases bZ n 10 with h | h
  ·rw [alT h]; intro b hb; rw [List.mem_singleton.1 hb]; exact hd n h
  rw [alU h]
  intro b hb
  rcases eF.1 hb with hb | hb
  ·exact ih _ (by omega) b hb
  rw [List.mem_singleton.1 hb]; exact hd _ (bQ _ (by decide))
def dA (neg : Bool) (ds : List UInt8) (e : Int) : AV := .agg [.bool neg, .str ds, .int .i64 e]
def asA (ds : List UInt8) : Bool := ds.all fun b => decide (48 ≤ b.toNat) && decide (b.toNat ≤ 57)
theorem adL {ds : List UInt8} : asA ds = true ↔ Digs ds := by
 unfold asA Digs isD
 simp [fM]
def qE (ds : List UInt8) (e : Int) : Bool :=
 if ds = [] then decide (e = 0) else
 decide (ds.length ≤ 1100) && decide (-100000 ≤ e) && decide (e ≤ 100000) && asA ds && !decide ((ds.getD 0 0) = 48) && !decide ((ds.getD (ds.length - 1) 0) = 48)
def apW (ds : List UInt8) : List UInt8 := ds.dropWhile (· == 48)
def acH (ds : List UInt8) : List UInt8 := Lib.trimRightB (apW ds) 48
def aiI (ds : List UInt8) : Nat := (apW ds).length - (acH ds).length
def okD (ds : List UInt8) (e : Int) : Prop := (acH ds).length ≤ 1100 ∧ -100000 ≤ e + aiI ds ∧ e + aiI ds ≤ 100000
instance (ds : List UInt8) (e : Int) : Decidable (okD ds e) := inferInstanceAs (Decidable (_ ∧ _ ∧ _))
def mkN (neg : Bool) (ds : List UInt8) (e : Int) : (Bool × List UInt8 × Int) × Int :=
 if acH ds = [] then ((neg, [], 0), 0) else if okD ds e then ((neg, acH ds, e + aiI ds), 0) else ((false, [], 0), 2)
def dT (d : (Bool × List UInt8 × Int) × Int) : AV := .tuple [dA d.1.1 d.1.2.1 d.1.2.2, .int .i64 d.2]
theorem aiR (l : List UInt8) (c : UInt8) : ∃ n, l = Lib.trimRightB l c ++ List.replicate n c := by
 unfold Lib.trimRightB
 have h : ∀ m : List UInt8, ∃ n, m = List.replicate n c ++ m.dropWhile (· == c) := by
  intro m
  induction m with
  | nil => exact ⟨0, rfl⟩
  | cons x m ih =>
   rw [dU]
   split
   ·rename_i hx
    obtain ⟨n, hn⟩ := ih
    have hx' : x = c := by simpa using hx
    refine ⟨n + 1, ?_⟩
    rw [fJ, eT, ← hn, hx']
   exact ⟨0, rfl⟩
 obtain ⟨n, hn⟩ := h l.reverse
 refine ⟨n, ?_⟩
 have := congrArg List.reverse hn
 rw [List.reverse_reverse, List.reverse_append, List.reverse_replicate] at this
 exact this
theorem ahE (l : List UInt8) (c : UInt8) : (Lib.trimRightB l c).length ≤ l.length := by
 obtain ⟨n, hn⟩ := aiR l c
 have := congrArg List.length hn
 rw [aS] at this
 omega
theorem aoY (l : List UInt8) (c : UInt8) : (l.dropWhile (· == c)).length ≤ l.length := (eC _).length_le
theorem aqH (h : Lib.trimRightB l c ≠ []) : (Lib.trimRightB l c).getD ((Lib.trimRightB l c).length - 1) 0 ≠ c := by
 unfold Lib.trimRightB at h ⊢
 have hh : l.reverse.dropWhile (· == c) ≠ [] := by simpa using h
 have h1 : ∀ m : List UInt8, m.dropWhile (· == c) ≠ [] → ∃ x r, m.dropWhile (· == c) = x :: r ∧ x ≠ c := by
  intro m
  induction m with
  | nil => intro h; exact absurd rfl h
  | cons x m ih =>
   intro h
   rw [dU] at h ⊢
   split
   ·rename_i hx; rw [aO hx] at h; exact ih h
   rename_i hx; exact ⟨x, m, rfl, by simpa using hx⟩
 obtain ⟨x, r, hx, hne⟩ := h1 _ hh
 rw [hx]
 simp
 exact hne
theorem bgV (h : l.dropWhile (· == c) ≠ []) : (l.dropWhile (· == c)).getD 0 0 ≠ c := by
 induction l with
 | nil => exact absurd rfl h
 | cons x m ih =>
  rw [dU] at h ⊢
  split
  ·rename_i hx; rw [aO hx] at h; exact ih h
  rename_i hx; simpa using hx
theorem Digs.trimR (h : Digs l) (c : UInt8) : Digs (Lib.trimRightB l c) := fun b hb => by
 obtain ⟨n, hn⟩ := aiR l c
 exact h b (by rw [hn]; simp [hb])
theorem bdZ (h : Lib.trimRightB l c ≠ []) : (Lib.trimRightB l c).getD 0 0 = l.getD 0 0 := by
 obtain ⟨n, hn⟩ := aiR l c
 cases ht : Lib.trimRightB l c with
 | nil => exact absurd ht h
 | cons x r => rw [ht] at hn; rw [hn]; rfl
theorem akV {ds : List UInt8} (hd : Digs ds) (h : acH ds ≠ []) {e : Int} : qE (acH ds) e = (decide ((acH ds).length ≤ 1100) && decide (-100000 ≤ e) && decide (e ≤ 100000)) := by
 unfold qE
 rw [aN h]
 have h1 : asA (acH ds) = true := adL.2 ((hd.dropWhile _).trimR _)
 have h2 : (acH ds).getD ((acH ds).length - 1) 0 ≠ 48 := aqH h
 have h3 : (acH ds).getD 0 0 ≠ 48 := by
  unfold acH
  rw [bdZ h]
  refine bgV fun h0 => h ?_
  unfold acH apW
  rw [h0]; rfl
 rw [h1, bG h2, bG h3]
 simp
theorem amE {neg : Bool} {ds : List UInt8} {e : Int} (hd : Digs ds) : qE (mkN neg ds e).1.2.1 (mkN neg ds e).1.2.2 = true := by
 unfold mkN
 split
 ·rfl
 rename_i h
 split
 ·rename_i h2
  obtain ⟨h3, h4, h5⟩ := h2
  show qE (acH ds) (e + aiI ds) = true
  rw [akV hd h]
  simp [h3, h4, h5]
 rfl
theorem qQ {ds : List UInt8} {e : Int} (h : qE ds e = true) : Digs ds := by
 unfold qE at h
 split at h
 ·rename_i h0; rw [h0]; intro b hb; simp at hb
 simp only [bK] at h
 exact adL.1 h.1.1.2
theorem aaY {ds : List UInt8} {e : Int} (h : qE ds e = true) : ds.length ≤ 1100 ∧ -100000 ≤ e ∧ e ≤ 100000 := by
 unfold qE at h
 split at h
 ·rename_i h0
  have : e = 0 := by simpa using h
  rw [h0, this]; simp
 simp only [bK, aM] at h
 exact ⟨h.1.1.1.1.1, h.1.1.1.1.2, h.1.1.1.2⟩
section
open Go Go.RowKit

def yD (x : Nat) : Nat :=
 if x / 4503599627370496 % 2048 = 2047 then (if x % 4503599627370496 = 0 then 3 else 4)
 else if x / 4503599627370496 % 2048 = 0 then (if x % 4503599627370496 = 0 then 0 else 1) else 2
def qI (x : Nat) : Nat := if yD x ≤ 1 then x % 4503599627370496 else if yD x = 2 then 4503599627370496 + x % 4503599627370496 else 0
def qF (x : Nat) : Int := if yD x ≤ 1 then -1074 else if yD x = 2 then ((x / 4503599627370496 % 2048 : Nat) : Int) - 1075 else 0
def alR (x : Nat) : Bool := decide ((9223372036854775808 : Int) ≤ (x : Int))
theorem auE (x : Nat) : x &&& 2047 = x % 2048 := cO x 11
theorem bdJ (x : Nat) : x &&& 4503599627370495 = x % 4503599627370496 := cO x 52
theorem or_one {f : Nat} (h : f < 4503599627370496) : 4503599627370496 ||| f = 4503599627370496 + f := by
 have := Nat.two_pow_add_eq_or_of_lt (i := 52) h 1
 simp at this
 omega
theorem acB (x : Nat) : qI x < 9007199254740992 := by
 unfold qI
 split
 ·omega
 split <;> omega
theorem aaS (x : Nat) : -1075 ≤ qF x ∧ qF x ≤ 972 := by
 unfold qF
 split
 ·omega
 split <;> omega
theorem aiB (x : Nat) : yD x ≤ 4 := by
 unfold yD
 split
 ·split <;> omega
 split
 ·split <;> omega
 omega
end
section
open Go Go.RowKit
set_option maxRecDepth 100000

theorem aaE (x : Nat) (hx : x < 18446744073709551616) (H : Heap) : ACall Tryz.prog 89 [.int .u64 (x : Int)] H (fun y H' => y = .int .i64 (yD x : Int) ∧ H' = H) := by
 have hp : (2 : Nat) ^ 52 = 4503599627370496 := by decide
 refine ACall.of_body Tryz.func89 rfl Tryz.ntmps89 Tryz.results89 rfl ?_
 iterate 9 refine AX ?_
 refine .p rfl (yF (tm rfl) (zI 52) (by assumption)) (.p rfl (aaN (tm rfl) (zI 2047) (by omega) (by omega)) ?_)
 refine AX ?_
 refine .p rfl (aaN (tm rfl) (zI 4503599627370495) (by assumption) (by omega)) ?_
 iterate 6 refine AX ?_
 rw [auE, bdJ, hp]
 iterate 2 refine AX ?_
 refine .p rfl (zR (tm rfl) (zI 2047)) ?_
 refine AX ?_
 refine zL (t := 13) rfl (fun hg13 => ?_) (fun hg13 => ?_)
 ·have hh13 := hg13; try simp only [aM] at hh13
  refine AX ?_
  refine .gp rfl rfl rfl (by assumption) (qA (tm rfl) (zI 0)) ?_
  iterate 4 refine AX ?_
  refine AWP.cx rfl (fun hc10 => ?_) (fun hc10 => ?_)
  ·iterate 9 refine AX ?_
   refine ⟨?_, rfl⟩
   simp only [yI, yD]
   congr 1
   (repeat' split) <;> first | rfl | omega
  iterate 3 refine AX ?_
  refine .p rfl (zR (tm rfl) (zI 2047)) ?_
  iterate 3 refine AX ?_
  refine AWP.cx rfl (fun hc17 => ?_) (fun hc17 => ?_)
  ·iterate 9 refine AX ?_
   refine ⟨?_, rfl⟩
   simp only [yI, yD]
   congr 1
   (repeat' split) <;> first | rfl | omega
  iterate 3 refine AX ?_
  refine .p rfl (yC (tm rfl) (zI 0)) ?_
  iterate 3 refine AX ?_
  refine AWP.cx rfl (fun hc20 => ?_) (fun hc20 => ?_)
  ·iterate 9 refine AX ?_
   refine ⟨?_, rfl⟩
   simp only [yI, yD]
   congr 1
   (repeat' split) <;> first | rfl | omega
  iterate 3 refine AX ?_
  refine .p rfl (yC (tm rfl) (zI 0)) ?_
  iterate 3 refine AX ?_
  refine AWP.cx rfl (fun hc23 => ?_) (fun hc23 => ?_)
  ·iterate 9 refine AX ?_
   refine ⟨?_, rfl⟩
   simp only [yI, yD]
   congr 1
   (repeat' split) <;> first | rfl | omega
  iterate 10 refine AX ?_
  refine ⟨?_, rfl⟩
  simp only [yI, yD]
  congr 1
  (repeat' split) <;> first | rfl | omega
 have hh13 := hg13; try simp only [aL] at hh13
 iterate 6 refine AX ?_
 refine AWP.cond_false (tm rfl) (by rfl) ?_
 iterate 3 refine AX ?_
 refine .p rfl (zR (tm rfl) (zI 2047)) ?_
 iterate 3 refine AX ?_
 refine AWP.cx rfl (fun hc17 => ?_) (fun hc17 => ?_)
 ·iterate 9 refine AX ?_
  refine ⟨?_, rfl⟩
  simp only [yI, yD]
  congr 1
  (repeat' split) <;> first | rfl | omega
 iterate 3 refine AX ?_
 refine .p rfl (yC (tm rfl) (zI 0)) ?_
 iterate 3 refine AX ?_
 refine AWP.cx rfl (fun hc20 => ?_) (fun hc20 => ?_)
 ·iterate 9 refine AX ?_
  refine ⟨?_, rfl⟩
  simp only [yI, yD]
  congr 1
  (repeat' split) <;> first | rfl | omega
 iterate 3 refine AX ?_
 refine .p rfl (yC (tm rfl) (zI 0)) ?_
 iterate 3 refine AX ?_
 refine AWP.cx rfl (fun hc23 => ?_) (fun hc23 => ?_)
 ·iterate 9 refine AX ?_
  refine ⟨?_, rfl⟩
  simp only [yI, yD]
  congr 1
  (repeat' split) <;> first | rfl | omega
 iterate 10 refine AX ?_
 refine ⟨?_, rfl⟩
 simp only [yI, yD]
 congr 1
 (repeat' split) <;> first | rfl | omega

theorem agM (x : Nat) (hx : x < 18446744073709551616) (H : Heap) : ACall Tryz.prog 25 [.int .u64 (x : Int)] H (fun y H' => y = .int .i64 (yD x : Int) ∧ H' = H) := by
 have hp : (2 : Nat) ^ 52 = 4503599627370496 := by decide
 refine ACall.of_body Tryz.func25 rfl Tryz.ntmps25 Tryz.results25 rfl ?_
 iterate 8 refine AX ?_
 refine .p rfl (yF (tm rfl) (zI 52) (by assumption)) (.p rfl (qY (tm rfl) (zI 2048) (by omega)) ?_)
 iterate 6 refine AX ?_
 refine .p rfl (qY (tm rfl) (zI 4503599627370496) (by omega)) ?_
 iterate 6 refine AX ?_
 rw [hp]
 iterate 2 refine AX ?_
 refine .p rfl (zR (tm rfl) (zI 2047)) ?_
 refine AX ?_
 refine zL (t := 13) rfl (fun hg13 => ?_) (fun hg13 => ?_)
 ·have hh13 := hg13; try simp only [aM] at hh13
  refine AX ?_
  refine .gp rfl rfl rfl (by assumption) (zR (tm rfl) (zI 0)) ?_
  iterate 4 refine AX ?_
  refine AWP.cx rfl (fun hc10 => ?_) (fun hc10 => ?_)
  ·iterate 9 refine AX ?_
   refine ⟨?_, rfl⟩
   simp only [yI, yD]
   congr 1
   (repeat' split) <;> first | rfl | omega
  iterate 3 refine AX ?_
  refine .p rfl (zR (tm rfl) (zI 2047)) ?_
  iterate 3 refine AX ?_
  refine AWP.cx rfl (fun hc17 => ?_) (fun hc17 => ?_)
  ·iterate 9 refine AX ?_
   refine ⟨?_, rfl⟩
   simp only [yI, yD]
   congr 1
   (repeat' split) <;> first | rfl | omega
  iterate 3 refine AX ?_
  refine .p rfl (zR (tm rfl) (zI 0)) ?_
  refine AX ?_
  refine zL (t := 23) rfl (fun hg23 => ?_) (fun hg23 => ?_)
  ·have hh23 := hg23; try simp only [aM] at hh23
   refine AX ?_
   refine .gp rfl rfl rfl (by assumption) (zR (tm rfl) (zI 0)) ?_
   iterate 4 refine AX ?_
   refine AWP.cx rfl (fun hc20 => ?_) (fun hc20 => ?_)
   ·iterate 9 refine AX ?_
    refine ⟨?_, rfl⟩
    simp only [yI, yD]
    congr 1
    (repeat' split) <;> first | rfl | omega
   iterate 3 refine AX ?_
   refine .p rfl (zR (tm rfl) (zI 0)) ?_
   iterate 3 refine AX ?_
   refine AWP.cx rfl (fun hc27 => ?_) (fun hc27 => ?_)
   ·iterate 9 refine AX ?_
    refine ⟨?_, rfl⟩
    simp only [yI, yD]
    congr 1
    (repeat' split) <;> first | rfl | omega
   iterate 10 refine AX ?_
   refine ⟨?_, rfl⟩
   simp only [yI, yD]
   congr 1
   (repeat' split) <;> first | rfl | omega
  have hh23 := hg23; try simp only [aL] at hh23
  iterate 6 refine AX ?_
  refine AWP.cond_false (tm rfl) (by rfl) ?_
  iterate 3 refine AX ?_
  refine .p rfl (zR (tm rfl) (zI 0)) ?_
  iterate 3 refine AX ?_
  refine AWP.cx rfl (fun hc27 => ?_) (fun hc27 => ?_)
  ·iterate 9 refine AX ?_
   refine ⟨?_, rfl⟩
   simp only [yI, yD]
   congr 1
   (repeat' split) <;> first | rfl | omega
  iterate 10 refine AX ?_
  refine ⟨?_, rfl⟩
  simp only [yI, yD]
  congr 1
  (repeat' split) <;> first | rfl | omega
 have hh13 := hg13; try simp only [aL] at hh13
 iterate 6 refine AX ?_
 refine AWP.cond_false (tm rfl) (by rfl) ?_
 iterate 3 refine AX ?_
 refine .p rfl (zR (tm rfl) (zI 2047)) ?_
 iterate 3 refine AX ?_
 refine AWP.cx rfl (fun hc17 => ?_) (fun hc17 => ?_)
 ·iterate 9 refine AX ?_
  refine ⟨?_, rfl⟩
  simp only [yI, yD]
  congr 1
  (repeat' split) <;> first | rfl | omega
 iterate 3 refine AX ?_
 refine .p rfl (zR (tm rfl) (zI 0)) ?_
 refine AX ?_
 refine zL (t := 23) rfl (fun hg23 => ?_) (fun hg23 => ?_)
 ·have hh23 := hg23; try simp only [aM] at hh23
  refine AX ?_
  refine .gp rfl rfl rfl (by assumption) (zR (tm rfl) (zI 0)) ?_
  iterate 4 refine AX ?_
  refine AWP.cx rfl (fun hc20 => ?_) (fun hc20 => ?_)
  ·iterate 9 refine AX ?_
   refine ⟨?_, rfl⟩
   simp only [yI, yD]
   congr 1
   (repeat' split) <;> first | rfl | omega
  iterate 3 refine AX ?_
  refine .p rfl (zR (tm rfl) (zI 0)) ?_
  iterate 3 refine AX ?_
  refine AWP.cx rfl (fun hc27 => ?_) (fun hc27 => ?_)
  ·iterate 9 refine AX ?_
   refine ⟨?_, rfl⟩
   simp only [yI, yD]
   congr 1
   (repeat' split) <;> first | rfl | omega
  iterate 10 refine AX ?_
  refine ⟨?_, rfl⟩
  simp only [yI, yD]
  congr 1
  (repeat' split) <;> first | rfl | omega
 have hh23 := hg23; try simp only [aL] at hh23
 iterate 6 refine AX ?_
 refine AWP.cond_false (tm rfl) (by rfl) ?_
 iterate 3 refine AX ?_
 refine .p rfl (zR (tm rfl) (zI 0)) ?_
 iterate 3 refine AX ?_
 refine AWP.cx rfl (fun hc27 => ?_) (fun hc27 => ?_)
 ·iterate 9 refine AX ?_
  refine ⟨?_, rfl⟩
  simp only [yI, yD]
  congr 1
  (repeat' split) <;> first | rfl | omega
 iterate 10 refine AX ?_
 refine ⟨?_, rfl⟩
 simp only [yI, yD]
 congr 1
 (repeat' split) <;> first | rfl | omega

theorem anU (x : Nat) (hx : x < 18446744073709551616) (H : Heap) : ACall Tryz.prog 124 [.int .u64 (x : Int)] H (fun y H' => y = .bool (alR x) ∧ H' = H) := by
 refine ACall.of_body Tryz.func124 rfl Tryz.ntmps124 Tryz.results124 rfl ?_
 iterate 8 refine AX ?_
 refine .p rfl (yS (tm rfl) (zI 9223372036854775808)) ?_
 iterate 5 refine AX ?_
 exact ⟨rfl, rfl⟩

theorem abY (x : Nat) (hx : x < 18446744073709551616) (H : Heap) : ACall Tryz.prog 181 [.int .u64 (x : Int)] H (fun y H' => y = .tuple [.bool (alR x), .int .u64 ((qI x : Nat) : Int), .int .i64 (qF x)] ∧ H' = H) := by
 have hp : (2 : Nat) ^ 52 = 4503599627370496 := by decide
 have hk := aiB x
 have hml := bQ x (by decide : 0 < 4503599627370496)
 have hor := or_one hml
 have hbb := auE (x / 2 ^ 52)
 refine ACall.of_body Tryz.func181 rfl Tryz.ntmps181 Tryz.results181 rfl ?_
 iterate 3 refine AX ?_
 refine .p rfl (zA (zI 0)) ?_
 iterate 6 refine AX ?_
 refine .p rfl (yS (tm rfl) (zI 9223372036854775808)) ?_
 refine AX ?_
 refine .p rfl (aaN (tm rfl) (zI 4503599627370495) (by assumption) (by omega)) ?_
 iterate 6 refine AX ?_
 rw [bdJ]
 iterate 2 refine AX ?_
 refine .cl rfl C89 (evs1 rfl) (aaE _ (by assumption) _) ?_
 iterate 3 refine AX ?_
 refine AWP.seqToL [(13, .bool (decide (yD x ≤ 1)))] [0, 2, 3, 4, 5, 6, 12] ?_ ?_
 ·iterate 6 refine AX ?_
  refine AWP.cx rfl (fun hc13 => ?_) (fun hc13 => ?_)
  ·refine AX ?_
   exact ⟨rfl, (zX rfl (by congr 1; symm; first | (exact bH (by omega)) | (by_cases h : yD x ≤ 1 <;> simp [h] <;> omega)) sX), rfl⟩
  iterate 4 refine AX ?_
  exact ⟨rfl, (zX rfl (by congr 1; symm; first | (exact bH (by omega)) | (by_cases h : yD x ≤ 1 <;> simp [h] <;> omega)) sX), rfl⟩
 refine AWP.sub [(13, _), (0, _), (2, _), (3, _), (4, _), (5, _), (6, _), (12, _)] sX ?_
 refine AWP.cx rfl (fun hc13 => ?_) (fun hc13 => ?_)
 ·iterate 13 refine AX ?_
  refine ⟨?_, rfl⟩
  simp only [yI, qI, qF]
  rw [aO (by omega), aO (by omega)] <;> rfl
 iterate 6 refine AX ?_
 refine AWP.cx rfl (fun hc18 => ?_) (fun hc18 => ?_)
 ·iterate 4 refine AX ?_
  refine .p rfl (abC (zI 4503599627370496) (tm rfl) (by omega) (by omega)) ?_
  refine AX ?_
  refine .p rfl (yF (tm rfl) (zI 52) (by assumption)) (.p rfl (aaN (tm rfl) (zI 2047) (by omega) (by omega)) ?_)
  iterate 11 refine AX ?_
  refine ⟨?_, rfl⟩
  simp only [yI, qI, qF]
  rw [aN (by omega), aO (by omega), aN (by omega), aO (by omega), hor, auE, hp] <;> rfl
 iterate 7 refine AX ?_
 refine .p rfl (zA (zI 0)) ?_
 iterate 5 refine AX ?_
 refine ⟨?_, rfl⟩
 simp only [yI, qI, qF]
 rw [aN (by omega), aN (by omega), aN (by omega), aN (by omega)] <;> rfl

theorem avM (x : Nat) (hx : x < 18446744073709551616) (H : Heap) : ACall Tryz.prog 129 [.int .u64 (x : Int)] H (fun y H' => y = .tuple [.bool (alR x), .int .u64 ((qI x : Nat) : Int), .int .i64 (qF x)] ∧ H' = H) := by
 have hp : (2 : Nat) ^ 52 = 4503599627370496 := by decide
 have hk := aiB x
 refine ACall.of_body Tryz.func129 rfl Tryz.ntmps129 Tryz.results129 rfl ?_
 iterate 3 refine AX ?_
 refine .p rfl (zA (zI 0)) ?_
 iterate 7 refine AX ?_
 refine .cl rfl C25 (evs1 rfl) (agM _ (by assumption) _) ?_
 iterate 3 refine AX ?_
 refine AWP.seqToL [(7, .bool (decide (yD x ≤ 1)))] [0, 2, 3, 4, 6] ?_ ?_
 ·iterate 6 refine AX ?_
  refine AWP.cx rfl (fun hc7 => ?_) (fun hc7 => ?_)
  ·refine AX ?_
   exact ⟨rfl, (zX rfl (by congr 1; symm; first | (exact bH (by omega)) | (by_cases h : yD x ≤ 1 <;> simp [h] <;> omega)) sX), rfl⟩
  iterate 4 refine AX ?_
  exact ⟨rfl, (zX rfl (by congr 1; symm; first | (exact bH (by omega)) | (by_cases h : yD x ≤ 1 <;> simp [h] <;> omega)) sX), rfl⟩
 refine AWP.sub [(7, _), (0, _), (2, _), (3, _), (4, _), (6, _)] sX ?_
 refine AWP.cx rfl (fun hc7 => ?_) (fun hc7 => ?_)
 ·iterate 3 refine AX ?_
  refine .cl rfl Tryz.call124 (evs1 rfl) (anU _ (by assumption) _) ?_
  refine AX ?_
  refine .p rfl (qY (tm rfl) (zI 4503599627370496) (by omega)) ?_
  iterate 9 refine AX ?_
  refine ⟨?_, rfl⟩
  simp only [yI, qI, qF]
  rw [aO (by omega), aO (by omega)] <;> rfl
 iterate 6 refine AX ?_
 refine AWP.cx rfl (fun hc14 => ?_) (fun hc14 => ?_)
 ·iterate 3 refine AX ?_
  refine .cl rfl Tryz.call124 (evs1 rfl) (anU _ (by assumption) _) ?_
  refine AX ?_
  refine .p rfl (qY (tm rfl) (zI 4503599627370496) (by omega)) (.p rfl (yR (zI 4503599627370496) (tm rfl) (by omega)) ?_)
  refine AX ?_
  refine .p rfl (yF (tm rfl) (zI 52) (by assumption)) (.p rfl (qY (tm rfl) (zI 2048) (by omega)) ?_)
  iterate 11 refine AX ?_
  refine ⟨?_, rfl⟩
  simp only [yI, qI, qF]
  rw [aN (by omega), aO (by omega), aN (by omega), aO (by omega), hp] <;> rfl
 iterate 6 refine AX ?_
 refine .cl rfl Tryz.call124 (evs1 rfl) (anU _ (by assumption) _) ?_
 refine AX ?_
 refine .p rfl (zA (zI 0)) ?_
 iterate 5 refine AX ?_
 refine ⟨?_, rfl⟩
 simp only [yI, qI, qF]
 rw [aN (by omega), aN (by omega), aN (by omega), aN (by omega)] <;> rfl

end
end Go.Proofs.YtmmgbnolccpjoaaGreatDoor
