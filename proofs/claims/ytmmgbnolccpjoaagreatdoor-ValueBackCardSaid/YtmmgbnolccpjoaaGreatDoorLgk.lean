import Derived.Test.YtmmgbnolccpjoaaGreatDoorX2
namespace Go.Proofs.YtmmgbnolccpjoaaGreatDoor
open Go Go.RowKit
set_option maxRecDepth 100000

variable {i : Nat}
theorem zr29 : ZR 29 [.str [], .str [], .str [], .str [], .str [], .str [], .str [], .bool false, .bool false, .slice 1 [] .full] := ZRi Tryz.zeroValue29 rfl fun g => by repeat first | exact .nil | refine .cons (.bool _) ?_ | refine .cons (.ptr _) ?_ | refine .cons (.str [] (Nat.zero_le _)) ?_ | refine .cons (.nilSlice _ _) ?_
theorem pl29 : PL 29 [(0, 1), (1, 1), (2, 1), (3, 1), (4, 1), (5, 1), (6, 1), (7, 1), (8, 1), (9, 1)] := PLi U29
theorem zr31 : ZR 31 [.str [], .str [], .str [], .str [], .str [], .str [], .str [], .bool false, .bool false, .int .i64 0] := ZRi Tryz.zeroValue31
theorem pl31 : PL 31 [(0, 1), (1, 1), (2, 1), (3, 1), (4, 1), (5, 1), (6, 1), (7, 1), (8, 1), (9, 1)] := PLi U31

theorem bcS {W : World} (h : Inv W) {n : Nat} {d : DataW Unit} {xs : List Value} (hn : (n, d) ∈ aoN) (hx : afB 4 d = some xs) {v : Value} (hi : xs[i]? = some v) : W.cell? ⟨n, i, none⟩ = some v := by
 obtain ⟨T, fz, hh⟩ := h.rows n d hn xs hx
 unfold World.cell?
 rw [hh]
 simpa using hi
def strV (l : List UInt8) : Value := .string ⟨l.toArray⟩
def namesL : List (List UInt8) := [[99, 104], [100, 101], [101, 110], [102, 114], [104, 105], [115, 118]]
def signsL : List (List UInt8) := [[46], [226, 128, 153], [59], [45], [67, 72, 70], [44], [46], [59], [45], [226, 130, 172], [46], [44], [44], [45], [36], [44], [226, 128, 175], [59], [45], [226, 130, 172], [46], [44], [44], [45], [226, 130, 185], [44], [194, 160], [59], [226, 136, 146], [107, 114]]
theorem bgK : afB 4 Rows.laid_tabard_locale_names = some (namesL.map strV) := by kernel_rfl
theorem bgJ : afB 4 Rows.laid_tabard_locale_signs = some (signsL.map strV) := by kernel_rfl
def alS (i : Nat) : List UInt8 := namesL.getD i []
def alF (i : Nat) : List UInt8 := signsL.getD i []
theorem bkU {l : List (List UInt8)} (h : i < l.length) : (l.map strV)[i]? = some (strV (l.getD i [])) := by
 rw [dW, aP, bF h]; rfl
theorem ayH : ∀ i, (alS i).length ≤ maxLen := fun i => by
 have : ∀ l ∈ namesL, l.length ≤ 10 := by decide
 unfold alS
 rw [aP, zW]
 cases h : namesL[i]? with
 | none => simp
 | some l => have := this l (eW h); simp only [eB]; omega
theorem ayF : ∀ i, (alF i).length ≤ maxLen := fun i => by
 have : ∀ l ∈ signsL, l.length ≤ 10 := by decide
 unfold alF
 rw [aP, zW]
 cases h : signsL[i]? with
 | none => simp
 | some l => have := this l (eW h); simp only [eB]; omega
theorem inv_name (hi : i < 6) : ∀ W, Inv W → ∃ v, W.cell? ⟨0, 0 + ((i : Nat) : Int).toNat * 1, none⟩ = some v ∧ ∀ g, RelV g (.str (alS i)) v := by
 intro W h
 rw [show 0 + ((i : Nat) : Int).toNat * 1 = i by omega]
 exact ⟨_, bcS h (by simp [aoN]) bgK (bkU (by simpa [namesL] using hi)), fun g => .str _ (ayH i)⟩
theorem ajW (hi : i < 6) (j : Nat) (hj : j < 5) (o : Nat) (ho : o = i * 5 + j) : ∀ W, Inv W → ∃ v, W.cell? ⟨1, o, none⟩ = some v ∧ ∀ g, RelV g (.str (alF (i * 5 + j))) v := by
 intro W h
 subst ho
 exact ⟨_, bcS h (by simp [aoN]) bgJ (bkU (by simp [signsL]; omega)), fun g => .str _ (ayF _)⟩
structure FLoc where
 name : List UInt8
 dec : List UInt8
 grp : List UInt8
 lst : List UInt8
 minus : List UInt8
 pct : List UInt8
 cur : List UInt8
 first : Bool
 space : Bool
 sizes : List Int
def FLoc.cs (l : FLoc) : List AV := [.str l.name, .str l.dec, .str l.grp, .str l.lst, .str l.minus, .str l.pct, .str l.cur, .bool l.first, .bool l.space, .slice 1 (l.sizes.map (.int .i64)) .full]
def FLoc.none : FLoc := ⟨[], [], [], [], [], [], [], false, false, []⟩
def blF (i : Nat) (s : List UInt8) : FLoc :=
 ⟨s, alF (i * 5), alF (i * 5 + 1), alF (i * 5 + 2), alF (i * 5 + 3), [37], alF (i * 5 + 4), decide (s = [99, 104]) || (decide (s = [104, 105]) || decide (s = [101, 110])), !(decide (s = [104, 105]) || decide (s = [101, 110])), if s = [104, 105] then [3, 2] else [3]⟩
def apZ (s : List UInt8) : Option Nat := (List.range 6).find? fun i => decide (alS i = s)
theorem aiF {s : List UInt8} (hi : i < 6) (h : alS i = s) (hl : ∀ j, j < i → alS j ≠ s) : apZ s = some i := by
 unfold apZ
 rw [List.find?_eq_some_iff_append]
 refine ⟨by simp [h], List.range i, (List.range' (i + 1) (5 - i)), ?_, fun j hj => by simpa using hl j (by simpa using hj)⟩
 have : i = 0 ∨ i = 1 ∨ i = 2 ∨ i = 3 ∨ i = 4 ∨ i = 5 := by omega
 rcases this with rfl | rfl | rfl | rfl | rfl | rfl <;> rfl
theorem bgM {s : List UInt8} (hl : ∀ j, j < 6 → alS j ≠ s) : apZ s = none := by
 unfold apZ
 rw [List.find?_eq_none]
 intro j hj
 simpa using hl j (by simpa using hj)
def agS (s : List UInt8) : FLoc × Int := match apZ s with | some i => (blF i s, 0) | none => (FLoc.none, 8)
def locs : List Loc := [⟨[99, 104], [46], [226, 128, 153], [59], [45], [37], [67, 72, 70], true, true, 3⟩, ⟨[100, 101], [44], [46], [59], [45], [37], [226, 130, 172], false, true, 3⟩, ⟨[101, 110], [46], [44], [44], [45], [37], [36], true, false, 3⟩,
  ⟨[102, 114], [44], [226, 128, 175], [59], [45], [37], [226, 130, 172], false, true, 3⟩, ⟨[104, 105], [46], [44], [44], [45], [37], [226, 130, 185], true, false, 2⟩, ⟨[115, 118], [44], [194, 160], [59], [226, 136, 146], [37], [107, 114], false, true, 3⟩]
def szA (l : Loc) : AV := .slice 1 ((if l.second = 2 then [3, 2] else [3] : List Int).map (.int .i64)) .full
theorem abG : ∀ l ∈ locs, l.ok := by
 intro l hl
 simp only [locs, cQ, fL, or_false] at hl
 rcases hl with rfl | rfl | rfl | rfl | rfl | rfl <;> (unfold Loc.ok; simp)
theorem bmA : ∀ l ∈ locs, (.agg (agS l.name).1.cs : AV) = pL l (szA l) ∧ (agS l.name).2 = 0 := by
 intro l hl
 simp only [locs, cQ, fL, or_false] at hl
 rcases hl with rfl | rfl | rfl | rfl | rfl | rfl <;> exact ⟨rfl, rfl⟩

def find_J (s : List UInt8) (b2 : Nat) (H : Heap) : Nat → Env → Heap → Prop := fun k env H1 => ∃ i : Nat, i ≤ 6 ∧ (∀ j, j < i → alS j ≠ s) ∧ env = [(0, .str s), (2, .ptr (some ⟨b2, 0, none⟩)), (6, .int .i64 i)] ∧ H1 = H.set b2 (.box 29 [.str [], .str [], .str [], .str [], .str [], .str [], .str [], .bool false, .bool false, .slice 1 [] .full]) ∧ k = 6 - i

theorem bhS (s : List UInt8) (H : Heap) : ACall Tryz.prog 31 [.str s] H (fun y H' => y = .tuple [.agg (agS s).1.cs, .int .i64 (agS s).2] ∧ H' = H) := by
 refine ACall.of_body Tryz.func31 rfl Tryz.ntmps31 Tryz.results31 rfl ?_
 refine .sr ?_
 refine .al zr29 (fun b2 hb2 => ?_)
 refine .p rfl (zA zE) (.ng (.seq (.sr (.p rfl (zJ zE) (.ng (.block ?_))))))
 refine AWP.loopW (find_J s b2 H) (6) ⟨0, Nat.zero_le _, fun j h => absurd h (Nat.not_lt_zero _), rfl, rfl, rfl⟩ (zC rfl (zC rfl (zC rfl zU))) (hRa _) ?_
 rintro _ _ _ ⟨i, hi, hl, rfl, rfl, rfl⟩
 refine .sr (.p rfl (yN (tm rfl) zE) (.ng (.seq ?_)))
 refine AWP.cond (tm rfl) (fun hc7 => ?_) (fun hc7 => ?_)
 ·try simp only [aM] at hc7
  have hi6 : i < 6 := by omega
  refine .skip ?_
  refine Next.go ?_
  refine .seq (.block (.sr (.mv rfl rfl (.as rfl rfl (.ng (.seq (.sr (.mv rfl rfl ?_))))))))
  refine .p rfl (aaD Tryz.underlying117 Z9 (.global _) (tm rfl) (by omega) (by omega)) (.e rfl (aeD G9 (tm rfl) (inv_name hi6)) (.mv rfl rfl (.p rfl (qO (tm rfl) (tm rfl)) (.ng ?_))))
  refine AWP.cond (tm rfl) (fun hc13 => ?_) (fun hc13 => ?_)
  ·try simp only [aL, cK] at hc13
   refine .exit ?_
   refine Next.ex ?_
   refine Block.hit ?_
   refine Next.go ?_
   refine .region (.p rfl (yT (tm rfl) zE (by omega)) (.mv rfl rfl (.ng ?_)))
   refine Round.mk (J := find_J s b2 H) ⟨i + 1, by omega, fun j hj => by rcases bZ j i with h | h; exact hl j h; rw [show j = i by omega]; exact hc13, rfl, rfl, rfl⟩ (zC rfl (zC rfl (zC rfl zU))) (hRa _) (by omega)
  try simp only [aM, cJ] at hc13
  refine .skip ?_
  refine Next.go ?_
  refine .seq ?_
  refine AWP.draw [(0, true), (1, true), (2, true), (3, true), (4, true), (5, true), (6, true), (7, true), (8, true), (9, true), (10, true), (11, true), (12, true), (13, true), (14, true), (15, true), (16, true), (17, true), (18, true), (19, true), (20, true), (21, true), (22, true), (23, false), (24, false)] rfl (by decide +kernel) ?_
  refine .p rfl rfl (zJ (tm rfl)) (.p rfl rfl (zJ (tm rfl)) (.p rfl rfl (aaD U119 Z118 (.global _) (tm rfl) (by omega) (by omega)) (.p rfl rfl (aaD U118 Z9 (tm rfl) zE (by omega) (by omega)) ?_)))
  refine APlan.f rfl rfl (fun _ => aeD G9 (tm rfl) (ajW hi6 0 (by decide) _ (by omega))) ?_
  refine .p rfl rfl (zJ (tm rfl)) (.p rfl rfl (aaD U119 Z118 (.global _) (tm rfl) (by omega) (by omega)) (.p rfl rfl (aaD U118 Z9 (tm rfl) zE (by omega) (by omega)) ?_))
  refine APlan.f rfl rfl (fun _ => aeD G9 (tm rfl) (ajW hi6 1 (by decide) _ (by omega))) ?_
  refine .p rfl rfl (zJ (tm rfl)) (.p rfl rfl (aaD U119 Z118 (.global _) (tm rfl) (by omega) (by omega)) (.p rfl rfl (aaD U118 Z9 (tm rfl) zE (by omega) (by omega)) ?_))
  refine APlan.f rfl rfl (fun _ => aeD G9 (tm rfl) (ajW hi6 2 (by decide) _ (by omega))) ?_
  refine .p rfl rfl (zJ (tm rfl)) (.p rfl rfl (aaD U119 Z118 (.global _) (tm rfl) (by omega) (by omega)) (.p rfl rfl (aaD U118 Z9 (tm rfl) zE (by omega) (by omega)) ?_))
  refine APlan.f rfl rfl (fun _ => aeD G9 (tm rfl) (ajW hi6 3 (by decide) _ (by omega))) ?_
  refine .p rfl rfl (zJ (tm rfl)) (.p rfl rfl (aaD U119 Z118 (.global _) (tm rfl) (by omega) (by omega)) (.p rfl rfl (aaD U118 Z9 (tm rfl) zE (by omega) (by omega)) ?_))
  refine APlan.f rfl rfl (fun _ => aeD G9 (tm rfl) (ajW hi6 4 (by decide) _ (by omega))) ?_
  refine APlan.f rfl rfl (fun _ => aaF U27 Z3 Tryz.zeroValue3 rfl zE (.inl rfl) ⟨rfl, rfl⟩) ?_
  refine .p rfl rfl (agP zr29 pl29 (.cons (tm rfl) (.inl rfl) (.cons (tm rfl) (.inl rfl) (.cons (tm rfl) (.inl rfl) (.cons (tm rfl) (.inl rfl) (.cons (tm rfl) (.inl rfl) (.cons (zS rfl) (.inl rfl) (.cons (tm rfl) (.inl rfl) (.cons zM (.inl rfl) (.cons zM (.inl rfl) (.cons (tm rfl) (.inl rfl) .nil)))))))))) rfl rfl) ?_
  refine .s rfl rfl (agJ zr29) ?_
  rintro _ _ ⟨b5, hb5, rfl, hH⟩
  obtain rfl := hH.symm
  have hn2_5 := Heap.ne_of (oS _ _ _) hb5
  refine .s0 rfl (zG Z29 (tm rfl) (tm rfl) rfl rfl (.inr ⟨_, rfl⟩) (oS _ _ _) (lB rfl)) ?_
  rintro _ _ ⟨rfl, hH⟩
  obtain rfl := hH.symm
  try first | rw [sS] | rw [sU (by assumption)]
  refine .nil ?_
  refine Next.go ?_
  refine .seq (.sr (.mv rfl rfl (.ng (.block (.seq (.block (.seq (.block ?_))))))))
  refine .seq (.block (.seq (.seq (.sr (.p rfl (yM (tm rfl) (zS rfl)) (.as rfl rfl (.ng ?_)))))))
  refine AWP.cond (tm rfl) (fun hc38 => ?_) (fun hc38 => ?_)
  ·try simp only [aM] at hc38
   refine .exit ?_
   refine Next.ex ?_
   refine Next.ex ?_
   refine Block.hit ?_
   refine Next.go ?_
   refine .sr (.p rfl (zV U29 rfl Z4 (tm rfl)) (.e0 (zG Z4 (tm rfl) zM rfl rfl (.inl rfl) (oS _ _ _) (lB rfl)) ?_))
   try first | rw [sS] | rw [sU (by assumption)]
   refine .ng (.exit ?_)
   refine Block.miss rfl ?_
   refine Next.ex ?_
   refine Block.miss rfl ?_
   refine Next.ex ?_
   refine Block.hit ?_
   refine Next.go ?_
   refine .sr (.e rfl (yW G29 Z29 (tm rfl) (oS _ _ _) (lB rfl)) (.e0 (zG Z29 (tm rfl) (tm rfl) rfl rfl (.inr ⟨_, rfl⟩) ((oN _ _ (by assumption)).trans (oS _ _ _)) (lB rfl)) ?_))
   try first | rw [sS] | rw [sU (by assumption)]
   refine .p rfl (zA zE) (.ng ?_)
   refine AWP.dropb (fS hb5 _) ?_
   refine AWP.frz (t := 2) rfl (hb2) ?_
   refine .ret ?_
   refine Block.rt ?_
   refine Next.rt ?_
   refine Next.rt ?_
   refine Block.rt ?_
   refine Next.rt ?_
   refine Ret.go (.cons (.cellI _ _ _ _ rfl G29 Z29 rfl) (.cons (.tmp _ _ rfl) .nil)) _ (hRa _) ?_
   refine ⟨?_, rfl⟩
   have hf : apZ s = some i := aiF hi6 hc13 hl
   simp only [yI, agS, hf]
   simp_all [blF, FLoc.cs]
   all_goals rfl
  try simp only [aL] at hc38
  refine .skip ?_
  refine Next.go ?_
  refine .seq (.sr (.p rfl (yM (tm rfl) (zS rfl)) (.as rfl rfl (.ng ?_))))
  refine AWP.cond (tm rfl) (fun hc40 => ?_) (fun hc40 => ?_)
  ·try simp only [aM] at hc40
   refine .exit ?_
   refine Next.ex ?_
   refine Next.ex ?_
   refine Block.miss rfl ?_
   refine Next.ex ?_
   refine Block.hit ?_
   refine Next.go ?_
   refine .region (.e rfl (agI U27 Z3 Tryz.zeroValue3 rfl zE (.inl rfl) ⟨rfl, rfl⟩ zE (.inl rfl) ⟨rfl, rfl⟩) (.p rfl (zV U29 rfl Z27 (tm rfl)) (.e0 (zG Z27 (tm rfl) (tm rfl) rfl rfl (.inl rfl) (oS _ _ _) (lB rfl)) ?_)))
   try first | rw [sS] | rw [sU (by assumption)]
   refine .nil ?_
   refine Block.go ?_
   refine Next.go ?_
   refine .sr (.p rfl (zV U29 rfl Z4 (tm rfl)) (.e0 (zG Z4 (tm rfl) zM rfl rfl (.inl rfl) (oS _ _ _) (lB rfl)) ?_))
   try first | rw [sS] | rw [sU (by assumption)]
   refine .p rfl (zV U29 rfl Z4 (tm rfl)) (.e0 (zG Z4 (tm rfl) zM rfl rfl (.inl rfl) (oS _ _ _) (lB rfl)) ?_)
   try first | rw [sS] | rw [sU (by assumption)]
   refine .ng (.exit ?_)
   refine Block.hit ?_
   refine Next.go ?_
   refine .sr (.e rfl (yW G29 Z29 (tm rfl) (oS _ _ _) (lB rfl)) (.e0 (zG Z29 (tm rfl) (tm rfl) rfl rfl (.inr ⟨_, rfl⟩) ((oN _ _ (by assumption)).trans (oS _ _ _)) (lB rfl)) ?_))
   try first | rw [sS] | rw [sU (by assumption)]
   refine .p rfl (zA zE) (.ng ?_)
   refine AWP.dropb (fS hb5 _) ?_
   refine AWP.frz (t := 2) rfl (hb2) ?_
   refine .ret ?_
   refine Block.rt ?_
   refine Next.rt ?_
   refine Next.rt ?_
   refine Block.rt ?_
   refine Next.rt ?_
   refine Ret.go (.cons (.cellI _ _ _ _ rfl G29 Z29 rfl) (.cons (.tmp _ _ rfl) .nil)) _ (hRa _) ?_
   refine ⟨?_, rfl⟩
   have hf : apZ s = some i := aiF hi6 hc13 hl
   simp only [yI, agS, hf]
   simp_all [blF, FLoc.cs]
   all_goals rfl
  try simp only [aL] at hc40
  refine .skip ?_
  refine Next.go ?_
  refine .sr (.p rfl (yM (tm rfl) (zS rfl)) (.as rfl rfl (.ng ?_)))
  refine AWP.cond (tm rfl) (fun hc42 => ?_) (fun hc42 => ?_)
  ·try simp only [aM] at hc42
   refine .exit ?_
   refine Next.ex ?_
   refine Block.miss rfl ?_
   refine Next.ex ?_
   refine Block.miss rfl ?_
   refine Next.ex ?_
   refine Block.hit ?_
   refine Next.go ?_
   refine .sr (.p rfl (zV U29 rfl Z4 (tm rfl)) (.e0 (zG Z4 (tm rfl) zM rfl rfl (.inl rfl) (oS _ _ _) (lB rfl)) ?_))
   try first | rw [sS] | rw [sU (by assumption)]
   refine .p rfl (zV U29 rfl Z4 (tm rfl)) (.e0 (zG Z4 (tm rfl) zM rfl rfl (.inl rfl) (oS _ _ _) (lB rfl)) ?_)
   try first | rw [sS] | rw [sU (by assumption)]
   refine .ng (.exit ?_)
   refine Block.hit ?_
   refine Next.go ?_
   refine .sr (.e rfl (yW G29 Z29 (tm rfl) (oS _ _ _) (lB rfl)) (.e0 (zG Z29 (tm rfl) (tm rfl) rfl rfl (.inr ⟨_, rfl⟩) ((oN _ _ (by assumption)).trans (oS _ _ _)) (lB rfl)) ?_))
   try first | rw [sS] | rw [sU (by assumption)]
   refine .p rfl (zA zE) (.ng ?_)
   refine AWP.dropb (fS hb5 _) ?_
   refine AWP.frz (t := 2) rfl (hb2) ?_
   refine .ret ?_
   refine Block.rt ?_
   refine Next.rt ?_
   refine Next.rt ?_
   refine Block.rt ?_
   refine Next.rt ?_
   refine Ret.go (.cons (.cellI _ _ _ _ rfl G29 Z29 rfl) (.cons (.tmp _ _ rfl) .nil)) _ (hRa _) ?_
   refine ⟨?_, rfl⟩
   have hf : apZ s = some i := aiF hi6 hc13 hl
   simp only [yI, agS, hf]
   simp_all [blF, FLoc.cs]
   all_goals rfl
  try simp only [aL] at hc42
  refine .skip ?_
  refine Next.go ?_
  refine .exit ?_
  refine Block.miss rfl ?_
  refine Next.ex ?_
  refine Block.miss rfl ?_
  refine Next.ex ?_
  refine Block.miss rfl ?_
  refine Next.ex ?_
  refine Block.hit ?_
  refine Next.go ?_
  refine .sr (.e rfl (yW G29 Z29 (tm rfl) (oS _ _ _) (lB rfl)) (.e0 (zG Z29 (tm rfl) (tm rfl) rfl rfl (.inr ⟨_, rfl⟩) ((oN _ _ (by assumption)).trans (oS _ _ _)) (lB rfl)) ?_))
  try first | rw [sS] | rw [sU (by assumption)]
  refine .p rfl (zA zE) (.ng ?_)
  refine AWP.dropb (fS hb5 _) ?_
  refine AWP.frz (t := 2) rfl (hb2) ?_
  refine .ret ?_
  refine Block.rt ?_
  refine Next.rt ?_
  refine Next.rt ?_
  refine Block.rt ?_
  refine Next.rt ?_
  refine Ret.go (.cons (.cellI _ _ _ _ rfl G29 Z29 rfl) (.cons (.tmp _ _ rfl) .nil)) _ (hRa _) ?_
  refine ⟨?_, rfl⟩
  have hf : apZ s = some i := aiF hi6 hc13 hl
  simp only [yI, agS, hf]
  simp_all [blF, FLoc.cs]
  all_goals rfl
 try simp only [aL, bN] at hc7
 refine .exit ?_
 refine Next.ex ?_
 refine Next.ex ?_
 refine Block.hit ?_
 refine Next.go ?_
 refine .sr (.p rfl (yK zr29 pl29 .nil rfl) (.e0 (zG Z29 (tm rfl) (tm rfl) rfl rfl (.inr ⟨_, rfl⟩) (oS _ _ _) (lB rfl)) ?_))
 try first | rw [sS] | rw [sU (by assumption)]
 refine .p rfl (zA zE) (.ng ?_)
 refine AWP.frz (t := 2) rfl (hb2) ?_
 refine .ret ?_
 refine Ret.go (.cons (.cellI _ _ _ _ rfl G29 Z29 rfl) (.cons (.tmp _ _ rfl) .nil)) _ (hRa _) ?_
 refine ⟨?_, rfl⟩
 have hf : apZ s = none := bgM fun j hj => hl j (by omega)
 simp only [yI, agS, hf]
 rfl

theorem arR {l : Loc} (hl : l ∈ locs) (H : Heap) : ACall Tryz.prog 31 [.str l.name] H (fun y H' => y = .tuple [pL l (szA l), .int .i64 0] ∧ H' = H) := by
 have h := bhS l.name H
 obtain ⟨h1, h2⟩ := bmA l hl
 rw [h1, h2] at h
 exact h

theorem bnQ (H : Heap) : ACall Tryz.prog 36 [] H (fun y H' => y = .slice 10 (locs.map rL) .full ∧ H' = H) := by
 refine ACall.of_body Tryz.func36 rfl Tryz.ntmps36 Tryz.results36 rfl ?_
 refine .sr ?_
 refine .p rfl (zA (qK (sz := 10) (tl := .full))) ?_
 refine .nr ?_
 refine .p rfl (agP zr31 pl31 (.cons (zS rfl) (.inl rfl) (.cons (zS rfl) (.inl rfl) (.cons (zS rfl) (.inl rfl) (.cons (zS rfl) (.inl rfl) (.cons (zS rfl) (.inl rfl) (.cons (zS rfl) (.inl rfl) (.cons (zS rfl) (.inl rfl) (.cons zM (.inl rfl) (.cons zM (.inl rfl) (.cons zE (.inl rfl) .nil)))))))))) rfl rfl) ?_
 refine .p rfl (agP zr31 pl31 (.cons (zS rfl) (.inl rfl) (.cons (zS rfl) (.inl rfl) (.cons (zS rfl) (.inl rfl) (.cons (zS rfl) (.inl rfl) (.cons (zS rfl) (.inl rfl) (.cons (zS rfl) (.inl rfl) (.cons (zS rfl) (.inl rfl) (.cons zM (.inl rfl) (.cons zM (.inl rfl) (.cons zE (.inl rfl) .nil)))))))))) rfl rfl) ?_
 refine .p rfl (agP zr31 pl31 (.cons (zS rfl) (.inl rfl) (.cons (zS rfl) (.inl rfl) (.cons (zS rfl) (.inl rfl) (.cons (zS rfl) (.inl rfl) (.cons (zS rfl) (.inl rfl) (.cons (zS rfl) (.inl rfl) (.cons (zS rfl) (.inl rfl) (.cons zM (.inl rfl) (.cons zM (.inl rfl) (.cons zE (.inl rfl) .nil)))))))))) rfl rfl) ?_
 refine .p rfl (agP zr31 pl31 (.cons (zS rfl) (.inl rfl) (.cons (zS rfl) (.inl rfl) (.cons (zS rfl) (.inl rfl) (.cons (zS rfl) (.inl rfl) (.cons (zS rfl) (.inl rfl) (.cons (zS rfl) (.inl rfl) (.cons (zS rfl) (.inl rfl) (.cons zM (.inl rfl) (.cons zM (.inl rfl) (.cons zE (.inl rfl) .nil)))))))))) rfl rfl) ?_
 refine .p rfl (agP zr31 pl31 (.cons (zS rfl) (.inl rfl) (.cons (zS rfl) (.inl rfl) (.cons (zS rfl) (.inl rfl) (.cons (zS rfl) (.inl rfl) (.cons (zS rfl) (.inl rfl) (.cons (zS rfl) (.inl rfl) (.cons (zS rfl) (.inl rfl) (.cons zM (.inl rfl) (.cons zM (.inl rfl) (.cons zE (.inl rfl) .nil)))))))))) rfl rfl) ?_
 refine .p rfl (agP zr31 pl31 (.cons (zS rfl) (.inl rfl) (.cons (zS rfl) (.inl rfl) (.cons (zS rfl) (.inl rfl) (.cons (zS rfl) (.inl rfl) (.cons (zS rfl) (.inl rfl) (.cons (zS rfl) (.inl rfl) (.cons (zS rfl) (.inl rfl) (.cons zM (.inl rfl) (.cons zM (.inl rfl) (.cons zE (.inl rfl) .nil)))))))))) rfl rfl) ?_
 refine .e rfl (bbP U69 Z31 Tryz.zeroValue31 rfl rfl rfl (.cons (tm rfl) (.inr ⟨_, rfl⟩) (.cons (tm rfl) (.inr ⟨_, rfl⟩) (.cons (tm rfl) (.inr ⟨_, rfl⟩) (.cons (tm rfl) (.inr ⟨_, rfl⟩) (.cons (tm rfl) (.inr ⟨_, rfl⟩) (.cons (tm rfl) (.inr ⟨_, rfl⟩) .nil)))))) (agY ⟨rfl, rfl⟩ (agY ⟨rfl, rfl⟩ (agY ⟨rfl, rfl⟩ (agY ⟨rfl, rfl⟩ (agY ⟨rfl, rfl⟩ (agY ⟨rfl, rfl⟩ rowq_n))))))) ?_
 refine .as rfl rfl (.ng (.ret ?_))
 refine Ret.go (.cons (.tmp _ _ rfl) .nil) _ (hRa _) ?_
 exact ⟨rfl, rfl⟩

theorem bfL (n : Nat) (hn : 0 < n ∧ n ≤ 100) (c : Int) (hc : -9223372036854775808 ≤ c ∧ c ≤ 9223372036854775807) (H : Heap) : ACall Tryz.prog 24 [.int .i64 c, .int .i64 (n : Int)] H (fun y H' => (∃ k : Nat, k < n ∧ y = .int .i64 (k : Int)) ∧ H' = H) := by
 refine ACall.of_body Tryz.func24 rfl Tryz.ntmps24 Tryz.results24 rfl ?_
 refine .sr (.p rfl (zA zE) (.ng ?_))
 refine AWP.seqToL [(0, .int .i64 (if c < 0 then -(c + 1) else c))] [1, 4] ?_ ?_
 ·refine .sr (.mv rfl rfl (.p rfl (yN (tm rfl) zE) (.ng ?_)))
  refine AWP.cond (tm rfl) (fun hc6 => ?_) (fun hc6 => ?_)
  ·try simp only [aM] at hc6
   refine .region (.mv rfl rfl (.p rfl (yT (tm rfl) zE (by omega)) (.p rfl (abR (tm rfl) (by omega)) (.as rfl rfl (.nil ?_)))))
   exact ⟨rfl, (zX rfl (by (rw [aO (by assumption)]; done)) (zC rfl (zC rfl zU))), rfl⟩
  try simp only [aL, bN] at hc6
  refine .skip ?_
  exact ⟨rfl, (zX rfl (by (rw [aN (by omega)]; done)) (zC rfl (zC rfl zU))), rfl⟩
 refine AWP.sub [(0, _), (1, _), (4, _)] (zC rfl (zC rfl (zC rfl zU))) ?_
 generalize hq : (if c < 0 then -(c + 1) else c) = q
 have hq0 : 0 ≤ q := by rw [← hq]; split <;> omega
 have hm1 := Int.emod_nonneg q (show (n : Int) ≠ 0 by omega)
 have hm2 := Int.emod_lt_of_pos q (show 0 < (n : Int) by omega)
 refine .sr (.mv rfl rfl (.mv rfl rfl (.p rfl (amC (tm rfl) (tm rfl) (by omega)) (.as rfl rfl (.ng (.ret ?_))))))
 refine Ret.go (.cons (.tmp _ _ rfl) .nil) _ (hRa _) ?_
 refine ⟨⟨(q % (n : Int)).toNat, by omega, ?_⟩, rfl⟩
 show AV.int .i64 _ = _
 congr 1
 rw [Int.tmod_eq_emod_of_nonneg hq0]
 omega

theorem azY (c : Int) (hc : -9223372036854775808 ≤ c ∧ c ≤ 9223372036854775807) (H : Heap) : ACall Tryz.prog 10 [.int .i64 c] H (fun y H' => (∃ l, l ∈ locs ∧ y = .tuple [pL l (szA l), rL l]) ∧ H' = H) := by
 refine ACall.of_body Tryz.func10 rfl Tryz.ntmps10 Tryz.results10 rfl ?_
 refine .sr ?_
 refine .al zr29 (fun b2 hb2 => ?_)
 refine .al zr31 (fun b3 hb3 => ?_)
 have hn2_3 := Heap.ne_of (oS _ _ _) hb3
 refine .nr (.cl rfl Tryz.call36 .nil (bnQ _) (.mv rfl rfl (.s rfl (zF Tryz.call24 (.cons (tm rfl) (.cons zE .nil)) (bfL 6 (by decide) c hc _)) ?_)))
 rintro _ _ ⟨⟨k, hk6, rfl⟩, hH⟩
 obtain rfl := hH.symm
 have hkl : k < locs.length := hk6
 have hlm : locs[k] ∈ locs := eJ hkl
 refine .p rfl (agO U69 Z31 (tm rfl) (tm rfl) (by omega) (by omega)) (.p rfl (zQ G31 Z31 (tm rfl) (lB rfl)) ?_)
 refine .al zr31 (fun b4 hb4 => ?_)
 have hn2_4 := Heap.ne_of (oS _ _ _) hb4
 have hn3_4 := Heap.ne_of (oS _ _ _) hb4
 refine .e0 (zG Z31 (tm rfl) (tm rfl) rfl rfl (.inr ⟨_, rfl⟩) (oS _ _ _) (lB rfl)) ?_
 try first | rw [sS] | rw [sU (by assumption)]
 refine .ng ?_
 refine AWP.frz (t := 4) rfl (hb4) ?_
 refine .sr (.p rfl (zD U31 rfl Z9 (tm rfl)) (.p rfl (zH G9 (tm rfl)) (.cl rfl Tryz.call31 (evs1 rfl) (arR hlm _) (.mv rfl rfl (.p rfl (zB (tm rfl) rfl) (.p rfl (zB (tm rfl) rfl) ?_))))))
 refine .al zr29 (fun b5 hb5 => ?_)
 have hn2_5 := Heap.ne_of (oS _ _ _) hb5
 have hn3_5 := Heap.ne_of (oS _ _ _) hb5
 refine .e0 (zG Z29 (tm rfl) (tm rfl) rfl rfl (.inr ⟨_, rfl⟩) (oS _ _ _) (lB rfl)) ?_
 try first | rw [sS] | rw [sU (by assumption)]
 refine .as rfl rfl (.ng ?_)
 refine AWP.frz (t := 5) rfl (hb5) ?_
 refine .seq ?_
 refine AWP.draw [(0, true), (1, true), (2, false), (3, false)] rfl (by decide +kernel) ?_
 refine .p rfl rfl (zQ G29 Z29 (tm rfl) (lB rfl)) (.p rfl rfl (zQ G31 Z31 (tm rfl) (lB rfl)) (.s0 rfl (zG Z29 (tm rfl) (tm rfl) rfl rfl (.inr ⟨_, rfl⟩) ((oN _ _ (by assumption)).trans (oS _ _ _)) (lB rfl)) ?_))
 rintro _ _ ⟨rfl, hH⟩
 obtain rfl := hH.symm
 try first | rw [sS] | rw [sU (by assumption)]
 refine .s0 rfl (zG Z31 (tm rfl) (tm rfl) rfl rfl (.inr ⟨_, rfl⟩) (oS _ _ _) (lB rfl)) ?_
 rintro _ _ ⟨rfl, hH⟩
 obtain rfl := hH.symm
 try first | rw [sS] | rw [sU (by assumption)]
 refine .nil ?_
 refine Next.go ?_
 refine AWP.frz (t := 3) rfl (fS hb3 _) ?_
 refine AWP.frz (t := 2) rfl (hb2) ?_
 refine .ret ?_
 refine Ret.go (.cons (.cellI _ _ _ _ rfl G29 Z29 rfl) (.cons (.cellI _ _ _ _ rfl G31 Z31 rfl) .nil)) _ (hRa _) ?_
 exact ⟨⟨locs[k], hlm, rfl⟩, rfl⟩

end Go.Proofs.YtmmgbnolccpjoaaGreatDoor
