import Derived.Test.YtmmgbnolccpjoaaGreatDoorQ3
import Derived.Test.YtmmgbnolccpjoaaGreatDoorLgk
namespace Go.Proofs.YtmmgbnolccpjoaaGreatDoor
open Go Go.RowKit
variable {l : Loc} {t : List UInt8}
section
set_option maxRecDepth 100000

def litV : AV → Value
 | .int k n => .int k n
 | .bool b => .bool b
 | _ => undef
theorem bdN : Tryz.zeroCells189 = ((aaP fun _ => slotF).map litV).toArray := by kernel_rfl
theorem rel_lits {g : G} : ∀ {cs : List AV}, (∀ c, c ∈ cs → RelV g c (litV c)) → RelCells g cs (cs.map litV).toArray := fun {cs} h => by
 refine ⟨by simp, fun i c v hc hv => ?_⟩
 simp only [List.getElem?_toArray, dW, hc, Option.map_some, Option.some.injEq] at hv
 subst hv
 exact h c (eW hc)
theorem zrR : ∀ g, RelCells g (aaP fun _ => slotF) (Value.cells (Value.agg Tryz.zeroCells189)) := fun g => by
 show RelCells g _ Tryz.zeroCells189
 rw [bdN]
 refine rel_lits fun c hc => ?_
 unfold aaP at hc
 obtain ⟨i, _, hc⟩ := List.mem_flatMap.1 hc
 simp only [slotF, cQ, fL, or_false] at hc
 rcases hc with rfl | rfl | rfl | rfl | rfl | rfl | rfl <;> first | exact .int _ _ | exact .bool _
theorem plR (fs : Array Field) (hfs : Tryz.prog.underlying 189 = some (.struct fs)) : ∀ (i : Nat) f p, fs[i]? = some f → [(0, 5607)][i]? = some p → ∀ w, (sizeOf f.type).run Tryz.prog w = .ok p.2 w := by
 have e := (Option.some.inj (hfs.symm.trans U189))
 cases e
 intro i f p hf hp w
 match i with
 | 0 => cases hf; cases hp; exact Z187 w
 | i + 1 => simp at hp
def arO : Nat → List AV := fun _ => slotF
theorem awO : ROK arO := fun _ => .inl rfl

theorem beU (H : Heap) : ACall Tryz.prog 90 [] H (fun y H' => ∃ b, H.objs b = none ∧ y = .ptr (some ⟨b, 0, none⟩) ∧ H' = H.set b (.box 189 (aaP arO))) := by
 refine ACall.of_body Tryz.func90 rfl Tryz.ntmps90 Tryz.results90 rfl ?_
 refine AWP.seq ?_
 -- region 0
 refine AWP.region ?_
 refine AList.p rfl (zA ajY) ?_
 refine AList.nil ?_
 refine Next.go ?_
 refine AWP.seq ?_
 -- region 1
 refine AWP.region ?_
 refine AList.p rfl (akP [(0, 5607)] U189 Tryz.zeroValue189 zrR rfl (plR _ U189) .nil rfl) ?_
 refine AList.s rfl (alY (.tmp _ _ rfl) (.inr ⟨_, rfl⟩)) ?_
 rintro _ _ ⟨b2, hb2, rfl, hH⟩
 obtain rfl := hH.symm
 refine AList.p rfl (zA (.tmp _ _ rfl)) ?_
 refine AList.nil ?_
 refine Next.go ?_
 refine AWP.ret ?_
 -- ret 0
 refine Ret.go (.cons (.tmp _ _ rfl) .nil) _ (hRa _) ?_
 exact ⟨b2, hb2, rfl, rfl⟩

theorem zr123 : ZR 123 [.str [], .str [], .str [], .str [], .str [], .str [], .str [], .bool false, .bool false, .slice 1 [] .full, .ptr none] := ZRi Tryz.zeroValue123 rfl fun g => by repeat first | exact .nil | refine .cons (.bool _) ?_ | refine .cons (.ptr _) ?_ | refine .cons (.str [] (Nat.zero_le _)) ?_ | refine .cons (.nilSlice _ _) ?_
theorem pl123 : PL 123 [(0, 10), (10, 1)] := PLi U123

def erA (l : Loc) (b : Nat) : AV := .iptr ((pL l (szA l)).cells ++ [.ptr (some ⟨b, 0, none⟩)])

theorem bgU (l : Loc) (H : Heap) : ACall Tryz.prog 37 [pL l (szA l)] H (fun y H' => ∃ b, H.objs b = none ∧ y = erA l b ∧ H' = H.set b (.box 189 (aaP arO))) := by
 refine ACall.of_body Tryz.func37 rfl Tryz.ntmps37 Tryz.results37 rfl ?_
 refine AWP.seq ?_
 -- region 0
 refine AWP.region ?_
 refine AList.s rfl (zZ (.tmp _ _ rfl) (.inr ⟨_, rfl⟩)) ?_
 rintro _ _ ⟨rfl, hH⟩
 obtain rfl := hH.symm
 refine AList.p rfl (zA ajY) ?_
 refine AList.nil ?_
 refine Next.go ?_
 refine AWP.seq ?_
 -- region 1
 refine AWP.draw [(0, true), (1, false), (2, true), (3, true), (4, true)] rfl (by decide +kernel) ?_
 first | (refine APlan.p rfl rfl (zQ G29 Z29 (.tmp _ _ rfl) (lB rfl)) ?_) | (refine APlan.f rfl rfl (fun _ => yW G29 Z29 (.tmp _ _ rfl) (by first | assumption | exact (by assumption : Heap.le _ _).objs _ _ (by assumption) | exact oS _ _ _ | exact (oN _ _ (by assumption)).trans (oS _ _ _) | exact (oN _ _ (by assumption)).trans ((oN _ _ (by assumption)).trans (oS _ _ _)) | exact (oN _ _ (by assumption)).trans (by assumption)) (lB rfl)) ?_)
 refine APlan.s rfl rfl (zF Tryz.call90 .nil (beU _)) ?_
 rintro _ _ ⟨b, hb, rfl, rfl⟩
 refine APlan.p rfl rfl (yK zr123 pl123 (.cons (.tmp _ _ rfl) (.inr ⟨_, rfl⟩) (.cons (.tmp _ _ rfl) (.inl rfl) .nil)) rfl) ?_
 refine APlan.f rfl rfl (fun _ => zZ (.tmp _ _ rfl) (.inr ⟨_, rfl⟩)) ?_
 refine APlan.p rfl rfl (zA (.tmp _ _ rfl)) ?_
 refine APlan.nil ?_
 refine Next.go ?_
 refine AWP.ret ?_
 -- ret 0
 refine Ret.go (.cons (.tmp _ _ rfl) .nil) _ (hRa _) ?_
 exact ⟨b, hb, rfl, rfl⟩

end
section
open Go Go.RowKit
set_option maxRecDepth 100000

def acW (l : Loc) (s : List UInt8) : List UInt8 × Bool :=
 if Lib.hasPrefix s [43] = true then (Lib.trimPrefix s [43], false)
 else if Lib.hasPrefix s [45] = true then (Lib.trimPrefix s [45], true)
 else if Lib.hasPrefix s l.minus = true then (Lib.trimPrefix s l.minus, true)
 else (s, false)
theorem auX (l : Loc) (s : List UInt8) : (acW l s).1.length ≤ s.length := by
 unfold acW
 repeat' split
 all_goals first | exact aeL _ _ | exact aX _
def ajT (l : Loc) : List (List UInt8) := [[45], l.minus]
def bcZ (l : Loc) (s : List UInt8) : Option Int :=
 if (acW l s).1 ≠ [] ∧ asA (acW l s).1 = true ∧ (acW l s).1.length ≤ 9 then some (if (acW l s).2 = true then -(num (acW l s).1 : Int) else (num (acW l s).1 : Int)) else none
theorem bmF {s : List UInt8} {b : Bool} (ht : acW l s = (t, b)) (h : (akC t || decide (9 < (t.length : Int)) || decide (abA adY t.length t ≠ [])) = true) : bcZ l s = none := by
 unfold bcZ
 rw [ht, aN]
 rintro ⟨h1, h2, h3⟩
 have hd := adL.1 h2
 simp only [cV, aM] at h
 rcases h with (h | h) | h
 ·unfold akC at h
  rw [baW h1 hd (by have h4 : t.length ≤ 9 := h3; show t.length ≤ 18; omega)] at h
  cases h
 ·have h4 : t.length ≤ 9 := h3
  omega
 exact h ((aeJ _ _ (aX _)).2 hd)
theorem bmE {s : List UInt8} {b : Bool} (ht : acW l s = (t, b)) (h : (akC t || decide (9 < (t.length : Int)) || decide (abA adY t.length t ≠ [])) = false) : t ≠ [] ∧ Digs t ∧ t.length ≤ 9 ∧ bcZ l s = some (if b = true then -(num t : Int) else (num t : Int)) := by
 simp only [cP, aL, cG] at h
 obtain ⟨⟨h1, h2⟩, h3⟩ := h
 have hd := (aeJ _ _ (aX _)).1 h3
 have hne : t ≠ [] := by
  rintro rfl
  unfold akC at h1
  simp [Lib.atoiAll] at h1
 refine ⟨hne, hd, by omega, ?_⟩
 unfold bcZ
 rw [ht, aO ⟨hne, adL.2 hd, by simp only; omega⟩]
theorem num_9 (hd : Digs t) (hl : t.length ≤ 9) : num t < 1000000000 := bM (afX hd) (aZ (aT (by decide) hl) (by decide))

def sign_J (l : Loc) (b : Nat) (s : List UInt8) (H : Heap) : Nat → Env → Heap → Prop := fun k env H1 => ∃ i : Nat, i ≤ 2 ∧ (∀ j, j < i → Lib.hasPrefix s ((ajT l).getD j []) = false) ∧ env = [(1, .str s), (24, .slice 1 ((ajT l).map .str) .full), (25, .int .i64 2), (26, .int .i64 (i : Int))] ∧ H = H1 ∧ k = 2 - i

theorem aqN (l : Loc) (b : Nat) (s : List UInt8) (H : Heap) : ACall Tryz.prog 95 [erA l b, .str s] H (fun y H' => y = .tuple [.str (acW l s).1, .bool (acW l s).2] ∧ H' = H) := by
 refine ACall.of_body Tryz.func95 rfl Tryz.ntmps95 Tryz.results95 rfl ?_
 refine .sr (.p rfl (zA (zS rfl)) (.p rfl (zA zM) (.ng (.seq (.sr (.mv rfl rfl (.cl rfl C93 (.cons (tm rfl) (.cons (zS rfl) .nil)) (cutPrefixA _ _ _) (.mv rfl rfl ?_))))))))
 refine .p rfl (zB (tm rfl) rfl) (.p rfl (zB (tm rfl) rfl) (.as rfl rfl (.as rfl rfl (.nr (.mv rfl rfl (.ng ?_))))))
 refine AWP.cond (tm rfl) (fun hc17 => ?_) (fun hc17 => ?_)
 ·try simp only [aK] at hc17
  refine .sr (.mv rfl rfl (.as rfl rfl (.p rfl (zA zM) (.ng (.ret ?_)))))
  refine Next.rt ?_
  refine Ret.go (.cons (.tmp _ _ rfl) (.cons (.tmp _ _ rfl) .nil)) _ (hRa _) ?_
  refine ⟨?_, rfl⟩
  unfold acW
  rw [aO hc17]; rfl
 try simp only [aK] at hc17
 refine .skip ?_
 refine Next.go ?_
 refine .seq (.sr (.mv rfl rfl (.p rfl (yZ (tm rfl)) (.p rfl (zD U123 rfl Z29 (tm rfl)) (.p rfl (zD U29 rfl Z9 (tm rfl)) (.p rfl (zH G9 (tm rfl)) (.e rfl (agI U51 Z9 Tryz.zeroValue9 rfl (zS rfl) (.inl rfl) ⟨rfl, rfl⟩ (tm rfl) (.inl rfl) ⟨rfl, rfl⟩) (.p rfl (afV U51 (tm rfl)) ?_))))))))
 refine .p rfl (zJ zE) (.ng (.block ?_))
 refine AWP.loopW (sign_J l b s H) (2) ⟨0, by omega, fun j h => absurd h (Nat.not_lt_zero _), rfl, rfl, rfl⟩ (zC rfl (zC rfl (zC rfl (zC rfl zU)))) (hRa _) ?_
 rintro _ _ _ ⟨i, hi, hp, rfl, rfl, rfl⟩
 refine .sr (.p rfl (yN (tm rfl) (tm rfl)) (.ng (.seq ?_)))
 refine AWP.cond (tm rfl) (fun hc27 => ?_) (fun hc27 => ?_)
 ·try simp only [aM] at hc27
  have hi2 : i < 2 := by omega
  have hil : i < (ajT l).length := hi2
  have hgi : (ajT l)[i] = (ajT l).getD i [] := by rw [aP, bF hil]; rfl
  refine .skip ?_
  refine Next.go ?_
  refine .seq (.block (.sr (.p rfl (agO U51 Z9 (tm rfl) (tm rfl) (by omega) (by omega)) (.p rfl (zH G9 (tm rfl)) (.as rfl rfl (.nr (.mv rfl rfl (.mv rfl rfl ?_))))))))
  refine .cl rfl C93 (evs2 rfl rfl) (cutPrefixA _ _ _) (.mv rfl rfl (.p rfl (zB (tm rfl) rfl) (.p rfl (zB (tm rfl) rfl) (.as rfl rfl (.as rfl rfl (.nr (.mv rfl rfl (.ng ?_))))))))
  refine AWP.cond (tm rfl) (fun hc36 => ?_) (fun hc36 => ?_)
  ·try simp only [aK] at hc36
   refine .sr (.mv rfl rfl (.as rfl rfl (.p rfl (zA zM) (.ng (.ret ?_)))))
   refine Block.rt ?_
   refine Next.rt ?_
   refine Next.rt ?_
   refine Block.rt ?_
   refine Next.rt ?_
   refine Ret.go (.cons (.tmp _ _ rfl) (.cons (.tmp _ _ rfl) .nil)) _ (hRa _) ?_
   refine ⟨?_, rfl⟩
   unfold acW
   rcases (by omega : i = 0 ∨ i = 1) with rfl | rfl
   ·rw [aN (by simp [hc17]), aO (show Lib.hasPrefix s [45] = true from hc36)]; rfl
   rw [aN (by simp [hc17]), aN (by have := hp 0 (by decide); simpa [ajT] using this), aO (show Lib.hasPrefix s l.minus = true from hc36)]; rfl
  try simp only [aK] at hc36
  refine .skip ?_
  refine Block.go ?_
  refine Next.go ?_
  refine .region (.p rfl (yT (tm rfl) zE (by omega)) (.mv rfl rfl (.ng ?_)))
  have hpi : Lib.hasPrefix s ((ajT l).getD i []) = false := by rw [← hgi]; exact hc36
  refine Round.mk (J := sign_J l b s H) ⟨i + 1, by omega, fun j hj => by rcases bZ j i with h | h; exact hp j h; rw [show j = i by omega]; exact hpi, rfl, rfl, rfl⟩ (zC rfl (zC rfl (zC rfl (zC rfl zU)))) (hRa _) (by omega)
 try simp only [aL, bN] at hc27
 refine .exit ?_
 refine Next.ex ?_
 refine Next.ex ?_
 refine Block.hit ?_
 refine Next.go ?_
 refine .sr (.mv rfl rfl (.as rfl rfl (.p rfl (zA zM) (.ng (.ret ?_)))))
 refine Ret.go (.cons (.tmp _ _ rfl) (.cons (.tmp _ _ rfl) .nil)) _ (hRa _) ?_
 refine ⟨?_, rfl⟩
 unfold acW
 have h2 : i = 2 := by omega
 subst h2
 rw [aN (by simp [hc17]), aN (by have := hp 0 (by decide); simpa [ajT] using this), aN (by have := hp 1 (by decide); simpa [ajT] using this)]; rfl

theorem aqA (l : Loc) (b : Nat) (s : List UInt8) (hs : s.length ≤ 2000) (H : Heap) : ACall Tryz.prog 211 [erA l b, .str s] H (fun y H' => y = .tuple [.int .i64 ((bcZ l s).getD 0), .bool (bcZ l s).isSome] ∧ H' = H) := by
 have hsl := auX l s
 obtain ⟨⟨t, m⟩, ht⟩ : ∃ q, acW l s = q := ⟨_, rfl⟩
 rw [ht] at hsl
 have hsl2 : t.length ≤ 2000 := by have : t.length ≤ s.length := hsl; omega
 refine ACall.of_body Tryz.func211 rfl Tryz.ntmps211 Tryz.results211 rfl ?_
 refine .sr (.p rfl (zA zE) (.p rfl (zA zM) (.nr (.mv rfl rfl (.mv rfl rfl ?_)))))
 refine .cl rfl Tryz.call95 (evs2 rfl rfl) ((by have h := aqN l b s; rw [ht] at h; exact h _)) ?_
 refine .mv rfl rfl (.p rfl (zB (tm rfl) rfl) (.p rfl (zB (tm rfl) rfl) (.as rfl rfl (.as rfl rfl (.nr (.mv rfl rfl (.s rfl (zF Tryz.call257 (evs1 rfl) (atoiAny t (by omega) _)) ?_)))))))
 rintro _ _ ⟨⟨v, ev, rfl, hev, hv⟩, hH⟩
 obtain rfl := hH.symm
 refine .mv rfl rfl (.p rfl (zB (tm rfl) rfl) (.p rfl (zB (tm rfl) rfl) (.as rfl rfl (.as rfl rfl (.ng (.seq ?_))))))
 refine AWP.seqTo 31 (.bool (akC t || decide (9 < (t.length : Int)) || decide (abA adY t.length t ≠ []))) [4, 5, 6, 7] ?_ ?_
 ·-- region 3
  refine .region (.mv rfl rfl (.p rfl (bfC Tryz.underlying233 (tm rfl) hev) (.mv rfl rfl ?_)))
  refine zL (t := 22) rfl (fun hg22 => ?_) (fun hg22 => ?_)
  ·refine .gn rfl rfl rfl (by assumption) (.gn rfl rfl rfl (by assumption) (.gn rfl rfl rfl (by assumption) (.p rfl (zO (tm rfl) (by assumption) zM) (.mv rfl rfl (.gn rfl rfl rfl (by rfl) (.gn rfl rfl rfl (by rfl) (.gn rfl rfl rfl (by rfl) (.p rfl (zO (tm rfl) (by rfl) zM) ?_))))))))
   refine .nil ?_
   exact ⟨rfl, zY rfl (by (rw [show akC t = _ from hg22]; rfl)) (zC rfl (zC rfl (zC rfl (zC rfl zU)))), rfl⟩
  refine .gp rfl rfl rfl (by assumption) (zJ (tm rfl)) (.gp rfl rfl rfl (by assumption) (yQ U9 (tm rfl)) (.gp rfl rfl rfl (by assumption) (yC (tm rfl) zE) (.p rfl (zN (tm rfl) (by assumption) (tm rfl)) (.mv rfl rfl ?_))))
  refine zL (t := 27) rfl (fun hg27 => ?_) (fun hg27 => ?_)
  ·refine .gn rfl rfl rfl (by assumption) (.gn rfl rfl rfl (by assumption) (.gn rfl rfl rfl (by assumption) (.p rfl (zO (tm rfl) (by assumption) zM) (.nil ?_))))
   exact ⟨rfl, zY rfl (by (rw [show akC t = _ from hg22, show decide (9 < (t.length : Int)) = _ from hg27]; rfl)) (zC rfl (zC rfl (zC rfl (zC rfl zU)))), rfl⟩
  refine .gp rfl rfl rfl (by assumption) (zJ (tm rfl)) (.gs rfl rfl rfl (by assumption) (zF C96 (.cons (tm rfl) (.cons (.func _) .nil)) (trimDigitsA t _)) ?_)
  rintro _ _ ⟨rfl, hH⟩
  obtain rfl := hH.symm
  refine .gp rfl rfl rfl (by assumption) (qO (tm rfl) (zS rfl)) (.p rfl (zN (tm rfl) (by assumption) (tm rfl)) (.nil ?_))
  exact ⟨rfl, zY rfl (by (simp [*]; done)) (zC rfl (zC rfl (zC rfl (zC rfl zU)))), rfl⟩
 refine AWP.sub [(31, _), (4, _), (5, _), (6, _), (7, _)] (zC rfl (zC rfl (zC rfl (zC rfl (zC rfl zU))))) ?_
 refine AWP.cond (tm rfl) (fun hc31 => ?_) (fun hc31 => ?_)
 ·try simp only [ne_eq] at hc31
  have hex := bmF ht hc31
  refine .sr (.p rfl (zA zE) (.p rfl (zA zM) (.ng (.ret ?_))))
  refine Next.rt ?_
  refine Ret.go (.cons (.tmp _ _ rfl) (.cons (.tmp _ _ rfl) .nil)) _ (hRa _) ?_
  refine ⟨?_, rfl⟩
  rw [hex]; rfl
 try simp only [ne_eq] at hc31
 obtain ⟨hne, hdt, hl9, hex⟩ := bmE ht hc31
 have hv2 : v = (num t : Int) := by
  simp only [cP] at hc31
  have h1 := hv hc31.1.1
  rw [baW hne hdt (by omega)] at h1
  injection h1 with h1; exact h1.symm
 subst hv2
 have hn9 := num_9 hdt hl9
 refine .skip ?_
 refine Next.go ?_
 refine AWP.seqToL [(7, .int .i64 (if m = true then -(num t : Int) else (num t : Int)))] [4, 5] ?_ ?_
 ·refine .sr (.mv rfl rfl (.ng ?_))
  refine AWP.cond (tm rfl) (fun hc32 => ?_) (fun hc32 => ?_)
  ·try simp only [] at hc32
   refine .region (.mv rfl rfl (.p rfl (abR (tm rfl) (by omega)) (.as rfl rfl (.nil ?_))))
   exact ⟨rfl, (zX rfl (by (rw [aO (show m = true from hc32)]; done)) (zC rfl (zC rfl zU))), rfl⟩
  try simp only [] at hc32
  refine .skip ?_
  exact ⟨rfl, (zX rfl (by (rw [aN (by rw [show m = false from hc32]; decide)]; done)) (zC rfl (zC rfl zU))), rfl⟩
 refine AWP.sub [(7, _), (4, _), (5, _)] (zC rfl (zC rfl (zC rfl zU))) ?_
 refine .sr (.mv rfl rfl (.as rfl rfl (.p rfl (zA zM) (.ng (.ret ?_)))))
 refine Ret.go (.cons (.tmp _ _ rfl) (.cons (.tmp _ _ rfl) .nil)) _ (hRa _) ?_
 refine ⟨?_, rfl⟩
 rw [hex]; rfl

end
section
open Go Go.RowKit
set_option maxRecDepth 100000

def afA (l : Loc) (i : Nat) : Nat := if i = 0 then 3 else if l.second = 2 then 2 else 3
def szI (l : Loc) : List Int := if l.second = 2 then [3, 2] else [3]
theorem biP (l : Loc) : (szI l).length = (if l.second = 2 then 2 else 1) ∧ ∀ (j : Nat) (h : j < (szI l).length), (szI l)[j] = if j = 0 then 3 else 2 := by
 unfold szI
 split
 ·refine ⟨rfl, fun j h => ?_⟩
  match j, h with
  | 0, _ => rfl
  | 1, _ => rfl
 refine ⟨rfl, fun j h => ?_⟩
 match j, h with
 | 0, _ => rfl
theorem anB (l : Loc) (i : Nat) : 2 ≤ afA l i ∧ afA l i ≤ 3 := by
 unfold afA; repeat' split
 all_goals omega
theorem size_max (l : Loc) (i : Nat) : awK 1 (if (bhU (i : Int) (((szI l).length : Int) - 1)).toNat = 0 then 3 else 2) = (afA l i : Int) := by
 rw [(biP l).1]
 unfold afA
 simp only [awK, bhU]
 repeat' split
 all_goals (first | omega | (exfalso; simp_all; done) | simp_all)
def baA (l : Loc) : Nat → Nat → List UInt8 → List UInt8 → List UInt8
 | 0, _, d, s => d ++ s
 | f + 1, i, d, s => if afA l i < d.length then baA l f (i + 1) (d.take (d.length - afA l i)) (l.grp ++ d.drop (d.length - afA l i) ++ s) else d ++ s
theorem awM (l : Loc) : ∀ (f g i : Nat) (d s : List UInt8), d.length ≤ f → d.length ≤ g → baA l f i d s = baA l g i d s
 | 0, 0, _, _, _, _, _ => rfl
 | 0, g + 1, i, d, s, hf, _ => by
  unfold baA
  rw [aN (by omega)]
 | f + 1, 0, i, d, s, _, hg => by
  unfold baA
  rw [aN (by omega)]
 | f + 1, g + 1, i, d, s, hf, hg => by
  have := anB l i
  unfold baA
  split
  ·exact awM l f g _ _ _ (by rw [aQ]; omega) (by rw [aQ]; omega)
  rfl
def bcU (l : Loc) (d : List UInt8) : List UInt8 := baA l d.length 0 d []
theorem blU {i : Nat} {d s : List UInt8} (h : afA l i < d.length) : baA l d.length i d s = baA l (d.take (d.length - afA l i)).length (i + 1) (d.take (d.length - afA l i)) (l.grp ++ d.drop (d.length - afA l i) ++ s) := by
 have h2 := anB l i
 obtain ⟨n, hn⟩ : ∃ n, d.length = n + 1 := ⟨d.length - 1, by omega⟩
 have e : baA l d.length i d s = baA l (n + 1) i d s := by rw [hn]
 rw [e, baA, aO h]
 refine awM l _ _ _ _ _ ?_ ?_ <;> simp only [aQ] <;> omega
theorem grpG_end {i : Nat} {d s : List UInt8} (h : ¬ afA l i < d.length) : baA l d.length i d s = d ++ s := by
 cases hd : d.length with
 | zero => rfl
 | succ n => rw [baA, aN h]
theorem bcJ (x : UInt8) : ([48, 49, 50, 51, 52, 53, 54, 55, 56, 57] : List UInt8).contains x = true ↔ isD x := by
 have key : ∀ n : Fin 256, (([48, 49, 50, 51, 52, 53, 54, 55, 56, 57] : List UInt8).contains (UInt8.ofNat n.1)) = decide (48 ≤ n.1 ∧ n.1 ≤ 57) := by decide +kernel
 have hx := key ⟨x.toNat, x.toNat_lt⟩
 rw [show UInt8.ofNat x.toNat = x by simp] at hx
 rw [hx, aM]
 rfl
theorem aoZ {p : UInt8 → Bool} : ∀ {l : List UInt8}, l.dropWhile p = [] ↔ ∀ x, x ∈ l → p x = true
 | [] => by simp
 | x :: l => by
  rw [dU]
  split
  ·rename_i h
   rw [aoZ]
   constructor
   ·intro q y hy
    rcases cQ.1 hy with rfl | hy
    ·exact h
    exact q y hy
   intro q y hy; exact q y (by simp [hy])
  rename_i h
  constructor
  ·intro q; simp at q
  intro q; exact absurd (q x (by simp)) h
theorem alC (s : List UInt8) : Lib.trimS s [48, 49, 50, 51, 52, 53, 54, 55, 56, 57] = [] ↔ Digs s := by
 show ((s.reverse.dropWhile (([48, 49, 50, 51, 52, 53, 54, 55, 56, 57] : List UInt8).contains ·)).reverse.dropWhile (([48, 49, 50, 51, 52, 53, 54, 55, 56, 57] : List UInt8).contains ·)) = [] ↔ _
 rw [aoZ]
 constructor
 ·intro h
  have h1 : s.reverse.dropWhile (([48, 49, 50, 51, 52, 53, 54, 55, 56, 57] : List UInt8).contains ·) = [] := by
   cases hc : s.reverse.dropWhile (([48, 49, 50, 51, 52, 53, 54, 55, 56, 57] : List UInt8).contains ·) with
   | nil => rfl
   | cons x r =>
    have hx := h x (by rw [hc]; simp)
    have hn := List.head?_dropWhile_not (p := fun x => ([48, 49, 50, 51, 52, 53, 54, 55, 56, 57] : List UInt8).contains x) (l := s.reverse)
    rw [hc] at hn
    simp only [List.head?_cons] at hn
    rw [hx] at hn; cases hn
  intro x hx
  exact (bcJ x).1 (aoZ.1 h1 x (by simpa using hx))
 intro h x hx
 refine (bcJ x).2 (h x ?_)
 have := (eC (l := s.reverse) (([48, 49, 50, 51, 52, 53, 54, 55, 56, 57] : List UInt8).contains ·)).subset (by simpa using hx)
 simpa using this
def ahA (l : Loc) (s : List UInt8) : Option (List UInt8) :=
 if Lib.replaceAll s l.grp [] = [] ∨ asA (Lib.replaceAll s l.grp []) = false then none
 else if Lib.replaceAll s l.grp [] ≠ s ∧ bcU l (Lib.replaceAll s l.grp []) ≠ s then none
 else some (Lib.replaceAll s l.grp [])
theorem atV {s : List UInt8} : asA s = false ↔ ¬ Digs s := by
 rw [← adL]; simp

theorem aoL (l : Loc) (i : Nat) (hi : i ≤ 100000) (H : Heap) : ACall Tryz.prog 233 [pL l (szA l), .int .i64 (i : Int)] H (fun y H' => y = .int .i64 (afA l i : Int) ∧ H' = H) := by
 have hz : szA l = .slice 1 ((szI l).map (.int .i64)) .full := rfl
 rw [hz]
 obtain ⟨hl, hg⟩ := biP l
 have hl2 : 1 ≤ (szI l).length ∧ (szI l).length ≤ 2 := by rw [hl]; split <;> omega
 have hm := size_max l i
 refine ACall.of_body Tryz.func233 rfl Tryz.ntmps233 Tryz.results233 rfl ?_
 refine .sr (.e rfl (zZ (tm rfl) (.inr ⟨_, rfl⟩)) (.p rfl (zA zE) (.ng (.seq (.sr (.p rfl (zD U29 rfl Z27 (tm rfl)) (.p rfl (zH G27 (tm rfl)) (.p rfl (anZ U27 (tm rfl)) ?_))))))))
 refine .p rfl (zR (tm rfl) zE) (.ng ?_)
 refine AWP.cond_false (tm rfl) (by exact bG (by omega)) ?_
 refine .skip ?_
 refine Next.go ?_
 refine .sr (.p rfl (zD U29 rfl Z27 (tm rfl)) (.p rfl (zH G27 (tm rfl)) (.mv rfl rfl (.p rfl (zD U29 rfl Z27 (tm rfl)) (.p rfl (zH G27 (tm rfl)) (.p rfl (anZ U27 (tm rfl)) (.p rfl (yG (tm rfl) zE (by omega)) (.p rfl (ahL (tm rfl) (tm rfl)) ?_))))))))
 refine .p rfl (agO U27 Z3 (tm rfl) (tm rfl) (by simp only [bhU]; split <;> omega) (by simp only [bhU]; split <;> omega)) (.p rfl (zH G3 (tm rfl)) (.p rfl (aeS zE (tm rfl)) (.as rfl rfl (.ng (.ret ?_)))))
 refine Ret.go (.cons (.tmp _ _ rfl) .nil) _ (hRa _) ?_
 refine ⟨?_, rfl⟩
 rw [← hm, ← hg]
 rfl

def blV (l : Loc) (d0 : List UInt8) (H : Heap) : Nat → Env → Heap → Prop := fun k env H1 => ∃ (i : Nat) (d s : List UInt8), baA l d.length i d s = bcU l d0 ∧ i + d.length ≤ d0.length ∧ s.length + d.length ≤ d0.length + 10 * i ∧ env = [(1, .str d), (2, .iptr (pL l (szA l)).cells), (5, .str s), (6, .int .i64 (i : Int))] ∧ H = H1 ∧ k = d.length

theorem auG (l : Loc) (hk : l.ok) (d0 : List UInt8) (hd0 : d0.length ≤ 10000) (H : Heap) : ACall Tryz.prog 176 [pL l (szA l), .str d0] H (fun y H' => y = .str (bcU l d0) ∧ H' = H) := by
 obtain ⟨hk1, hk2, hk3, hk4, hk5⟩ := hk
 refine ACall.of_body Tryz.func176 rfl Tryz.ntmps176 Tryz.results176 rfl ?_
 refine .sr (.e rfl (zZ (tm rfl) (.inr ⟨_, rfl⟩)) (.p rfl (zA (zS rfl)) (.nr (.p rfl (zA (zS rfl)) (.ng (.seq (.sr (.p rfl (zA zE) ?_))))))))
 refine .ng (.block ?_)
 refine AWP.loopW (blV l d0 H) (d0.length) ⟨0, d0, [], rfl, by omega, by simp, rfl, rfl, rfl⟩ (zC rfl (zC rfl (zC rfl (zC rfl zU)))) (hRa _) ?_
 rintro _ _ _ ⟨i, d, s, hg, hi, hl, rfl, rfl, rfl⟩
 have hz := anB l i
 refine .seq (.sr (.mv rfl rfl (.p rfl (yQ U9 (tm rfl)) (.p rfl (zQ G29 Z29 (tm rfl) (lB rfl)) (.mv rfl rfl (.cl rfl Tryz.call233 (evs2 rfl rfl) (aoL l i (by omega) _) (.p rfl (yC (tm rfl) (tm rfl)) (.ng ?_))))))))
 refine AWP.cond (tm rfl) (fun hc13 => ?_) (fun hc13 => ?_)
 ·try simp only [aM] at hc13
  have hgt : afA l i < d.length := by omega
  refine .skip ?_
  refine Next.go ?_
  refine .seq (.block (.sr (.mv rfl rfl (.p rfl (yQ U9 (tm rfl)) (.p rfl (zQ G29 Z29 (tm rfl) (lB rfl)) (.mv rfl rfl (.cl rfl Tryz.call233 (evs2 rfl rfl) (aoL l i (by omega) _) (.p rfl (yG (tm rfl) (tm rfl) (by omega)) ?_))))))))
  refine .as rfl rfl (.ng (.seq ?_))
  refine AWP.draw [(0, true), (1, true), (2, true), (3, true), (4, true), (5, true), (6, true), (7, true), (8, true)] rfl (by decide +kernel) ?_
  refine .p rfl rfl (zD U29 rfl Z9 (tm rfl)) (.p rfl rfl (zH G9 (tm rfl)) (.p rfl rfl (zJ (tm rfl)) (.p rfl rfl (zJ (tm rfl)) (.p rfl rfl (abM U9 (tm rfl) (tm rfl) (by omega) (by omega)) (.p rfl rfl (yX (tm rfl) (tm rfl) (by rw [zW]; simp only [bS]; omega)) (.p rfl rfl (zJ (tm rfl)) (.p rfl rfl (yX (tm rfl) (tm rfl) (by rw [zW]; simp only [aS, bS]; omega)) (.p rfl rfl (zA (tm rfl)) ?_))))))))
  refine .nil ?_
  refine Next.go ?_
  refine .region (.mv rfl rfl (.mv rfl rfl (.p rfl (abN U9 (tm rfl) (tm rfl) (by omega) (by omega)) (.as rfl rfl (.nil ?_)))))
  refine Block.go ?_
  refine Next.go ?_
  refine .region (.mv rfl rfl (.p rfl (yT (tm rfl) zE (by omega)) (.as rfl rfl (.ng ?_))))
  have hcut : ((d.length : Int) - (afA l i : Int)).toNat = d.length - afA l i := by omega
  have htl : (d.take (d.length - afA l i)).length = d.length - afA l i := by rw [aQ]; omega
  rw [hcut]
  refine Round.mk (J := blV l d0 H) ⟨i + 1, (d.take (d.length - afA l i)), l.grp ++ d.drop (d.length - afA l i) ++ s, by rw [← hg]; exact (blU hgt).symm, by omega, by simp only [aS, bS]; omega, rfl, rfl, rfl⟩ (zC rfl (zC rfl (zC rfl (zX rfl (by congr 1) zU)))) (hRa _) (by omega)
 try simp only [aL, bN] at hc13
 have hng : ¬ afA l i < d.length := by omega
 refine .exit ?_
 refine Next.ex ?_
 refine Next.ex ?_
 refine Block.hit ?_
 refine Next.go ?_
 refine .sr (.mv rfl rfl (.mv rfl rfl (.p rfl (yX (tm rfl) (tm rfl) (by rw [zW]; omega)) (.as rfl rfl (.ng (.ret ?_))))))
 refine Ret.go (.cons (.tmp _ _ rfl) .nil) _ (hRa _) ?_
 refine ⟨?_, rfl⟩
 rw [← hg, grpG_end hng]; rfl

theorem bbY (s old : List UInt8) : (Lib.replaceAll s old []).length ≤ s.length := by
 have := aiL s old []
 simpa using this

theorem baZ (l : Loc) (hk : l.ok) (hg : l.grp ≠ []) (s : List UInt8) (hs : s.length ≤ 9000) (H : Heap) : ACall Tryz.prog 214 [pL l (szA l), .str s] H (fun y H' => y = .tuple [.str ((ahA l s).getD []), .bool (ahA l s).isSome] ∧ H' = H) := by
 have hql := bbY s l.grp
 have hgp := cI.2 hg
 refine ACall.of_body Tryz.func214 rfl Tryz.ntmps214 Tryz.results214 rfl ?_
 refine .sr (.e rfl (zZ (tm rfl) (.inr ⟨_, rfl⟩)) (.p rfl (zA (zS rfl)) (.p rfl (zA zM) (.nr (.mv rfl rfl (.p rfl (zD U29 rfl Z9 (tm rfl)) (.p rfl (zH G9 (tm rfl)) (.cl rfl Tryz.call210 (.cons (tm rfl) (.cons (tm rfl) (.cons (zS rfl) .nil))) (replaceA s l.grp [] (by omega) (by omega) (by simp) _) ?_))))))))
 refine .as rfl rfl (.ng (.seq ?_))
 refine AWP.seqTo 17 (.bool (decide ((Lib.replaceAll s l.grp []) = []) || decide (Lib.trimS (Lib.replaceAll s l.grp []) [48, 49, 50, 51, 52, 53, 54, 55, 56, 57] ≠ []))) [1, 2, 4, 5, 6] ?_ ?_
 ·-- region 2
  refine .region (.mv rfl rfl (.p rfl (yM (tm rfl) (zS rfl)) (.mv rfl rfl ?_)))
  refine zL (t := 13) rfl (fun hg13 => ?_) (fun hg13 => ?_)
  ·refine .gn rfl rfl rfl (by assumption) (.gn rfl rfl rfl (by assumption) (.gn rfl rfl rfl (by assumption) (.p rfl (zO (tm rfl) (by assumption) zM) (.nil ?_))))
   exact ⟨rfl, zY rfl (by (simp [*]; done)) (zC rfl (zC rfl (zC rfl (zC rfl (zC rfl zU))))), rfl⟩
  refine .gp rfl rfl rfl (by assumption) (zJ (tm rfl)) (.gs rfl rfl rfl (by assumption) (zF Tryz.call259 (.cons (tm rfl) (.cons (zS rfl) .nil)) (trimSetA [48, 49, 50, 51, 52, 53, 54, 55, 56, 57] (by decide) (by decide) _ _)) ?_)
  rintro _ _ ⟨rfl, hH⟩
  obtain rfl := hH.symm
  refine .gp rfl rfl rfl (by assumption) (qO (tm rfl) (zS rfl)) (.p rfl (zN (tm rfl) (by assumption) (tm rfl)) (.nil ?_))
  exact ⟨rfl, zY rfl (by (simp [*]; done)) (zC rfl (zC rfl (zC rfl (zC rfl (zC rfl zU))))), rfl⟩
 refine AWP.sub [(17, _), (1, _), (2, _), (4, _), (5, _), (6, _)] (zC rfl (zC rfl (zC rfl (zC rfl (zC rfl (zC rfl zU)))))) ?_
 refine AWP.cond (tm rfl) (fun hc17 => ?_) (fun hc17 => ?_)
 ·try simp only [ne_eq] at hc17
  simp only [cV, aM] at hc17
  rw [alC] at hc17
  refine .sr (.p rfl (zA (zS rfl)) (.p rfl (zA zM) (.ng (.ret ?_))))
  refine Next.rt ?_
  refine Ret.go (.cons (.tmp _ _ rfl) (.cons (.tmp _ _ rfl) .nil)) _ (hRa _) ?_
  refine ⟨?_, rfl⟩
  unfold ahA
  rw [aO (hc17.imp id atV.2)]; rfl
 try simp only [ne_eq] at hc17
 simp only [cP, aL, cG] at hc17
 rw [alC] at hc17
 refine .skip ?_
 refine Next.go ?_
 refine .seq ?_
 refine AWP.seqTo 27 (.bool (decide ((Lib.replaceAll s l.grp []) ≠ s) && decide (bcU l (Lib.replaceAll s l.grp []) ≠ s))) [4, 5, 6] ?_ ?_
 ·-- region 4
  refine .region (.mv rfl rfl (.mv rfl rfl (.p rfl (qO (tm rfl) (tm rfl)) (.mv rfl rfl ?_))))
  refine zL (t := 21) rfl (fun hg21 => ?_) (fun hg21 => ?_)
  ·refine .gp rfl rfl rfl (by assumption) (zQ G29 Z29 (tm rfl) (lB rfl)) (.gp rfl rfl rfl (by assumption) (zJ (tm rfl)) (.gs rfl rfl rfl (by assumption) (zF Tryz.call176 (evs2 rfl rfl) (auG l hk _ (by omega) _)) ?_))
   rintro _ _ ⟨rfl, hH⟩
   obtain rfl := hH.symm
   refine .gp rfl rfl rfl (by assumption) (zJ (tm rfl)) (.gp rfl rfl rfl (by assumption) (qO (tm rfl) (tm rfl)) (.p rfl (zO (tm rfl) (by assumption) (tm rfl)) (.nil ?_)))
   exact ⟨rfl, zY rfl (by (simp [*]; done)) (zC rfl (zC rfl (zC rfl zU))), rfl⟩
  refine .gn rfl rfl rfl (by assumption) (.gn rfl rfl rfl (by assumption) (.gn rfl rfl rfl (by assumption) (.gn rfl rfl rfl (by assumption) (.gn rfl rfl rfl (by assumption) (.p rfl (zN (tm rfl) (by assumption) zM) (.nil ?_))))))
  exact ⟨rfl, zY rfl (by (simp [*]; done)) (zC rfl (zC rfl (zC rfl zU))), rfl⟩
 refine AWP.sub [(27, _), (4, _), (5, _), (6, _)] (zC rfl (zC rfl (zC rfl (zC rfl zU)))) ?_
 refine AWP.cond (tm rfl) (fun hc27 => ?_) (fun hc27 => ?_)
 ·try simp only [ne_eq] at hc27
  simp only [bK, aM] at hc27
  refine .sr (.p rfl (zA (zS rfl)) (.p rfl (zA zM) (.ng (.ret ?_))))
  refine Next.rt ?_
  refine Ret.go (.cons (.tmp _ _ rfl) (.cons (.tmp _ _ rfl) .nil)) _ (hRa _) ?_
  refine ⟨?_, rfl⟩
  unfold ahA
  rw [aN (fun q => q.elim hc17.1 (fun q => atV.1 q hc17.2)), aO hc27]; rfl
 try simp only [ne_eq] at hc27
 simp only [cB, aL, cG] at hc27
 refine .skip ?_
 refine Next.go ?_
 refine .sr (.mv rfl rfl (.as rfl rfl (.p rfl (zA zM) (.ng (.ret ?_)))))
 refine Ret.go (.cons (.tmp _ _ rfl) (.cons (.tmp _ _ rfl) .nil)) _ (hRa _) ?_
 refine ⟨?_, rfl⟩
 unfold ahA
 rw [aN (fun q => q.elim hc17.1 (fun q => atV.1 q hc17.2)), aN (fun q => hc27.elim (fun h => q.1 h) (fun h => q.2 h))]; rfl

end
end Go.Proofs.YtmmgbnolccpjoaaGreatDoor
