import Derived.Test.YtmmgbnolccpjoaaGreatDoorU3
import Derived.Test.YtmmgbnolccpjoaaGreatDoorV3
namespace Go.Proofs.YtmmgbnolccpjoaaGreatDoor
open Go Go.RowKit

variable {l : Loc} {r : List AV} {i : Nat}
structure Val where
 kind : Int
 bits : Nat
 is : Bool
 text : List UInt8
 fail : Int
variable {v : Val}
instance : DecidableEq Val := fun x y =>
 if h : x.kind = y.kind ∧ x.bits = y.bits ∧ x.is = y.is ∧ x.text = y.text ∧ x.fail = y.fail then .isTrue (by cases x; cases y; simp_all) else .isFalse (by rintro rfl; exact h ⟨rfl, rfl, rfl, rfl, rfl⟩)
def Val.cs (v : Val) : List AV := [.int .i64 v.kind, .int .u64 (v.bits : Int), .bool v.is, .str v.text, .int .i64 v.fail]
def Val.av (v : Val) : AV := .agg v.cs
def qP (n : Int) : Val := ⟨4, 0, false, [], n⟩
def afC (b : Bool) : Val := ⟨2, 0, b, [], 0⟩
def apR (x : Nat) : Val := if 3 ≤ yD x then qP 6 else ⟨1, x, false, [], 0⟩
def baY (s : List UInt8) : Val := if 1000 < s.length then qP 3 else ⟨3, 0, false, s, 0⟩
def aiP (k : Int) : Val := ⟨k, 0, false, [], 0⟩
def bdM (n : Int) : List UInt8 := if n = 1 then [35, 78, 85, 76, 76, 33] else if n = 2 then [35, 68, 73, 86, 47, 48, 33] else if n = 3 then [35, 86, 65, 76, 85, 69, 33] else if n = 4 then [35, 82, 69, 70, 33] else if n = 5 then [35, 78, 65, 77, 69, 63] else if n = 6 then [35, 78, 85, 77, 33] else if n = 7 then [35, 78, 47, 65] else if n = 8 then [35, 67, 89, 67, 76, 69, 33] else []
def axI (v : Val) : Bool :=
 if v.kind = 0 then decide (v = ⟨0, 0, false, [], 0⟩) else if v.kind = 1 then decide (v = apR v.bits) else if v.kind = 2 then decide (v = afC v.is) else if v.kind = 3 then decide (v = baY v.text)
 else if v.kind = 4 then decide (v = qP v.fail) && decide (bdM v.fail ≠ []) else false
def auL (b : Bool) : List UInt8 := if b then [84, 82, 85, 69] else [70, 65, 76, 83, 69]
def capB (c : UInt8) : UInt8 := if 97 ≤ c.toNat ∧ c.toNat ≤ 122 then UInt8.ofNat (c.toNat - 32) else c
def capL (s : List UInt8) : List UInt8 := s.map capB
def sgn (x y : Int) : Int := if x < y then -1 else if y < x then 1 else 0
def akF (k : Int) : Int := if k = 1 then 1 else if k = 3 then 2 else if k = 2 then 3 else 0
def abB (l : Loc) (v : Val) : Nat × Int :=
 if v.kind = 1 then (v.bits, 0) else if v.kind = 2 ∧ v.is = true then (oneN, 0)
 else if v.kind = 3 then (if (abS l (abT yL v.text)).2 ≠ 0 then (0, 3) else ((abS l (abT yL v.text)).1.bits, 0)) else (0, v.fail)
def aeM (v : Val) : Bool × Int :=
 if v.kind = 1 then (decide (aoS v.bits ≠ 0), 0) else if v.kind = 3 then (if capL v.text = auL true then (true, 0) else if capL v.text = auL false then (false, 0) else (false, 3)) else (v.is, v.fail)
def acE (l : Loc) (v : Val) : List UInt8 × Int := if v.kind = 1 then (bcX l (adT v.bits 15), 0) else if v.kind = 2 then (auL v.is, 0) else (v.text, v.fail)
def agU (a b : Val) : Int := if a.kind = 1 then baG a.bits b.bits else if a.kind = 2 then Lib.compareBytes (auL a.is) (auL b.is) else Lib.compareBytes (capL a.text) (capL b.text)
def abE (a b : Val) : Int :=
 if a.kind = 4 ∨ b.kind = 4 then 0 else
 let x := if a.kind = 0 then aiP b.kind else a
 let y := if a.kind = 0 then b else if b.kind = 0 then aiP a.kind else b
 if x.kind ≠ y.kind then sgn (akF x.kind) (akF y.kind) else agU x y
def hunN : Nat := yB false 100 0 false
def blQ : Nat := aoV oneN (yB false 2 0 false)
def akD (l : Loc) (op : List UInt8) (a : Val) : Val :=
 if a.kind = 4 ∨ op = [43] then a else if op ≠ [45] ∧ op ≠ [37] then qP 5
 else if (abB l a).2 ≠ 0 then qP (abB l a).2
 else if op = [37] then apR (aoV (abB l a).1 hunN) else apR (apY (abB l a).1)
def divV (x y : Nat) : Val := if aoS y = 0 then qP 2 else apR (aoV x y)
def bkA (x y : Nat) : Val :=
 if aoS x = 0 ∧ aoS y = 0 then qP 6 else if aoS x = 0 ∧ aoS y < 0 then qP 2
 else if (toN y).2 = 0 ∧ isN y = true ∧ -1000000 ≤ (toN y).1 ∧ (toN y).1 ≤ 1000000 then apR (baD x (toN y).1)
 else if y = blQ then apR (aoR x) else qP 6
def atU (l : Loc) (a b : Val) (f : Nat → Nat → Val) : Val :=
 if (abB l a).2 ≠ 0 then qP (abB l a).2 else if (abB l b).2 ≠ 0 then qP (abB l b).2 else f (abB l a).1 (abB l b).1
def qW (l : Loc) (op : List UInt8) (a b : Val) : Val :=
 if a.kind = 4 then a else if b.kind = 4 then b
 else if op = [61] then afC (decide (abE a b = 0)) else if op = [60, 62] then afC (decide (abE a b ≠ 0))
 else if op = [60] then afC (decide (abE a b < 0)) else if op = [60, 61] then afC (decide (abE a b ≤ 0))
 else if op = [62] then afC (decide (0 < abE a b)) else if op = [62, 61] then afC (decide (0 ≤ abE a b))
 else if op = [38] then baY ((acE l a).1 ++ (acE l b).1)
 else if op = [43] then atU l a b fun x y => apR (ahQ x y)
 else if op = [45] then atU l a b fun x y => apR (ahQ x (apY y))
 else if op = [42] then atU l a b fun x y => apR (aeA x y)
 else if op = [47] then atU l a b divV else if op = [94] then atU l a b bkA else qP 5

theorem anM (h : axI v = true) : v = aiP 0 ∨ (yD v.bits < 3 ∧ v = ⟨1, v.bits, false, [], 0⟩) ∨ v = afC v.is ∨ (v.text.length ≤ 1000 ∧ v = ⟨3, 0, false, v.text, 0⟩) ∨ (bdM v.fail ≠ [] ∧ v = qP v.fail) := by
 unfold axI at h
 split at h
 ·exact .inl (of_decide_eq_true h)
 split at h
 ·rename_i hk
  have h := of_decide_eq_true h
  by_cases q : 3 ≤ yD v.bits
  ·rw [apR, aO q] at h; rw [h] at hk; exact absurd hk (by decide)
  exact .inr (.inl ⟨by omega, by rw [apR, aN q] at h; exact h⟩)
 split at h
 ·exact .inr (.inr (.inl (of_decide_eq_true h)))
 split at h
 ·rename_i hk
  have h := of_decide_eq_true h
  by_cases q : 1000 < v.text.length
  ·rw [baY, aO q] at h; rw [h] at hk; exact absurd hk (by decide)
  exact .inr (.inr (.inr (.inl ⟨by omega, by rw [baY, aN q] at h; exact h⟩)))
 split at h
 ·simp only [bK, aM] at h
  exact .inr (.inr (.inr (.inr ⟨h.2, h.1⟩)))
 cases h
theorem beM (h : axI v = true) : v.text.length ≤ 1000 := by
 rcases anM h with h | ⟨_, h⟩ | h | ⟨h, _⟩ | ⟨_, h⟩
 ·rw [h]; exact Nat.zero_le _
 ·rw [h]; exact Nat.zero_le _
 ·rw [h]; exact Nat.zero_le _
 ·exact h
 rw [h]; exact Nat.zero_le _
theorem asG (hv : v.bits < 18446744073709551616) : (abB l v).1 < 18446744073709551616 := by
 unfold abB
 split
 ·exact hv
 split
 ·decide
 split
 ·split
  ·show (0 : Nat) < 18446744073709551616; decide
  rename_i q
  exact ((bgT l (abT yL v.text)).2 (cG.1 q)).2.1
 show (0 : Nat) < 18446744073709551616; decide
section
open Go Go.RowKit
set_option maxRecDepth 100000

theorem zr24 : ZR 24 [.int .i64 0, .int .u64 0, .bool false, .str [], .int .i64 0] := ZRi Tryz.zeroValue24
theorem pl24 : PL 24 [(0, 1), (1, 1), (2, 1), (3, 1), (4, 1)] := PLi U24

def Val.vals (r : Val) : List Value := [.int .i64 r.kind, .int .u64 (r.bits : Int), .bool r.is, .string ⟨r.text.toArray⟩, .int .i64 r.fail]
theorem bmX {a b : List UInt8} : ((⟨a.toArray⟩ : ByteArray) = ⟨b.toArray⟩) ↔ a = b := by
 constructor
 ·intro h; have := congrArg (fun x : ByteArray => x.data.toList) h; simpa using this
 rintro rfl; rfl
theorem eqInV (d : Nat) (r s : Val) (w : World) : (Op.equalIn (d + 2) 24 (.agg r.vals.toArray) (.agg s.vals.toArray)).run Tryz.prog w = .ok (decide (r = s)) w := by
 have u3 := U3
 have a3 := G3
 have z3 := Z3
 have u4 := U4
 have a4 := G4
 have z4 := Z4
 have u22 := U22
 have a22 := G22
 have z22 := Z22
 have u9 := U9
 have a9 := G9
 have z9 := Z9
 have hS : Tryz.prog.underlying 24 = some (.struct (Tryz.prog.fieldsOf 24)) := by kernel_rfl
 have hp : Tryz.prog.stoodInHeld 24 = false := by kernel_rfl
 rw [run_equalIn_agg w (d + 1) 24 _ _ hS hp]
 simp only [Program.fieldsOf, U24, Val.vals]
 go_simp
 obtain ⟨a, b, c, e, f⟩ := r
 obtain ⟨a', b', c', e', f'⟩ := s
 have hb := @bmX e e'
 by_cases h1 : a = a' <;> by_cases h2 : b = b' <;> by_cases h3 : c = c' <;> by_cases h4 : e = e' <;> by_cases h5 : f = f' <;> simp [h1, h2, h3, h4, h5, Int.ofNat_inj]
theorem eqVal (r s : Val) : apM Tryz.prog 24 r.cs s.cs (decide (r = s)) := fun g xs ys w h k => by
 rw [h.plain r.vals rfl, k.plain s.vals rfl]; exact eqInV 9998 r s w

theorem aaG (n : Int) (H : Heap) : ACall Tryz.prog 53 [.int .i64 n] H (fun y H' => y = (qP n).av ∧ H' = H) := by
 refine ACall.of_body Tryz.func53 rfl Tryz.ntmps53 Tryz.results53 rfl ?_
 refine .sr ?_
 refine .al zr24 (fun b2 hb2 => ?_)
 refine .nr (.mv rfl rfl (.p rfl (yK zr24 pl24 (.cons zE (.inl rfl) (.cons (tm rfl) (.inl rfl) .nil)) rfl) (.e0 (zG Z24 (tm rfl) (tm rfl) rfl rfl (.inr ⟨_, rfl⟩) (oS _ _ _) (lB rfl)) ?_)))
 try first | rw [sS] | rw [sU (by assumption)]
 refine .ng ?_
 refine AWP.frz (t := 2) rfl (hb2) ?_
 refine .ret ?_
 refine Ret.go (.cons (.cellI _ _ _ _ rfl G24 Z24 rfl) .nil) _ (hRa _) ?_
 exact ⟨rfl, rfl⟩

theorem adA (b : Bool) (H : Heap) : ACall Tryz.prog 61 [.bool b] H (fun y H' => y = (afC b).av ∧ H' = H) := by
 refine ACall.of_body Tryz.func61 rfl Tryz.ntmps61 Tryz.results61 rfl ?_
 refine .sr ?_
 refine .al zr24 (fun b2 hb2 => ?_)
 refine .nr (.mv rfl rfl (.p rfl (yK zr24 pl24 (.cons zE (.inl rfl) (.cons (tm rfl) (.inl rfl) .nil)) rfl) (.e0 (zG Z24 (tm rfl) (tm rfl) rfl rfl (.inr ⟨_, rfl⟩) (oS _ _ _) (lB rfl)) ?_)))
 try first | rw [sS] | rw [sU (by assumption)]
 refine .ng ?_
 refine AWP.frz (t := 2) rfl (hb2) ?_
 refine .ret ?_
 refine Ret.go (.cons (.cellI _ _ _ _ rfl G24 Z24 rfl) .nil) _ (hRa _) ?_
 exact ⟨rfl, rfl⟩

theorem qS (x : Nat) (hx : x < 18446744073709551616) (H : Heap) : ACall Tryz.prog 35 [.int .u64 (x : Int)] H (fun y H' => y = (apR x).av ∧ H' = H) := by
 refine ACall.of_body Tryz.func35 rfl Tryz.ntmps35 Tryz.results35 rfl ?_
 refine .sr ?_
 refine .al zr24 (fun b2 hb2 => ?_)
 refine .ng (.seq (.sr (.mv rfl rfl (.cl rfl C89 (evs1 rfl) (aaE _ (by assumption) _) (.p rfl (yS (tm rfl) zE) (.ng ?_))))))
 refine AWP.cond (tm rfl) (fun hc5 => ?_) (fun hc5 => ?_)
 ·try simp only [aM] at hc5
  refine .sr (.cl rfl C53 (.cons zE .nil) (aaG _ _) (.e0 (zG Z24 (tm rfl) (tm rfl) rfl rfl (.inr ⟨_, rfl⟩) (oS _ _ _) (lB rfl)) ?_))
  try first | rw [sS] | rw [sU (by assumption)]
  refine .ng ?_
  refine AWP.frz (t := 2) rfl (hb2) ?_
  refine .ret ?_
  refine Next.rt ?_
  refine Ret.go (.cons (.cellI _ _ _ _ rfl G24 Z24 rfl) .nil) _ (hRa _) ?_
  refine ⟨?_, rfl⟩
  rw [show apR x = qP 6 from aO (by omega)]
  rfl
 try simp only [aL, cA] at hc5
 refine .skip ?_
 refine Next.go ?_
 refine .sr (.mv rfl rfl (.p rfl (yK zr24 pl24 (.cons zE (.inl rfl) (.cons (tm rfl) (.inl rfl) .nil)) rfl) (.e0 (zG Z24 (tm rfl) (tm rfl) rfl rfl (.inr ⟨_, rfl⟩) (oS _ _ _) (lB rfl)) ?_)))
 try first | rw [sS] | rw [sU (by assumption)]
 refine .ng ?_
 refine AWP.frz (t := 2) rfl (hb2) ?_
 refine .ret ?_
 refine Ret.go (.cons (.cellI _ _ _ _ rfl G24 Z24 rfl) .nil) _ (hRa _) ?_
 refine ⟨?_, rfl⟩
 rw [show apR x = ⟨1, x, false, [], 0⟩ from aN (by omega)]
 rfl

theorem axT (s : List UInt8) (hs : s.length ≤ maxLen) (H : Heap) : ACall Tryz.prog 62 [.str s] H (fun y H' => y = (baY s).av ∧ H' = H) := by
 refine ACall.of_body Tryz.func62 rfl Tryz.ntmps62 Tryz.results62 rfl ?_
 refine .sr ?_
 refine .al zr24 (fun b2 hb2 => ?_)
 refine .ng (.seq (.sr (.mv rfl rfl (.p rfl (yQ U9 (tm rfl)) (.p rfl (yC (tm rfl) zE) (.ng ?_))))))
 refine AWP.cond (tm rfl) (fun hc5 => ?_) (fun hc5 => ?_)
 ·try simp only [aM] at hc5
  refine .sr (.cl rfl C53 (.cons zE .nil) (aaG _ _) (.e0 (zG Z24 (tm rfl) (tm rfl) rfl rfl (.inr ⟨_, rfl⟩) (oS _ _ _) (lB rfl)) ?_))
  try first | rw [sS] | rw [sU (by assumption)]
  refine .ng ?_
  refine AWP.frz (t := 2) rfl (hb2) ?_
  refine .ret ?_
  refine Next.rt ?_
  refine Ret.go (.cons (.cellI _ _ _ _ rfl G24 Z24 rfl) .nil) _ (hRa _) ?_
  refine ⟨?_, rfl⟩
  rw [show baY s = qP 3 from aO (by omega)]
  rfl
 try simp only [aL, bN] at hc5
 refine .skip ?_
 refine Next.go ?_
 refine .sr (.mv rfl rfl (.p rfl (yK zr24 pl24 (.cons zE (.inl rfl) (.cons (tm rfl) (.inl rfl) .nil)) rfl) (.e0 (zG Z24 (tm rfl) (tm rfl) rfl rfl (.inr ⟨_, rfl⟩) (oS _ _ _) (lB rfl)) ?_)))
 try first | rw [sS] | rw [sU (by assumption)]
 refine .ng ?_
 refine AWP.frz (t := 2) rfl (hb2) ?_
 refine .ret ?_
 refine Ret.go (.cons (.cellI _ _ _ _ rfl G24 Z24 rfl) .nil) _ (hRa _) ?_
 refine ⟨?_, rfl⟩
 rw [show baY s = ⟨3, 0, false, s, 0⟩ from aN (by omega)]
 rfl

theorem up32 {c : Nat} (h1 : 97 ≤ c) (h2 : c ≤ 122) : c - (c &&& 32) = c - 32 := by
 have : ∀ c : Fin 128, 97 ≤ c.1 → c.1 ≤ 122 → c.1 - (c.1 &&& 32) = c.1 - 32 := by decide
 exact this ⟨c, by omega⟩ h1 h2
theorem beY {A B ys : List AV} {x : AV} {y : AV} {o : Nat} (ho : o = A.length) (hy : ys = [y]) : putRow (A ++ x :: B) o ys = A ++ y :: B := by
 subst ho; subst hy
 simp [putRow]
def aeX (s : List UInt8) (r : List AV) (i : Nat) : List AV := ((s.take i).map capB).map bv ++ (s.drop i).map bv ++ r
theorem apE {s : List UInt8} (h : i < s.length) : aeX s r i = ((s.take i).map capB).map bv ++ bv s[i] :: ((s.drop (i + 1)).map bv ++ r) := by
 unfold aeX
 rw [cN h, eM, bV, eT]
theorem apD {s : List UInt8} (h : i < s.length) : aeX s r (i + 1) = ((s.take i).map capB).map bv ++ bv (capB s[i]) :: ((s.drop (i + 1)).map bv ++ r) := by
 unfold aeX
 rw [← dJ h, List.map_append, List.map_append]
 simp only [eM, List.map_nil, bV, eT, cT]
theorem bhG {s : List UInt8} (h : i < s.length) : (aeX s r i)[0 + ((i : Nat) : Int).toNat * 1]? = some (.int .u8 ((s[i].toNat : Nat) : Int)) := by
 rw [show 0 + ((i : Nat) : Int).toNat * 1 = i by omega, apE h, eN (by simp; omega)]
 simp; rw [show i - min i s.length = 0 by omega]; rfl
theorem bhF {s : List UInt8} : (aeX s r i).length = s.length + r.length := by simp [aeX]; omega
theorem bhE {s : List UInt8} (h : i < s.length) {m : Int} (hm : m = ((capB s[i]).toNat : Nat)) : putRow (aeX s r i) (0 + ((i : Nat) : Int).toNat * 1) [.int .u8 m] = aeX s r (i + 1) := by
 rw [show 0 + ((i : Nat) : Int).toNat * 1 = i by omega, apE h, apD h]
 exact beY (by simp; omega) (by rw [hm]; rfl)
theorem baO {s : List UInt8} (h : i < s.length) (hu : capB s[i] = s[i]) : aeX s r (i + 1) = aeX s r i := by
 rw [apE h, apD h, hu]
theorem capL_len (s : List UInt8) : (capL s).length = s.length := eY _
theorem bhH {s : List UInt8} (h : i = s.length) : ((aeX s r i).drop 0).take s.length = (capL s).map bv := by
 subst h; simp [aeX, capL]
theorem capB_up {c : UInt8} (h1 : 97 ≤ c.toNat) (h2 : c.toNat ≤ 122) : ((c.toNat - (c.toNat &&& 32) : Nat) : Int) = ((capB c).toNat : Nat) := by
 rw [up32 h1 h2, capB, aO ⟨h1, h2⟩, eU]
 have : (c.toNat - 32) % 2 ^ 8 = c.toNat - 32 := aW (by omega)
 rw [this]
theorem bmW {c : UInt8} (h : ¬ (97 ≤ c.toNat ∧ c.toNat ≤ 122)) : capB c = c := aN h

def axU (s : List UInt8) (b : Nat) (c : Nat) (H : Heap) : Nat → Env → Heap → Prop := fun k env H1 => ∃ i : Nat, i ≤ s.length ∧ env = [(3, .mslice (some ⟨b, 0, none⟩) s.length c), (8, .mslice (some ⟨b, 0, none⟩) s.length c), (9, .int .i64 s.length), (10, .int .i64 i)] ∧ H1 = H.set b (.box 5 (aeX s (List.replicate (c - s.length) (.int .u8 0)) i)) ∧ k = s.length - i

theorem aiQ (s : List UInt8) (hs : s.length ≤ 1000000) (H : Heap) : ACall Tryz.prog 41 [.str s] H (fun z H' => z = .str (capL s) ∧ H' = H) := by
 refine ACall.of_body Tryz.func41 rfl Tryz.ntmps41 Tryz.results41 rfl ?_
 refine .sr (.p rfl (zA (zS rfl)) (.nr (.mv rfl rfl (.s rfl (aqK U9 U142 U5 (tm rfl) (by omega)) ?_))))
 rintro _ _ ⟨b7, c7, rfl, hcl7, hcm7, hb7, hH⟩
 obtain rfl := hH.symm
 refine .as rfl rfl (.ng (.seq (.sr (.mv rfl rfl (.p rfl (ahM U142 (tm rfl)) (.p rfl (zJ zE) (.ng (.block ?_))))))))
 refine AWP.loopW (axU s b7 c7 H) (s.length) ⟨0, Nat.zero_le _, rfl, by simp [aeX], rfl⟩ (zC rfl (zC rfl (zC rfl (zC rfl zU)))) (hRa _) ?_
 rintro _ _ _ ⟨i, hi0, rfl, rfl, rfl⟩
 refine .sr (.p rfl (yN (tm rfl) (tm rfl)) (.ng (.seq ?_)))
 refine AWP.cond (tm rfl) (fun hc11 => ?_) (fun hc11 => ?_)
 ·try simp only [aM] at hc11
  have hi : i < s.length := by omega
  have hu8 : s[i].toNat < 256 := s[i].toNat_lt
  refine .skip ?_
  refine Next.go ?_
  refine .seq (.block (.sr (.mv rfl rfl (.p rfl (agN U142 Z5 (tm rfl) (tm rfl) (by omega) (by omega)) (.e rfl (yE G5 (tm rfl) (oS _ _ _) (bhG hi)) (.as rfl rfl (.as rfl rfl (.ng ?_))))))))
  refine AWP.seqTo 20 (.bool (decide ((97 : Int) ≤ (s[i].toNat : Int)) && decide ((s[i].toNat : Int) ≤ 122))) [3, 8, 9, 10, 4, 5] ?_ ?_
  ·-- region 5
   refine .region (.mv rfl rfl (.p rfl (yS (tm rfl) (zI 97)) (.mv rfl rfl ?_)))
   refine zL (t := 17) rfl (fun hg17 => ?_) (fun hg17 => ?_)
   ·have hh17 := hg17; try simp only [aM] at hh17
    refine .gp rfl rfl rfl (by assumption) (zJ (tm rfl)) (.gp rfl rfl rfl (by assumption) (abJ (tm rfl) (zI 122)) (.p rfl (zO (tm rfl) (by assumption) (tm rfl)) (.nil ?_)))
    exact ⟨rfl, zY rfl (by (simp; omega)) (zC rfl (zC rfl (zC rfl (zC rfl (zC rfl (zC rfl zU)))))), rfl⟩
   have hh17 := hg17; try simp only [aL, cA] at hh17
   refine .gn rfl rfl rfl (by assumption) (.gn rfl rfl rfl (by assumption) (.p rfl (zN (tm rfl) (by assumption) zM) (.nil ?_)))
   exact ⟨rfl, zY rfl (by (simp; omega)) (zC rfl (zC rfl (zC rfl (zC rfl (zC rfl (zC rfl zU)))))), rfl⟩
  refine AWP.sub [(20, _), (3, _), (8, _), (9, _), (10, _), (4, _), (5, _)] (zC rfl (zC rfl (zC rfl (zC rfl (zC rfl (zC rfl (zC rfl zU))))))) ?_
  refine AWP.cond (tm rfl) (fun hc20 => ?_) (fun hc20 => ?_)
  ·try simp only [aK] at hc20
   simp only [bK, aM] at hc20
   refine .region (.mv rfl rfl (.mv rfl rfl (.mv rfl rfl (.p rfl (avS (tm rfl) (zI 32) (by assumption) (by omega)) (.p rfl (agN U142 Z5 (tm rfl) (tm rfl) (by omega) (by omega)) (.e0 (zG Z5 (tm rfl) (tm rfl) rfl rfl (.inl rfl) (oS _ _ _) (by rw [bhF]; omega)) ?_))))))
   rw [sS]
   rw [show AV.cells (AV.int .u8 _) = [_] from rfl, bhE hi (capB_up (by omega) (by omega))]
   refine .nil ?_
   refine Block.go ?_
   refine Next.go ?_
   refine .region (.p rfl (yT (tm rfl) zE (by omega)) (.mv rfl rfl (.ng ?_)))
   refine Round.mk (J := axU s b7 c7 H) ⟨i + 1, by omega, rfl, rfl, rfl⟩ (zC rfl (zC rfl (zC rfl (zC rfl zU)))) (hRa _) (by omega)
  try simp only [aK] at hc20
  refine .skip ?_
  refine Block.go ?_
  refine Next.go ?_
  refine .region (.p rfl (yT (tm rfl) zE (by omega)) (.mv rfl rfl (.ng ?_)))
  refine Round.mk (J := axU s b7 c7 H) ⟨i + 1, by omega, rfl, by rw [baO hi (bmW (by simp only [cB, aL] at hc20; omega))], rfl⟩ (zC rfl (zC rfl (zC rfl (zC rfl zU)))) (hRa _) (by omega)
 try simp only [aL, bN] at hc11
 refine .exit ?_
 refine Next.ex ?_
 refine Next.ex ?_
 refine Block.hit ?_
 refine Next.go ?_
 refine .sr (.mv rfl rfl ?_)
 refine .e rfl (auS (l := capL s) U142 U9 U5 (tm rfl) (oS _ _ _) (capL_len s) (bhH (by omega)) (by simp only [zW]; omega)) ?_
 refine .as rfl rfl (.ng (.ret ?_))
 refine Ret.go (.cons (.tmp _ _ rfl) .nil) H (Heap.le_set hb7 _) ?_
 exact ⟨rfl, rfl⟩

theorem aoO (x : Int) (H : Heap) : ACall Tryz.prog 112 [.int .i64 x] H (fun y H' => y = .bool false ∧ H' = H) := by
 refine ACall.of_body Tryz.func112 rfl Tryz.ntmps112 Tryz.results112 rfl ?_
 refine .sr (.p rfl (zA zM) (.nr (.mv rfl rfl (.mv rfl rfl (.p rfl (qA (tm rfl) (tm rfl)) (.as rfl rfl (.ng (.ret ?_))))))))
 refine Ret.go (.cons (.tmp _ _ rfl) .nil) _ (hRa _) ?_
 refine ⟨?_, rfl⟩
 simp [yI]

theorem ahS (x y : Int) (H : Heap) : ACall Tryz.prog 46 [.int .i64 x, .int .i64 y] H (fun z H' => z = .int .i64 (sgn x y) ∧ H' = H) := by
 refine ACall.of_body Tryz.func46 rfl Tryz.ntmps46 Tryz.results46 rfl ?_
 refine .sr (.p rfl (zA zE) (.nr (.mv rfl rfl (.cl rfl Tryz.call112 (evs1 rfl) (aoO _ _) (.as rfl rfl (.nr (.mv rfl rfl (.cl rfl Tryz.call112 (evs1 rfl) (aoO _ _) ?_))))))))
 refine .as rfl rfl (.ng (.seq (.sr (.mv rfl rfl (.ng ?_)))))
 refine AWP.cond_false (tm rfl) (by rfl) ?_
 refine .skip ?_
 refine Next.go ?_
 refine .seq (.sr (.mv rfl rfl (.ng ?_)))
 refine AWP.cond_false (tm rfl) (by rfl) ?_
 refine .skip ?_
 refine Next.go ?_
 refine .seq (.sr (.mv rfl rfl (.mv rfl rfl (.p rfl (yN (tm rfl) (tm rfl)) (.ng ?_)))))
 refine AWP.cond (tm rfl) (fun hc16 => ?_) (fun hc16 => ?_)
 ·try simp only [aM] at hc16
  refine .sr (.p rfl (zA zE) (.ng (.ret ?_)))
  refine Next.rt ?_
  refine Ret.go (.cons (.tmp _ _ rfl) .nil) _ (hRa _) ?_
  refine ⟨?_, rfl⟩
  simp only [yI, sgn]
  rw [aO (by omega)]
  done
 try simp only [aL, bN] at hc16
 refine .skip ?_
 refine Next.go ?_
 refine .seq (.sr (.mv rfl rfl (.mv rfl rfl (.p rfl (yC (tm rfl) (tm rfl)) (.ng ?_)))))
 refine AWP.cond (tm rfl) (fun hc19 => ?_) (fun hc19 => ?_)
 ·try simp only [aM] at hc19
  refine .sr (.p rfl (zA zE) (.ng (.ret ?_)))
  refine Next.rt ?_
  refine Ret.go (.cons (.tmp _ _ rfl) .nil) _ (hRa _) ?_
  refine ⟨?_, rfl⟩
  simp only [yI, sgn]
  rw [aN (by omega), aO (by omega)]
  done
 try simp only [aL, bN] at hc19
 refine .skip ?_
 refine Next.go ?_
 refine .sr (.p rfl (zA zE) (.ng (.ret ?_)))
 refine Ret.go (.cons (.tmp _ _ rfl) .nil) _ (hRa _) ?_
 refine ⟨?_, rfl⟩
 simp only [yI, sgn]
 rw [aN (by omega), aN (by omega)]
 done

theorem adG (k : Int) (H : Heap) : ACall Tryz.prog 47 [.int .i64 k] H (fun z H' => z = .int .i64 (akF k) ∧ H' = H) := by
 refine ACall.of_body Tryz.func47 rfl Tryz.ntmps47 Tryz.results47 rfl ?_
 refine .sr (.p rfl (zA zE) (.ng (.seq (.sr (.mv rfl rfl (.ng (.block (.sr ?_))))))))
 refine .p rfl (zR (tm rfl) zE) (.as rfl rfl (.ng ?_))
 refine AWP.cond (tm rfl) (fun hc4 => ?_) (fun hc4 => ?_)
 ·try simp only [aM] at hc4
  refine .sr (.p rfl (zA zE) (.ng (.ret ?_)))
  refine Block.rt ?_
  refine Next.rt ?_
  refine Ret.go (.cons (.tmp _ _ rfl) .nil) _ (hRa _) ?_
  refine ⟨?_, rfl⟩
  simp_all [yI, akF]
 try simp only [aL] at hc4
 refine .sr (.p rfl (zR (tm rfl) zE) (.as rfl rfl (.ng ?_)))
 refine AWP.cond (tm rfl) (fun hc6 => ?_) (fun hc6 => ?_)
 ·try simp only [aM] at hc6
  refine .sr (.p rfl (zA zE) (.ng (.ret ?_)))
  refine Block.rt ?_
  refine Next.rt ?_
  refine Ret.go (.cons (.tmp _ _ rfl) .nil) _ (hRa _) ?_
  refine ⟨?_, rfl⟩
  simp_all [yI, akF]
 try simp only [aL] at hc6
 refine .sr (.p rfl (zR (tm rfl) zE) (.as rfl rfl (.ng ?_)))
 refine AWP.cond (tm rfl) (fun hc8 => ?_) (fun hc8 => ?_)
 ·try simp only [aM] at hc8
  refine .sr (.p rfl (zA zE) (.ng (.ret ?_)))
  refine Block.rt ?_
  refine Next.rt ?_
  refine Ret.go (.cons (.tmp _ _ rfl) .nil) _ (hRa _) ?_
  refine ⟨?_, rfl⟩
  simp_all [yI, akF]
 try simp only [aL] at hc8
 refine .skip ?_
 refine Block.go ?_
 refine Next.go ?_
 refine .sr (.p rfl (zA zE) (.ng (.ret ?_)))
 refine Ret.go (.cons (.tmp _ _ rfl) .nil) _ (hRa _) ?_
 refine ⟨?_, rfl⟩
 simp_all [yI, akF]

theorem akG (b : Bool) (H : Heap) : ACall Tryz.prog 44 [.bool b] H (fun z H' => z = .str (auL b) ∧ H' = H) := by
 refine ACall.of_body Tryz.func44 rfl Tryz.ntmps44 Tryz.results44 rfl ?_
 refine .sr (.p rfl (zA (zS rfl)) (.ng (.seq (.sr (.mv rfl rfl (.ng ?_))))))
 refine AWP.cond (tm rfl) (fun hc3 => ?_) (fun hc3 => ?_)
 ·try simp only [aK] at hc3
  refine .sr (.p rfl (zA (zS rfl)) (.ng (.ret ?_)))
  refine Next.rt ?_
  refine Ret.go (.cons (.tmp _ _ rfl) .nil) _ (hRa _) ?_
  refine ⟨?_, rfl⟩
  simp_all [yI, auL]
 try simp only [aK] at hc3
 refine .skip ?_
 refine Next.go ?_
 refine .sr (.p rfl (zA (zS rfl)) (.ng (.ret ?_)))
 refine Ret.go (.cons (.tmp _ _ rfl) .nil) _ (hRa _) ?_
 refine ⟨?_, rfl⟩
 simp_all [yI, auL]

theorem atY (a b : Val) (ba : a.bits < 18446744073709551616) (bb : b.bits < 18446744073709551616) (ta : a.text.length ≤ 1000000) (tb : b.text.length ≤ 1000000) (H : Heap) : ACall Tryz.prog 48 [a.av, b.av] H (fun z H' => z = .int .i64 (agU a b) ∧ H' = H) := by
 refine ACall.of_body Tryz.func48 rfl Tryz.ntmps48 Tryz.results48 rfl ?_
 refine .sr (.e rfl (zZ (tm rfl) (.inr ⟨_, rfl⟩)) (.e rfl (zZ (tm rfl) (.inr ⟨_, rfl⟩)) (.p rfl (zA zE) (.ng (.seq (.sr (.p rfl (zD U24 rfl Z3 (tm rfl)) (.p rfl (zH G3 (tm rfl)) ?_))))))))
 refine .ng (.block (.sr (.p rfl (zR (tm rfl) zE) (.as rfl rfl (.ng ?_)))))
 refine AWP.cond (tm rfl) (fun hc9 => ?_) (fun hc9 => ?_)
 ·try simp only [aM] at hc9
  refine .sr (.p rfl (zD U24 rfl Z22 (tm rfl)) (.p rfl (zH G22 (tm rfl)) (.p rfl (zD U24 rfl Z22 (tm rfl)) (.p rfl (zH G22 (tm rfl)) (.cl rfl Tryz.call105 (evs2 rfl rfl) (arU _ _ (by assumption) (by assumption) _) (.mv rfl rfl (.p rfl (zB (tm rfl) rfl) (.p rfl (zB (tm rfl) rfl) ?_))))))))
  refine .as rfl rfl (.as rfl rfl (.nr (.mv rfl rfl (.as rfl rfl (.ng (.ret ?_))))))
  refine Block.rt ?_
  refine Next.rt ?_
  refine Ret.go (.cons (.tmp _ _ rfl) .nil) _ (hRa _) ?_
  refine ⟨?_, rfl⟩
  simp only [yI, agU]
  rw [aO (by omega)]
  done
 try simp only [aL] at hc9
 refine .sr (.p rfl (zR (tm rfl) zE) (.as rfl rfl (.ng ?_)))
 refine AWP.cond (tm rfl) (fun hc20 => ?_) (fun hc20 => ?_)
 ·try simp only [aM] at hc20
  refine .seq ?_
  refine AWP.draw [(0, true), (1, true), (2, true), (3, true), (4, true), (5, true), (6, true), (7, true)] rfl (by decide +kernel) ?_
  refine .p rfl rfl (zD U24 rfl Z4 (tm rfl)) (.p rfl rfl (zH G4 (tm rfl)) ?_)
  refine APlan.f rfl rfl (fun _ => zF Tryz.call44 (evs1 rfl) (akG _ _)) ?_
  refine .p rfl rfl (zD U24 rfl Z4 (tm rfl)) (.p rfl rfl (zH G4 (tm rfl)) ?_)
  refine APlan.f rfl rfl (fun _ => zF Tryz.call44 (evs1 rfl) (akG _ _)) ?_
  refine APlan.f rfl rfl (fun _ => zF Tryz.call113 (evs2 rfl rfl) (compareA _ _ _)) ?_
  refine .p rfl rfl (zA (tm rfl)) (.nil ?_)
  refine Next.go ?_
  refine .ret ?_
  refine Block.rt ?_
  refine Next.rt ?_
  refine Ret.go (.cons (.tmp _ _ rfl) .nil) _ (hRa _) ?_
  refine ⟨?_, rfl⟩
  simp only [yI, agU]
  rw [aN (by omega), aO (by omega)]
  done
 try simp only [aL] at hc20
 refine .skip ?_
 refine Block.go ?_
 refine Next.go ?_
 refine .seq ?_
 refine AWP.draw [(0, true), (1, true), (2, true), (3, true), (4, true), (5, true), (6, true), (7, true)] rfl (by decide +kernel) ?_
 refine .p rfl rfl (zD U24 rfl Z9 (tm rfl)) (.p rfl rfl (zH G9 (tm rfl)) ?_)
 refine APlan.f rfl rfl (fun _ => zF Tryz.call41 (evs1 rfl) (aiQ _ (by assumption) _)) ?_
 refine .p rfl rfl (zD U24 rfl Z9 (tm rfl)) (.p rfl rfl (zH G9 (tm rfl)) ?_)
 refine APlan.f rfl rfl (fun _ => zF Tryz.call41 (evs1 rfl) (aiQ _ (by assumption) _)) ?_
 refine APlan.f rfl rfl (fun _ => zF Tryz.call113 (evs2 rfl rfl) (compareA _ _ _)) ?_
 refine .p rfl rfl (zA (tm rfl)) (.nil ?_)
 refine Next.go ?_
 refine .ret ?_
 refine Ret.go (.cons (.tmp _ _ rfl) .nil) _ (hRa _) ?_
 refine ⟨?_, rfl⟩
 simp only [yI, agU]
 rw [aN (by omega), aN (by omega)]
 done

theorem compareCall (x y : Val) (bx : x.bits < 18446744073709551616) (by' : y.bits < 18446744073709551616) (tx : x.text.length ≤ 1000000) (ty : y.text.length ≤ 1000000) : ∀ H, ACall Tryz.prog 48 [.agg [.int .i64 x.kind, .int .u64 (x.bits : Int), .bool x.is, .str x.text, .int .i64 x.fail], .agg [.int .i64 y.kind, .int .u64 (y.bits : Int), .bool y.is, .str y.text, .int .i64 y.fail]] H (fun z H' => z = .int .i64 (agU x y) ∧ H' = H) := fun H => atY x y bx by' tx ty H
theorem axC {a b : Val} (h : a.kind = 4 ∨ b.kind = 4) : abE a b = 0 := aO h
theorem afL {a b : Val} (h : ¬ (a.kind = 4 ∨ b.kind = 4)) : abE a b = if a.kind = 0 then agU (aiP b.kind) b else if b.kind = 0 then agU a (aiP a.kind) else if a.kind = b.kind then agU a b else sgn (akF a.kind) (akF b.kind) := by
 unfold abE
 rw [aN h]
 by_cases ha : a.kind = 0
 ·simp [ha, aiP]
 by_cases hb : b.kind = 0
 ·simp [ha, hb, aiP]
 by_cases hk : a.kind = b.kind
 ·simp only [hb, if_false, hk, ne_eq, not_true, if_true]
 simp only [ha, hb, if_false, hk, ne_eq, not_false_eq_true, if_true]

theorem acC (p : AV) (a b : Val) (ba : a.bits < 18446744073709551616) (bb : b.bits < 18446744073709551616) (ta : a.text.length ≤ 1000000) (tb : b.text.length ≤ 1000000) (H : Heap) : ACall Tryz.prog 18 [p, a.av, b.av] H (fun z H' => z = .int .i64 (abE a b) ∧ H' = H) := by
 refine ACall.of_body Tryz.func18 rfl Tryz.ntmps18 Tryz.results18 rfl ?_
 refine .sr (.s rfl (alY (tm rfl) (.inr ⟨_, rfl⟩)) ?_)
 rintro _ _ ⟨b4, hb4, rfl, hH⟩
 obtain rfl := hH.symm
 refine .s rfl (alY (tm rfl) (.inr ⟨_, rfl⟩)) ?_
 rintro _ _ ⟨b5, hb5, rfl, hH⟩
 obtain rfl := hH.symm
 have hn4_5 := Heap.ne_of (oS _ _ _) hb5
 refine .p rfl (zA zE) (.ng (.seq (.block ?_)))
 refine AWP.seqTo 7 (.bool (decide (a.kind = 4) || decide (b.kind = 4))) [4, 5, 6] ?_ ?_
 ·-- region 1
  refine .region (.p rfl (zV U24 rfl Z3 (tm rfl)) (.e rfl (yE G3 (tm rfl) ((oN _ _ (by assumption)).trans (oS _ _ _)) rfl) (.p rfl (zR (tm rfl) zE) (.mv rfl rfl ?_))))
  refine zL (t := 11) rfl (fun hg11 => ?_) (fun hg11 => ?_)
  ·have hh11 := hg11; try simp only [aM] at hh11
   refine .gn rfl rfl rfl (by assumption) (.gn rfl rfl rfl (by assumption) (.gn rfl rfl rfl (by assumption) (.p rfl (zO (tm rfl) (by assumption) zM) (.as rfl rfl (.nil ?_)))))
   exact ⟨rfl, zY rfl (by (simp; omega)) (zC rfl (zC rfl (zC rfl zU))), rfl⟩
  have hh11 := hg11; try simp only [aL] at hh11
  refine .gp rfl rfl rfl (by assumption) (zV U24 rfl Z3 (tm rfl)) (.gs rfl rfl rfl (by assumption) (yE G3 (tm rfl) (oS _ _ _) rfl) ?_)
  rintro _ _ ⟨rfl, hH⟩
  obtain rfl := hH.symm
  refine .gp rfl rfl rfl (by assumption) (zR (tm rfl) zE) (.p rfl (zN (tm rfl) (by assumption) (tm rfl)) (.as rfl rfl (.nil ?_)))
  exact ⟨rfl, zY rfl (by (simp; omega)) (zC rfl (zC rfl (zC rfl zU))), rfl⟩
 refine AWP.sub [(7, _), (4, _), (5, _), (6, _)] (zC rfl (zC rfl (zC rfl (zC rfl zU)))) ?_
 refine AWP.cond (tm rfl) (fun hc7 => ?_) (fun hc7 => ?_)
 ·try simp only [aK] at hc7
  simp only [cV, aM] at hc7
  refine .sr (.p rfl (zA zE) (.ng ?_))
  refine AWP.dropb (hb5) ?_
  refine AWP.dropb (hb4) ?_
  refine .ret ?_
  refine Block.rt ?_
  refine Next.rt ?_
  refine Ret.go (.cons (.tmp _ _ rfl) .nil) _ (hRa _) ?_
  refine ⟨?_, rfl⟩
  simp only [yI]
  rw [axC hc7]
  done
 try simp only [aK] at hc7
 simp only [cP, aL] at hc7
 refine .sr (.p rfl (zV U24 rfl Z3 (tm rfl)) (.e rfl (yE G3 (tm rfl) ((oN _ _ (by assumption)).trans (oS _ _ _)) rfl) (.p rfl (zR (tm rfl) zE) (.as rfl rfl (.ng ?_)))))
 refine AWP.cond (tm rfl) (fun hc16 => ?_) (fun hc16 => ?_)
 ·try simp only [aM] at hc16
  refine .region (.p rfl (zV U24 rfl Z3 (tm rfl)) (.e rfl (yE G3 (tm rfl) (oS _ _ _) rfl) (.p rfl (yK zr24 pl24 (.cons (tm rfl) (.inl rfl) .nil) rfl) (.e0 (zG Z24 (tm rfl) (tm rfl) rfl rfl (.inr ⟨_, rfl⟩) ((oN _ _ (by assumption)).trans (oS _ _ _)) (lB rfl)) ?_))))
  try first | rw [sS] | rw [sU (by assumption)]
  refine .nil ?_
  refine Block.go ?_
  refine Next.go ?_
  refine .seq (.sr (.p rfl (zV U24 rfl Z3 (tm rfl)) (.e rfl (yE G3 (tm rfl) ((oN _ _ (by assumption)).trans (oS _ _ _)) rfl) (.p rfl (zV U24 rfl Z3 (tm rfl)) (.e rfl (yE G3 (tm rfl) (oS _ _ _) rfl) (.p rfl (qA (tm rfl) (tm rfl)) (.ng ?_)))))))
  refine AWP.frz (t := 5) rfl (fS hb5 _) ?_
  refine AWP.frz (t := 4) rfl (hb4) ?_
  refine AWP.cond (tm rfl) (fun hc34 => ?_) (fun hc34 => ?_)
  ·try simp only [aM, ne_eq] at hc34
   refine .seq ?_
   refine AWP.draw [(0, true), (1, true), (2, true), (3, true), (4, true), (5, true), (6, true), (7, true)] rfl (by decide +kernel) ?_
   refine .p rfl rfl (zD U24 rfl Z3 (tm rfl)) (.p rfl rfl (zH G3 (tm rfl)) ?_)
   refine APlan.f rfl rfl (fun _ => zF C47 (evs1 rfl) (adG _ _)) ?_
   refine .p rfl rfl (zD U24 rfl Z3 (tm rfl)) (.p rfl rfl (zH G3 (tm rfl)) ?_)
   refine APlan.f rfl rfl (fun _ => zF C47 (evs1 rfl) (adG _ _)) ?_
   refine APlan.f rfl rfl (fun _ => zF Tryz.call46 (evs2 rfl rfl) (ahS _ _ _)) ?_
   refine .p rfl rfl (zA (tm rfl)) (.nil ?_)
   refine Next.go ?_
   refine .ret ?_
   refine Next.rt ?_
   refine Ret.go (.cons (.tmp _ _ rfl) .nil) _ (hRa _) ?_
   refine ⟨?_, rfl⟩
   simp only [yI]
   exact (hc34 trivial).elim
  try simp only [aL, ne_eq, cG] at hc34
  refine .skip ?_
  refine Next.go ?_
  refine .sr (.p rfl (zQ G24 Z24 (tm rfl) (lB rfl)) (.p rfl (zQ G24 Z24 (tm rfl) (lB rfl)) (.cl rfl Tryz.call48 (evs2 rfl rfl) (by exact compareCall (aiP b.kind) b (by (show (0 : Nat) < 18446744073709551616; decide)) (by assumption) (Nat.zero_le _) (by assumption) _) (.as rfl rfl (.ng (.ret ?_))))))
  refine Ret.go (.cons (.tmp _ _ rfl) .nil) _ (hRa _) ?_
  refine ⟨?_, rfl⟩
  simp only [yI]
  rw [afL (by omega), aO (by omega)]
  done
 try simp only [aL] at hc16
 refine .sr (.p rfl (zV U24 rfl Z3 (tm rfl)) (.e rfl (yE G3 (tm rfl) (oS _ _ _) rfl) (.p rfl (zR (tm rfl) zE) (.as rfl rfl (.ng ?_)))))
 refine AWP.cond (tm rfl) (fun hc23 => ?_) (fun hc23 => ?_)
 ·try simp only [aM] at hc23
  refine .region (.p rfl (zV U24 rfl Z3 (tm rfl)) (.e rfl (yE G3 (tm rfl) ((oN _ _ (by assumption)).trans (oS _ _ _)) rfl) (.p rfl (yK zr24 pl24 (.cons (tm rfl) (.inl rfl) .nil) rfl) (.e0 (zG Z24 (tm rfl) (tm rfl) rfl rfl (.inr ⟨_, rfl⟩) (oS _ _ _) (lB rfl)) ?_))))
  try first | rw [sS] | rw [sU (by assumption)]
  refine .nil ?_
  refine Block.go ?_
  refine Next.go ?_
  refine .seq (.sr (.p rfl (zV U24 rfl Z3 (tm rfl)) (.e rfl (yE G3 (tm rfl) ((oN _ _ (by assumption)).trans (oS _ _ _)) rfl) (.p rfl (zV U24 rfl Z3 (tm rfl)) (.e rfl (yE G3 (tm rfl) (oS _ _ _) rfl) (.p rfl (qA (tm rfl) (tm rfl)) (.ng ?_)))))))
  refine AWP.frz (t := 5) rfl (hb5) ?_
  refine AWP.frz (t := 4) rfl (hb4) ?_
  refine AWP.cond (tm rfl) (fun hc34 => ?_) (fun hc34 => ?_)
  ·try simp only [aM, ne_eq] at hc34
   refine .seq ?_
   refine AWP.draw [(0, true), (1, true), (2, true), (3, true), (4, true), (5, true), (6, true), (7, true)] rfl (by decide +kernel) ?_
   refine .p rfl rfl (zD U24 rfl Z3 (tm rfl)) (.p rfl rfl (zH G3 (tm rfl)) ?_)
   refine APlan.f rfl rfl (fun _ => zF C47 (evs1 rfl) (adG _ _)) ?_
   refine .p rfl rfl (zD U24 rfl Z3 (tm rfl)) (.p rfl rfl (zH G3 (tm rfl)) ?_)
   refine APlan.f rfl rfl (fun _ => zF C47 (evs1 rfl) (adG _ _)) ?_
   refine APlan.f rfl rfl (fun _ => zF Tryz.call46 (evs2 rfl rfl) (ahS _ _ _)) ?_
   refine .p rfl rfl (zA (tm rfl)) (.nil ?_)
   refine Next.go ?_
   refine .ret ?_
   refine Next.rt ?_
   refine Ret.go (.cons (.tmp _ _ rfl) .nil) _ (hRa _) ?_
   refine ⟨?_, rfl⟩
   simp only [yI]
   exact (hc34 trivial).elim
  try simp only [aL, ne_eq, cG] at hc34
  refine .skip ?_
  refine Next.go ?_
  refine .sr (.p rfl (zQ G24 Z24 (tm rfl) (lB rfl)) (.p rfl (zQ G24 Z24 (tm rfl) (lB rfl)) (.cl rfl Tryz.call48 (evs2 rfl rfl) (by exact compareCall a (aiP a.kind) (by assumption) (by (show (0 : Nat) < 18446744073709551616; decide)) (by assumption) (Nat.zero_le _) _) (.as rfl rfl (.ng (.ret ?_))))))
  refine Ret.go (.cons (.tmp _ _ rfl) .nil) _ (hRa _) ?_
  refine ⟨?_, rfl⟩
  simp only [yI]
  rw [afL (by omega), aN (by omega), aO (by omega)]
  done
 try simp only [aL] at hc23
 refine .skip ?_
 refine Block.go ?_
 refine Next.go ?_
 refine .seq (.sr (.p rfl (zV U24 rfl Z3 (tm rfl)) (.e rfl (yE G3 (tm rfl) ((oN _ _ (by assumption)).trans (oS _ _ _)) rfl) (.p rfl (zV U24 rfl Z3 (tm rfl)) (.e rfl (yE G3 (tm rfl) (oS _ _ _) rfl) (.p rfl (qA (tm rfl) (tm rfl)) (.ng ?_)))))))
 refine AWP.frz (t := 5) rfl (hb5) ?_
 refine AWP.frz (t := 4) rfl (hb4) ?_
 refine AWP.cond (tm rfl) (fun hc34 => ?_) (fun hc34 => ?_)
 ·try simp only [aM, ne_eq] at hc34
  refine .seq ?_
  refine AWP.draw [(0, true), (1, true), (2, true), (3, true), (4, true), (5, true), (6, true), (7, true)] rfl (by decide +kernel) ?_
  refine .p rfl rfl (zD U24 rfl Z3 (tm rfl)) (.p rfl rfl (zH G3 (tm rfl)) ?_)
  refine APlan.f rfl rfl (fun _ => zF C47 (evs1 rfl) (adG _ _)) ?_
  refine .p rfl rfl (zD U24 rfl Z3 (tm rfl)) (.p rfl rfl (zH G3 (tm rfl)) ?_)
  refine APlan.f rfl rfl (fun _ => zF C47 (evs1 rfl) (adG _ _)) ?_
  refine APlan.f rfl rfl (fun _ => zF Tryz.call46 (evs2 rfl rfl) (ahS _ _ _)) ?_
  refine .p rfl rfl (zA (tm rfl)) (.nil ?_)
  refine Next.go ?_
  refine .ret ?_
  refine Next.rt ?_
  refine Ret.go (.cons (.tmp _ _ rfl) .nil) _ (hRa _) ?_
  refine ⟨?_, rfl⟩
  simp only [yI]
  rw [afL (by omega), aN (by omega), aN (by omega), aN (by omega)]
  done
 try simp only [aL, ne_eq, cG] at hc34
 refine .skip ?_
 refine Next.go ?_
 refine .sr (.p rfl (zQ G24 Z24 (tm rfl) (lB rfl)) (.p rfl (zQ G24 Z24 (tm rfl) (lB rfl)) (.cl rfl Tryz.call48 (evs2 rfl rfl) (compareCall a b (by assumption) (by assumption) (by assumption) (by assumption) _) (.as rfl rfl (.ng (.ret ?_))))))
 refine Ret.go (.cons (.tmp _ _ rfl) .nil) _ (hRa _) ?_
 refine ⟨?_, rfl⟩
 simp only [yI]
 rw [afL (by omega), aN (by omega), aN (by omega), aO (by omega)]
 done

end
theorem BIG_ten : ∃ k : Nat, k = 2500 ∧ BIG < 10 ^ k := ⟨2500, rfl, by unfold BIG; decide +kernel⟩
theorem blA (ds : List UInt8) : (apW ds).length ≤ ds.length := aoY _ _
theorem bkR (ds : List UInt8) : aiI ds ≤ ds.length := by unfold aiI; have := blA ds; omega
theorem ofN_exp (neg : Bool) {m : Nat} {e : Int} (hm : m < 18014398509481984) (he : -1075 ≤ e ∧ e ≤ 972) : -1075 ≤ (ofN neg m e).2.2 ∧ (ofN neg m e).2.2 ≤ 2500 := by
 obtain ⟨K, hK, hB⟩ := BIG_ten
 have h1 := bkJ hm he
 have h2 : (dec (ofR m e)).length ≤ K := (ahR (by omega)).2 (cX h1 hB)
 have h3 := bkR (dec (ofR m e))
 have h4 : -1075 ≤ ofX m e ∧ ofX m e ≤ 0 := by
  unfold ofX
  have := (alX (-e).toNat m).2
  split <;> omega
 rw [bkK]
 unfold mkN
 split
 ·simp
 split
 ·simp only; omega
 simp
theorem bbS {x : Nat} (hk : yD x < 3) : (adT x 15).2 = 0 ∧ -2000 ≤ (adT x 15).1.2.2 ∧ (adT x 15).1.2.2 ≤ 5000 := by
 have hm := acB x
 have hp := aaS x
 have he := ofN_exp (alR x) (m := qI x) (e := qF x) (by omega) hp
 have hr := avZ (alR x) (qI x) (qF x)
 have hl := (aaY hr).1
 unfold adT
 rw [aN (by omega)]
 unfold apC
 rw [aN (by omega)]
 generalize ofN (alR x) (qI x) (qF x) = o at *
 obtain ⟨ng, ds, e⟩ := o
 dsimp only at he hr hl ⊢
 unfold sigD
 split
 ·exact ⟨rfl, by show -2000 ≤ e; omega, by show e ≤ 5000; omega⟩
 rename_i hlen
 unfold cutD
 have hs : ∀ s : List UInt8, s.length ≤ 16 → (mkN ng s (e + ds.length - 15)).2 = 0 ∧ -2000 ≤ (mkN ng s (e + ds.length - 15)).1.2.2 ∧ (mkN ng s (e + ds.length - 15)).1.2.2 ≤ 5000 := by
  intro s hs
  have h1 := bkR s
  have h2 : (acH s).length ≤ s.length := aZ (ahE _ _) (blA s)
  unfold mkN
  split
  ·simp
  split
  ·exact ⟨rfl, by show -2000 ≤ e + (ds.length : Int) - 15 + (aiI s : Int); omega, by show e + (ds.length : Int) - 15 + (aiI s : Int) ≤ 5000; omega⟩
  rename_i h; exact absurd (show okD s (e + ds.length - 15) from ⟨by omega, by omega, by omega⟩) h
 refine hs _ ?_
 split
 ·refine aZ (amL _) ?_
  rw [aQ]; omega
 rw [aQ]; omega
theorem gen_len (hk : l.ok) {neg : Bool} {ds : List UInt8} {e : Int} (hr : qE ds e = true) (hlen : ds.length ≤ 16) (he : -2000 ≤ e ∧ e ≤ 5000) : (bcX l ((neg, ds, e), 0)).length ≤ 900 := by
 obtain ⟨h1, h2, h3, h4, h5⟩ := hk
 have hm : (if neg = true then l.minus else []).length ≤ 10 := by split; exact h3; simp
 unfold bcX
 simp only [ne_eq, not_true_eq_false, if_false]
 have hp9 := he
 split
 ·rename_i hp
  have hp2 : (ds.length : Int) + e ≤ 15 ∧ -4 ≤ (ds.length : Int) + e := by
   rcases hp with rfl | hp
   ·have : e = 0 := by simpa [qE] using hr
    subst this; exact ⟨by simp, by simp⟩
   exact ⟨hp.2, hp.1⟩
  have hs : (qN ds ((ds.length : Int) + e)).1.1.length ≤ 100 ∧ (qN ds ((ds.length : Int) + e)).1.2.length ≤ 100 := by
   unfold qN
   split
   ·simp
   split
   ·simp only [bE, bL, aS, bR]; omega
   split
   ·simp only [bL, aS, bR]; omega
   simp only [aQ, bS]; omega
  have h6 : (if (qN ds ((ds.length : Int) + e)).1.2 = [] then [] else l.dc ++ (qN ds ((ds.length : Int) + e)).1.2).length ≤ 110 := by
   by_cases q : (qN ds ((ds.length : Int) + e)).1.2 = []
   ·rw [aO q]; simp
   rw [aN q, aS]; omega
  unfold agX
  by_cases q : (qN ds ((ds.length : Int) + e)).2 = true
  ·rw [aO q, aS, aS]; omega
  rw [aN q]; simp
 have hd : (dec (adX ((ds.length : Int) + e))).length ≤ 8 := (ahR (by decide)).2 (by unfold adX; split <;> omega)
 have h0 : (if (dec (adX ((ds.length : Int) + e))).length < 2 then ([48] : List UInt8) else []).length ≤ 1 := by split <;> simp
 have h6 : (if (1 : Int) < (ds.length : Int) then l.dc ++ ds.drop 1 else []).length ≤ 110 := by
  by_cases q : (1 : Int) < (ds.length : Int)
  ·rw [aO q, aS, bS]; omega
  rw [aN q]; simp
 unfold apV
 simp only [aS, bE, bL, aQ]
 omega
theorem auZ (hk : l.ok) {x : Nat} (hx : yD x < 3) : (bcX l (adT x 15)).length ≤ 900 := by
 obtain ⟨h1, h2, h3⟩ := bbS hx
 have hr := aeE x 15
 have hl2 := alZ x 15
 generalize hs : adT x 15 = s at *
 obtain ⟨⟨ng, ds, e⟩, er⟩ := s
 dsimp only at h1 h2 h3 hr hl2 ⊢
 subst h1
 exact gen_len hk hr (by omega) ⟨h2, h3⟩
theorem beA (hl : l ∈ locs) (h : axI v = true) : (acE l v).1.length ≤ 1000000 := by
 have ht := beM h
 unfold acE
 split
 ·rename_i hk
  rcases anM h with e | ⟨hk3, _⟩ | e | ⟨_, e⟩ | ⟨_, e⟩
  ·rw [e] at hk; exact absurd hk (by decide)
  ·exact aZ (auZ (abG l hl) hk3) (by decide)
  ·rw [e] at hk; exact absurd hk (show ¬ (2 : Int) = 1 by decide)
  ·rw [e] at hk; exact absurd hk (show ¬ (3 : Int) = 1 by decide)
  rw [e] at hk; exact absurd hk (show ¬ (4 : Int) = 1 by decide)
 split
 ·cases v.is <;> decide
 exact aZ ht (by decide)
end Go.Proofs.YtmmgbnolccpjoaaGreatDoor
