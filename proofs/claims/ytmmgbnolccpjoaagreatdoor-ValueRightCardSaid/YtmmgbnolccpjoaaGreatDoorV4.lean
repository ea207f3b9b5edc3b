import Derived.Test.YtmmgbnolccpjoaaGreatDoorYd
import Derived.Test.YtmmgbnolccpjoaaGreatDoorV2
import Derived.Test.YtmmgbnolccpjoaaGreatDoorU3
import Derived.Test.YtmmgbnolccpjoaaGreatDoorX2
import Derived.Test.YtmmgbnolccpjoaaGreatDoorSsk
import Derived.Test.YtmmgbnolccpjoaaGreatDoorV3
import Derived.Test.YtmmgbnolccpjoaaGreatDoorLgk
namespace Go.Proofs.YtmmgbnolccpjoaaGreatDoor
open Go Go.RowKit

structure Val where
 kind : Int
 bits : Nat
 is : Bool
 text : List UInt8
 fail : Int
instance : DecidableEq Val := fun x y =>
 if h : x.kind = y.kind ∧ x.bits = y.bits ∧ x.is = y.is ∧ x.text = y.text ∧ x.fail = y.fail then .isTrue (by cases x; cases y; simp_all) else .isFalse (by rintro rfl; exact h ⟨rfl, rfl, rfl, rfl, rfl⟩)
def Val.cs (v : Val) : List AV := [.int .i64 v.kind, .int .u64 (v.bits : Int), .bool v.is, .str v.text, .int .i64 v.fail]
def Val.av (v : Val) : AV := .agg v.cs
def yN (n : Int) : Val := ⟨4, 0, false, [], n⟩
def acP (b : Bool) : Val := ⟨2, 0, b, [], 0⟩
def ahU (x : Nat) : Val := if 3 ≤ zY x then yN 6 else ⟨1, x, false, [], 0⟩
def ahR (s : List UInt8) : Val := if 1000 < s.length then yN 3 else ⟨3, 0, false, s, 0⟩
def agC (k : Int) : Val := ⟨k, 0, false, [], 0⟩
def aaG (n : Int) : List UInt8 := if n = 1 then [35, 78, 85, 76, 76, 33] else if n = 2 then [35, 68, 73, 86, 47, 48, 33] else if n = 3 then [35, 86, 65, 76, 85, 69, 33] else if n = 4 then [35, 82, 69, 70, 33] else if n = 5 then [35, 78, 65, 77, 69, 63] else if n = 6 then [35, 78, 85, 77, 33] else if n = 7 then [35, 78, 47, 65] else if n = 8 then [35, 67, 89, 67, 76, 69, 33] else []
def yO (v : Val) : Bool :=
 if v.kind = 0 then decide (v = ⟨0, 0, false, [], 0⟩) else if v.kind = 1 then decide (v = ahU v.bits) else if v.kind = 2 then decide (v = acP v.is) else if v.kind = 3 then decide (v = ahR v.text)
 else if v.kind = 4 then decide (v = yN v.fail) && decide (aaG v.fail ≠ []) else false
def aqV (b : Bool) : List UInt8 := if b then [84, 82, 85, 69] else [70, 65, 76, 83, 69]
def capB (c : UInt8) : UInt8 := if 97 ≤ c.toNat ∧ c.toNat ≤ 122 then UInt8.ofNat (c.toNat - 32) else c
def capL (s : List UInt8) : List UInt8 := s.map capB
def sgn (x y : Int) : Int := if x < y then -1 else if y < x then 1 else 0
def ahT (k : Int) : Int := if k = 1 then 1 else if k = 3 then 2 else if k = 2 then 3 else 0
def yJ (l : Loc) (v : Val) : Nat × Int :=
 if v.kind = 1 then (v.bits, 0) else if v.kind = 2 ∧ v.is = true then (oneN, 0)
 else if v.kind = 3 then (if (abL l (abN yA v.text)).2 ≠ 0 then (0, 3) else ((abL l (abN yA v.text)).1.bits, 0)) else (0, v.fail)
def acV (v : Val) : Bool × Int :=
 if v.kind = 1 then (decide (alU v.bits ≠ 0), 0) else if v.kind = 3 then (if capL v.text = aqV true then (true, 0) else if capL v.text = aqV false then (false, 0) else (false, 3)) else (v.is, v.fail)
def abP (l : Loc) (v : Val) : List UInt8 × Int := if v.kind = 1 then (genD l (arF v.bits 15), 0) else if v.kind = 2 then (aqV v.is, 0) else (v.text, v.fail)
def aeV (a b : Val) : Int := if a.kind = 1 then avV a.bits b.bits else if a.kind = 2 then Lib.compareBytes (aqV a.is) (aqV b.is) else Lib.compareBytes (capL a.text) (capL b.text)
def aaA (a b : Val) : Int :=
 if a.kind = 4 ∨ b.kind = 4 then 0 else
 let x := if a.kind = 0 then agC b.kind else a
 let y := if a.kind = 0 then b else if b.kind = 0 then agC a.kind else b
 if x.kind ≠ y.kind then sgn (ahT x.kind) (ahT y.kind) else aeV x y
def hunN : Nat := yG false 100 0 false
def afH : Nat := amA oneN (yG false 2 0 false)
def aaU (l : Loc) (op : List UInt8) (a : Val) : Val :=
 if a.kind = 4 ∨ op = [43] then a else if op ≠ [45] ∧ op ≠ [37] then yN 5
 else if (yJ l a).2 ≠ 0 then yN (yJ l a).2
 else if op = [37] then ahU (amA (yJ l a).1 hunN) else ahU (amV (yJ l a).1)
def divV (x y : Nat) : Val := if alU y = 0 then yN 2 else ahU (amA x y)
def axH (x y : Nat) : Val :=
 if alU x = 0 ∧ alU y = 0 then yN 6 else if alU x = 0 ∧ alU y < 0 then yN 2
 else if (toN y).2 = 0 ∧ isN y = true ∧ -1000000 ≤ (toN y).1 ∧ (toN y).1 ≤ 1000000 then ahU (avU x (toN y).1)
 else if y = afH then ahU (alT x) else yN 6
def ajN (l : Loc) (a b : Val) (f : Nat → Nat → Val) : Val :=
 if (yJ l a).2 ≠ 0 then yN (yJ l a).2 else if (yJ l b).2 ≠ 0 then yN (yJ l b).2 else f (yJ l a).1 (yJ l b).1
def yB (l : Loc) (op : List UInt8) (a b : Val) : Val :=
 if a.kind = 4 then a else if b.kind = 4 then b
 else if op = [61] then acP (decide (aaA a b = 0)) else if op = [60, 62] then acP (decide (aaA a b ≠ 0))
 else if op = [60] then acP (decide (aaA a b < 0)) else if op = [60, 61] then acP (decide (aaA a b ≤ 0))
 else if op = [62] then acP (decide (0 < aaA a b)) else if op = [62, 61] then acP (decide (0 ≤ aaA a b))
 else if op = [38] then ahR ((abP l a).1 ++ (abP l b).1)
 else if op = [43] then ajN l a b fun x y => ahU (afJ x y)
 else if op = [45] then ajN l a b fun x y => ahU (afJ x (amV y))
 else if op = [42] then ajN l a b fun x y => ahU (adH x y)
 else if op = [47] then ajN l a b divV else if op = [94] then ajN l a b axH else yN 5

theorem aeB (x : Nat) : yO (ahU x) = true := by
 by_cases h : 3 ≤ zY x
 ·rw [ahU, if_pos h]; decide
 ·have e : ahU x = ⟨1, x, false, [], 0⟩ := if_neg h
  rw [e]
  show decide ((⟨1, x, false, [], 0⟩ : Val) = ahU x) = true
  exact decide_eq_true e.symm
theorem ayW (s : List UInt8) : yO (ahR s) = true := by
 by_cases h : 1000 < s.length
 ·rw [ahR, if_pos h]; decide
 ·have e : ahR s = ⟨3, 0, false, s, 0⟩ := if_neg h
  rw [e]
  show decide ((⟨3, 0, false, s, 0⟩ : Val) = ahR s) = true
  exact decide_eq_true e.symm
theorem bbS (b : Bool) : yO (acP b) = true := by cases b <;> decide
theorem aiJ {n : Int} (h : aaG n ≠ []) : yO (yN n) = true := by
 show (decide (yN n = yN n) && decide (aaG n ≠ [])) = true
 rw [decide_eq_true h, decide_eq_true rfl]; rfl
theorem agL {v : Val} (h : yO v = true) : v = agC 0 ∨ (zY v.bits < 3 ∧ v = ⟨1, v.bits, false, [], 0⟩) ∨ v = acP v.is ∨ (v.text.length ≤ 1000 ∧ v = ⟨3, 0, false, v.text, 0⟩) ∨ (aaG v.fail ≠ [] ∧ v = yN v.fail) := by
 unfold yO at h
 split at h
 ·exact .inl (of_decide_eq_true h)
 ·split at h
  ·rename_i hk
   have h := of_decide_eq_true h
   by_cases q : 3 ≤ zY v.bits
   ·rw [ahU, if_pos q] at h; rw [h] at hk; exact absurd hk (by decide)
   ·exact .inr (.inl ⟨by omega, by rw [ahU, if_neg q] at h; exact h⟩)
  ·split at h
   ·exact .inr (.inr (.inl (of_decide_eq_true h)))
   ·split at h
    ·rename_i hk
     have h := of_decide_eq_true h
     by_cases q : 1000 < v.text.length
     ·rw [ahR, if_pos q] at h; rw [h] at hk; exact absurd hk (by decide)
     ·exact .inr (.inr (.inr (.inl ⟨by omega, by rw [ahR, if_neg q] at h; exact h⟩)))
    ·split at h
     ·simp only [Bool.and_eq_true, decide_eq_true_eq] at h
      exact .inr (.inr (.inr (.inr ⟨h.2, h.1⟩)))
     ·cases h
theorem adV {v : Val} (h : yO v = true) : v.text.length ≤ 1000 := by
 rcases agL h with h | ⟨_, h⟩ | h | ⟨h, _⟩ | ⟨_, h⟩
 ·rw [h]; exact Nat.zero_le _
 ·rw [h]; exact Nat.zero_le _
 ·rw [h]; exact Nat.zero_le _
 ·exact h
 ·rw [h]; exact Nat.zero_le _
theorem ahZ {l : Loc} {v : Val} (h : yO v = true) (hf : (yJ l v).2 ≠ 0) : aaG (yJ l v).2 ≠ [] := by
 rcases agL h with h | ⟨_, h⟩ | h | ⟨_, h⟩ | ⟨hn, h⟩
 ·rw [h] at hf; exact absurd rfl hf
 ·rw [h] at hf; exact absurd rfl hf
 ·rw [h] at hf
  cases hb : v.is <;> rw [hb] at hf <;> exact absurd rfl hf
 ·rw [h] at hf ⊢
  have e : yJ l ⟨3, 0, false, v.text, 0⟩ = if (abL l (abN yA v.text)).2 ≠ 0 then (0, 3) else ((abL l (abN yA v.text)).1.bits, 0) := rfl
  rw [e] at hf ⊢
  split
  ·decide
  ·rename_i q; rw [if_neg q] at hf; exact absurd rfl hf
 ·have e : (yJ l v).2 = v.fail := by rw [h]; rfl
  rw [e]; exact hn
theorem afN {l : Loc} {v : Val} (hv : v.bits < 18446744073709551616) : (yJ l v).1 < 18446744073709551616 := by
 unfold yJ
 split
 ·exact hv
 ·split
  ·decide
  ·split
   ·split
    ·show (0 : Nat) < 18446744073709551616; decide
    ·rename_i q
     exact ((bbD l (abN yA v.text)).2 (Decidable.not_not.1 q)).2.1
   ·show (0 : Nat) < 18446744073709551616; decide
theorem adB {c : Prop} [Decidable c] {a b : Val} (h1 : c → yO a = true) (h2 : ¬ c → yO b = true) : yO (if c then a else b) = true := by
 by_cases h : c
 ·rw [if_pos h]; exact h1 h
 ·rw [if_neg h]; exact h2 h
theorem bgF (x y : Nat) : yO (divV x y) = true := by
 unfold divV; split
 ·decide
 ·exact aeB _
theorem beF (x y : Nat) : yO (axH x y) = true := by
 unfold axH
 split
 ·decide
 ·split
  ·decide
  ·split
   ·exact aeB _
   ·split
    ·exact aeB _
    ·decide
theorem aiL {l : Loc} {a b : Val} {f : Nat → Nat → Val} (ha : yO a = true) (hb : yO b = true) (hf : ∀ x y, yO (f x y) = true) : yO (ajN l a b f) = true := by
 unfold ajN
 split
 ·rename_i q; exact aiJ (ahZ ha q)
 ·split
  ·rename_i q; exact aiJ (ahZ hb q)
  ·exact hf _ _
theorem agE {l : Loc} {op : List UInt8} {a : Val} (ha : yO a = true) : yO (aaU l op a) = true := by
 unfold aaU
 split
 ·exact ha
 ·split
  ·decide
  ·split
   ·rename_i q; exact aiJ (ahZ ha q)
   ·split <;> exact aeB _
theorem ajG {l : Loc} {op : List UInt8} {a b : Val} (ha : yO a = true) (hb : yO b = true) : yO (yB l op a b) = true := by
 unfold yB
 refine adB (fun _ => ha) fun _ => adB (fun _ => hb) fun _ => ?_
 iterate 6 refine adB (fun _ => bbS _) fun _ => ?_
 refine adB (fun _ => ayW _) fun _ => ?_
 iterate 3 refine adB (fun _ => aiL ha hb fun x y => aeB _) fun _ => ?_
 exact adB (fun _ => aiL ha hb fun x y => bgF x y) fun _ => adB (fun _ => aiL ha hb fun x y => beF x y) fun _ => by decide
theorem akS {l : Loc} {op : List UInt8} {a b : Val} (ha : yO a = true) (hb : yO b = true) :
  (if a.kind = 4 then decide (yB l op a b = a) && decide (aaU l op a = a) else if b.kind = 4 then decide (yB l op a b = b) && yO (aaU l op a) else yO (yB l op a b) && yO (aaU l op a)) = true := by
 by_cases h : a.kind = 4
 ·have e1 : yB l op a b = a := if_pos h
  have e2 : aaU l op a = a := if_pos (.inl h)
  rw [if_pos h, decide_eq_true e1, decide_eq_true e2]; rfl
 ·rw [if_neg h]
  by_cases h2 : b.kind = 4
  ·have e1 : yB l op a b = b := by unfold yB; rw [if_neg h, if_pos h2]
   rw [if_pos h2, decide_eq_true e1, agE ha]; rfl
  ·rw [if_neg h2, ajG ha hb, agE ha]; rfl
theorem zr24 : ∀ g, RelCells g [.int .i64 0, .int .u64 0, .bool false, .str [], .int .i64 0] (Value.cells (Go.Value.agg #[Go.Value.int Go.IntKind.i64 0, Go.Value.int Go.IntKind.u64 0, Go.Value.bool false, Go.Value.string { data := #[] }, Go.Value.int Go.IntKind.i64 0])) := fun g => RelL.cells (.cons (.int _ _) (.cons (.int _ _) (.cons (.bool _) (.cons ((.str [] (Nat.zero_le _))) (.cons (.int _ _) .nil)))))
theorem pl24 (fs : Array Field) (hfs : Tryz.prog.underlying 24 = some (.struct fs)) : ∀ (i : Nat) f p, fs[i]? = some f → [(0, 1), (1, 1), (2, 1), (3, 1), (4, 1)][i]? = some p → ∀ w, (sizeOf f.type).run Tryz.prog w = .ok p.2 w := by
 have e := (Option.some.inj (hfs.symm.trans Tryz.underlying24))
 cases e
 intro i f p hf hp w
 match i with
 | 0 => cases hf; cases hp; exact Tryz.sizeOf3 w
 | 1 => cases hf; cases hp; exact Tryz.sizeOf22 w
 | 2 => cases hf; cases hp; exact Tryz.sizeOf4 w
 | 3 => cases hf; cases hp; exact Tryz.sizeOf9 w
 | 4 => cases hf; cases hp; exact Tryz.sizeOf3 w
 | i + 5 => simp at hp

def Val.vals (r : Val) : List Value := [.int .i64 r.kind, .int .u64 (r.bits : Int), .bool r.is, .string ⟨r.text.toArray⟩, .int .i64 r.fail]
theorem atI {a b : List UInt8} : ((⟨a.toArray⟩ : ByteArray) = ⟨b.toArray⟩) ↔ a = b := by
 constructor
 ·intro h; have := congrArg (fun x : ByteArray => x.data.toList) h; simpa using this
 ·rintro rfl; rfl
theorem eqInV (d : Nat) (r s : Val) (w : World) : (Op.equalIn (d + 2) 24 (.agg r.vals.toArray) (.agg s.vals.toArray)).run Tryz.prog w = .ok (decide (r = s)) w := by
 have u3 := Tryz.underlying3
 have a3 := Tryz.isAgg3
 have z3 := Tryz.sizeOf3
 have u4 := Tryz.underlying4
 have a4 := Tryz.isAgg4
 have z4 := Tryz.sizeOf4
 have u22 := Tryz.underlying22
 have a22 := Tryz.isAgg22
 have z22 := Tryz.sizeOf22
 have u9 := Tryz.underlying9
 have a9 := Tryz.isAgg9
 have z9 := Tryz.sizeOf9
 have hS : Tryz.prog.underlying 24 = some (.struct (Tryz.prog.fieldsOf 24)) := by kernel_rfl
 have hp : Tryz.prog.stoodInHeld 24 = false := by kernel_rfl
 rw [run_equalIn_agg w (d + 1) 24 _ _ hS hp]
 simp only [Program.fieldsOf, Tryz.underlying24, Val.vals]
 go_simp
 obtain ⟨a, b, c, e, f⟩ := r
 obtain ⟨a', b', c', e', f'⟩ := s
 have hb := @atI e e'
 by_cases h1 : a = a' <;> by_cases h2 : b = b' <;> by_cases h3 : c = c' <;> by_cases h4 : e = e' <;> by_cases h5 : f = f' <;> simp [h1, h2, h3, h4, h5, Int.ofNat_inj]
theorem eqVal (r s : Val) : amN Tryz.prog 24 r.cs s.cs (decide (r = s)) := fun g xs ys w h k => by
 rw [h.plain r.vals rfl, k.plain s.vals rfl]; exact eqInV 9998 r s w

set_option maxRecDepth 100000 in
theorem anA (n : Int) (H : Heap) : ACall Tryz.prog 88 [.int .i64 n] H (fun y H' => y = .str (aaG n) ∧ H' = H) := by
 refine ACall.of_body Tryz.func88 rfl Tryz.ntmps88 Tryz.results88 rfl ?_
 iterate 18 refine AX ?_
 refine AWP.cx rfl (fun hc4 => ?_) (fun hc4 => ?_)
 ·iterate 8 refine AX ?_
  refine Ret.go (.cons (.tmp _ _ rfl) .nil) _ (Heap.le.refl _) ?_
  refine ⟨?_, rfl⟩
  simp_all [zU, aaG]
 ·iterate 6 refine AX ?_
  refine AWP.cx rfl (fun hc6 => ?_) (fun hc6 => ?_)
  ·iterate 8 refine AX ?_
   refine Ret.go (.cons (.tmp _ _ rfl) .nil) _ (Heap.le.refl _) ?_
   refine ⟨?_, rfl⟩
   simp_all [zU, aaG]
  ·iterate 6 refine AX ?_
   refine AWP.cx rfl (fun hc8 => ?_) (fun hc8 => ?_)
   ·iterate 8 refine AX ?_
    refine Ret.go (.cons (.tmp _ _ rfl) .nil) _ (Heap.le.refl _) ?_
    refine ⟨?_, rfl⟩
    simp_all [zU, aaG]
   ·iterate 6 refine AX ?_
    refine AWP.cx rfl (fun hc10 => ?_) (fun hc10 => ?_)
    ·iterate 8 refine AX ?_
     refine Ret.go (.cons (.tmp _ _ rfl) .nil) _ (Heap.le.refl _) ?_
     refine ⟨?_, rfl⟩
     simp_all [zU, aaG]
    ·iterate 6 refine AX ?_
     refine AWP.cx rfl (fun hc12 => ?_) (fun hc12 => ?_)
     ·iterate 8 refine AX ?_
      refine Ret.go (.cons (.tmp _ _ rfl) .nil) _ (Heap.le.refl _) ?_
      refine ⟨?_, rfl⟩
      simp_all [zU, aaG]
     ·iterate 6 refine AX ?_
      refine AWP.cx rfl (fun hc14 => ?_) (fun hc14 => ?_)
      ·iterate 8 refine AX ?_
       refine Ret.go (.cons (.tmp _ _ rfl) .nil) _ (Heap.le.refl _) ?_
       refine ⟨?_, rfl⟩
       simp_all [zU, aaG]
      ·iterate 6 refine AX ?_
       refine AWP.cx rfl (fun hc16 => ?_) (fun hc16 => ?_)
       ·iterate 8 refine AX ?_
        refine Ret.go (.cons (.tmp _ _ rfl) .nil) _ (Heap.le.refl _) ?_
        refine ⟨?_, rfl⟩
        simp_all [zU, aaG]
       ·iterate 6 refine AX ?_
        refine AWP.cx rfl (fun hc18 => ?_) (fun hc18 => ?_)
        ·iterate 8 refine AX ?_
         refine Ret.go (.cons (.tmp _ _ rfl) .nil) _ (Heap.le.refl _) ?_
         refine ⟨?_, rfl⟩
         simp_all [zU, aaG]
        ·iterate 9 refine AX ?_
         refine Ret.go (.cons (.tmp _ _ rfl) .nil) _ (Heap.le.refl _) ?_
         refine ⟨?_, rfl⟩
         simp_all [zU, aaG]

set_option maxRecDepth 100000 in
theorem yZ (n : Int) (H : Heap) : ACall Tryz.prog 53 [.int .i64 n] H (fun y H' => y = (yN n).av ∧ H' = H) := by
 refine ACall.of_body Tryz.func53 rfl Tryz.ntmps53 Tryz.results53 rfl ?_
 iterate 2 refine AX ?_
 refine .s rfl (zG Tryz.zeroValue24 (zr24)) ?_
 rintro _ _ ⟨b2, hb2, rfl, hH⟩
 obtain rfl := hH.symm
 iterate 5 refine AX ?_
 refine .p rfl (zL [(0, 1), (1, 1), (2, 1), (3, 1), (4, 1)] Tryz.underlying24 Tryz.zeroValue24 (zr24) rfl (pl24 _ Tryz.underlying24) (.cons zI (.inl rfl) (.cons (tm rfl) (.inl rfl) .nil)) rfl) (.e0 (zB Tryz.sizeOf24 (tm rfl) (tm rfl) rfl rfl (.inr ⟨_, rfl⟩) (Heap.objs_set_same _ _ _) (Nat.le_of_ble_eq_true rfl)) ?_)
 try first | rw [Heap.set_set] | rw [Heap.set_under (by assumption)]
 iterate 2 refine AX ?_
 refine AWP.frz (t := 2) rfl (hb2) ?_
 refine AX ?_
 refine Ret.go (.cons (.cellI _ _ _ _ rfl Tryz.isAgg24 Tryz.sizeOf24 rfl) .nil) _ (Heap.le.refl _) ?_
 exact ⟨rfl, rfl⟩

set_option maxRecDepth 100000 in
theorem abE (b : Bool) (H : Heap) : ACall Tryz.prog 61 [.bool b] H (fun y H' => y = (acP b).av ∧ H' = H) := by
 refine ACall.of_body Tryz.func61 rfl Tryz.ntmps61 Tryz.results61 rfl ?_
 iterate 2 refine AX ?_
 refine .s rfl (zG Tryz.zeroValue24 (zr24)) ?_
 rintro _ _ ⟨b2, hb2, rfl, hH⟩
 obtain rfl := hH.symm
 iterate 5 refine AX ?_
 refine .p rfl (zL [(0, 1), (1, 1), (2, 1), (3, 1), (4, 1)] Tryz.underlying24 Tryz.zeroValue24 (zr24) rfl (pl24 _ Tryz.underlying24) (.cons zI (.inl rfl) (.cons (tm rfl) (.inl rfl) .nil)) rfl) (.e0 (zB Tryz.sizeOf24 (tm rfl) (tm rfl) rfl rfl (.inr ⟨_, rfl⟩) (Heap.objs_set_same _ _ _) (Nat.le_of_ble_eq_true rfl)) ?_)
 try first | rw [Heap.set_set] | rw [Heap.set_under (by assumption)]
 iterate 2 refine AX ?_
 refine AWP.frz (t := 2) rfl (hb2) ?_
 refine AX ?_
 refine Ret.go (.cons (.cellI _ _ _ _ rfl Tryz.isAgg24 Tryz.sizeOf24 rfl) .nil) _ (Heap.le.refl _) ?_
 exact ⟨rfl, rfl⟩

set_option maxRecDepth 100000 in
theorem yP (x : Nat) (hx : x < 18446744073709551616) (H : Heap) : ACall Tryz.prog 35 [.int .u64 (x : Int)] H (fun y H' => y = (ahU x).av ∧ H' = H) := by
 refine ACall.of_body Tryz.func35 rfl Tryz.ntmps35 Tryz.results35 rfl ?_
 iterate 2 refine AX ?_
 refine .s rfl (zG Tryz.zeroValue24 (zr24)) ?_
 rintro _ _ ⟨b2, hb2, rfl, hH⟩
 obtain rfl := hH.symm
 iterate 6 refine AX ?_
 refine .cl rfl Tryz.call89 (evs1 rfl) (qC _ (by assumption) _) ?_
 iterate 3 refine AX ?_
 refine AWP.cx rfl (fun hc5 => ?_) (fun hc5 => ?_)
 ·iterate 2 refine AX ?_
  refine .cl rfl Tryz.call53 (.cons zI .nil) (yZ _ _) (.e0 (zB Tryz.sizeOf24 (tm rfl) (tm rfl) rfl rfl (.inr ⟨_, rfl⟩) (Heap.objs_set_same _ _ _) (Nat.le_of_ble_eq_true rfl)) ?_)
  try first | rw [Heap.set_set] | rw [Heap.set_under (by assumption)]
  iterate 2 refine AX ?_
  refine AWP.frz (t := 2) rfl (hb2) ?_
  iterate 2 refine AX ?_
  refine Ret.go (.cons (.cellI _ _ _ _ rfl Tryz.isAgg24 Tryz.sizeOf24 rfl) .nil) _ (Heap.le.refl _) ?_
  refine ⟨?_, rfl⟩
  rw [show ahU x = yN 6 from if_pos (by omega)]
  rfl
 ·iterate 5 refine AX ?_
  refine .p rfl (zL [(0, 1), (1, 1), (2, 1), (3, 1), (4, 1)] Tryz.underlying24 Tryz.zeroValue24 (zr24) rfl (pl24 _ Tryz.underlying24) (.cons zI (.inl rfl) (.cons (tm rfl) (.inl rfl) .nil)) rfl) (.e0 (zB Tryz.sizeOf24 (tm rfl) (tm rfl) rfl rfl (.inr ⟨_, rfl⟩) (Heap.objs_set_same _ _ _) (Nat.le_of_ble_eq_true rfl)) ?_)
  try first | rw [Heap.set_set] | rw [Heap.set_under (by assumption)]
  iterate 2 refine AX ?_
  refine AWP.frz (t := 2) rfl (hb2) ?_
  refine AX ?_
  refine Ret.go (.cons (.cellI _ _ _ _ rfl Tryz.isAgg24 Tryz.sizeOf24 rfl) .nil) _ (Heap.le.refl _) ?_
  refine ⟨?_, rfl⟩
  rw [show ahU x = ⟨1, x, false, [], 0⟩ from if_neg (by omega)]
  rfl

set_option maxRecDepth 100000 in
theorem akC (s : List UInt8) (hs : s.length ≤ maxLen) (H : Heap) : ACall Tryz.prog 62 [.str s] H (fun y H' => y = (ahR s).av ∧ H' = H) := by
 refine ACall.of_body Tryz.func62 rfl Tryz.ntmps62 Tryz.results62 rfl ?_
 iterate 2 refine AX ?_
 refine .s rfl (zG Tryz.zeroValue24 (zr24)) ?_
 rintro _ _ ⟨b2, hb2, rfl, hH⟩
 obtain rfl := hH.symm
 iterate 10 refine AX ?_
 refine AWP.cx rfl (fun hc5 => ?_) (fun hc5 => ?_)
 ·iterate 2 refine AX ?_
  refine .cl rfl Tryz.call53 (.cons zI .nil) (yZ _ _) (.e0 (zB Tryz.sizeOf24 (tm rfl) (tm rfl) rfl rfl (.inr ⟨_, rfl⟩) (Heap.objs_set_same _ _ _) (Nat.le_of_ble_eq_true rfl)) ?_)
  try first | rw [Heap.set_set] | rw [Heap.set_under (by assumption)]
  iterate 2 refine AX ?_
  refine AWP.frz (t := 2) rfl (hb2) ?_
  iterate 2 refine AX ?_
  refine Ret.go (.cons (.cellI _ _ _ _ rfl Tryz.isAgg24 Tryz.sizeOf24 rfl) .nil) _ (Heap.le.refl _) ?_
  refine ⟨?_, rfl⟩
  rw [show ahR s = yN 3 from if_pos (by omega)]
  rfl
 ·iterate 5 refine AX ?_
  refine .p rfl (zL [(0, 1), (1, 1), (2, 1), (3, 1), (4, 1)] Tryz.underlying24 Tryz.zeroValue24 (zr24) rfl (pl24 _ Tryz.underlying24) (.cons zI (.inl rfl) (.cons (tm rfl) (.inl rfl) .nil)) rfl) (.e0 (zB Tryz.sizeOf24 (tm rfl) (tm rfl) rfl rfl (.inr ⟨_, rfl⟩) (Heap.objs_set_same _ _ _) (Nat.le_of_ble_eq_true rfl)) ?_)
  try first | rw [Heap.set_set] | rw [Heap.set_under (by assumption)]
  iterate 2 refine AX ?_
  refine AWP.frz (t := 2) rfl (hb2) ?_
  refine AX ?_
  refine Ret.go (.cons (.cellI _ _ _ _ rfl Tryz.isAgg24 Tryz.sizeOf24 rfl) .nil) _ (Heap.le.refl _) ?_
  refine ⟨?_, rfl⟩
  rw [show ahR s = ⟨3, 0, false, s, 0⟩ from if_neg (by omega)]
  rfl

set_option maxRecDepth 100000 in
theorem adK (v : Val) (hb : v.bits < 18446744073709551616) (hs : v.text.length ≤ maxLen) (H : Heap) : ACall Tryz.prog 30 [v.av] H (fun y H' => y = .bool (yO v) ∧ H' = H) := by
 refine ACall.of_body Tryz.func30 rfl Tryz.ntmps30 Tryz.results30 rfl ?_
 iterate 2 refine AX ?_
 refine .e rfl (zO (tm rfl) (.inr ⟨_, rfl⟩)) ?_
 iterate 6 refine AX ?_
 refine .p rfl (zA Tryz.underlying24 rfl Tryz.sizeOf3 (tm rfl)) ?_
 iterate 10 refine AX ?_
 refine AWP.cx rfl (fun hc5 => ?_) (fun hc5 => ?_)
 ·iterate 3 refine AX ?_
  refine .p rfl (zL [(0, 1), (1, 1), (2, 1), (3, 1), (4, 1)] Tryz.underlying24 Tryz.zeroValue24 (zr24) rfl (pl24 _ Tryz.underlying24) .nil rfl) ?_
  refine .p rfl (yH Tryz.eqGuardType24 (tm rfl) (tm rfl) (eqVal v (⟨0, 0, false, [], 0⟩))) ?_
  iterate 6 refine AX ?_
  refine Ret.go (.cons (.tmp _ _ rfl) .nil) _ (Heap.le.refl _) ?_
  refine ⟨?_, rfl⟩
  simp only [zU, yO]
  rw [if_pos (by omega)]
  done
 ·iterate 6 refine AX ?_
  refine AWP.cx rfl (fun hc10 => ?_) (fun hc10 => ?_)
  ·refine AX ?_
   refine AWP.draw [(0, true), (1, true), (2, true), (3, true), (4, true), (5, true)] rfl (by decide +kernel) ?_
   refine AX ?_
   refine .p rfl rfl (zA Tryz.underlying24 rfl Tryz.sizeOf22 (tm rfl)) ?_
   refine AX ?_
   refine APlan.f rfl rfl (fun _ => zC Tryz.call35 (evs1 rfl) (yP _ (by assumption) _)) ?_
   refine .p rfl rfl (yH Tryz.eqGuardType24 (tm rfl) (tm rfl) (eqVal v (ahU v.bits))) ?_
   iterate 6 refine AX ?_
   refine Ret.go (.cons (.tmp _ _ rfl) .nil) _ (Heap.le.refl _) ?_
   refine ⟨?_, rfl⟩
   simp only [zU, yO]
   rw [if_neg (by omega), if_pos (by omega)]
   done
  ·iterate 6 refine AX ?_
   refine AWP.cx rfl (fun hc17 => ?_) (fun hc17 => ?_)
   ·refine AX ?_
    refine AWP.draw [(0, true), (1, true), (2, true), (3, true), (4, true), (5, true)] rfl (by decide +kernel) ?_
    refine AX ?_
    refine .p rfl rfl (zA Tryz.underlying24 rfl Tryz.sizeOf4 (tm rfl)) ?_
    refine AX ?_
    refine APlan.f rfl rfl (fun _ => zC Tryz.call61 (evs1 rfl) (abE _ _)) ?_
    refine .p rfl rfl (yH Tryz.eqGuardType24 (tm rfl) (tm rfl) (eqVal v (acP v.is))) ?_
    iterate 6 refine AX ?_
    refine Ret.go (.cons (.tmp _ _ rfl) .nil) _ (Heap.le.refl _) ?_
    refine ⟨?_, rfl⟩
    simp only [zU, yO]
    rw [if_neg (by omega), if_neg (by omega), if_pos (by omega)]
    done
   ·iterate 6 refine AX ?_
    refine AWP.cx rfl (fun hc24 => ?_) (fun hc24 => ?_)
    ·refine AX ?_
     refine AWP.draw [(0, true), (1, true), (2, true), (3, true), (4, true), (5, true)] rfl (by decide +kernel) ?_
     refine AX ?_
     refine .p rfl rfl (zA Tryz.underlying24 rfl Tryz.sizeOf9 (tm rfl)) ?_
     refine AX ?_
     refine APlan.f rfl rfl (fun _ => zC Tryz.call62 (evs1 rfl) (akC _ (by assumption) _)) ?_
     refine .p rfl rfl (yH Tryz.eqGuardType24 (tm rfl) (tm rfl) (eqVal v (ahR v.text))) ?_
     iterate 6 refine AX ?_
     refine Ret.go (.cons (.tmp _ _ rfl) .nil) _ (Heap.le.refl _) ?_
     refine ⟨?_, rfl⟩
     simp only [zU, yO]
     rw [if_neg (by omega), if_neg (by omega), if_neg (by omega), if_pos (by omega)]
     done
    ·iterate 6 refine AX ?_
     refine AWP.cx rfl (fun hc31 => ?_) (fun hc31 => ?_)
     ·refine AX ?_
      refine AWP.draw [(0, true), (1, true), (2, true), (3, true), (4, true), (5, true), (6, true), (7, true), (8, true), (9, true), (10, true), (11, true)] rfl (by decide +kernel) ?_
      refine AX ?_
      refine .p rfl rfl (zA Tryz.underlying24 rfl Tryz.sizeOf3 (tm rfl)) ?_
      refine AX ?_
      refine APlan.f rfl rfl (fun _ => zC Tryz.call53 (evs1 rfl) (yZ _ _)) ?_
      refine .p rfl rfl (yH Tryz.eqGuardType24 (tm rfl) (tm rfl) (eqVal v (yN v.fail))) ?_
      refine AX ?_
      refine amH (t := 38) rfl (fun hg38 => ?_) (fun hg38 => ?_)
      ·refine .gp rfl rfl rfl rfl (by assumption) (zA Tryz.underlying24 rfl Tryz.sizeOf3 (tm rfl)) ?_
       refine AX ?_
       refine APlan.gf rfl rfl rfl rfl (by assumption) (fun _ => zC Tryz.call88 (evs1 rfl) (anA _ _)) ?_
       iterate 8 refine AX ?_
       refine Ret.go (.cons (.tmp _ _ rfl) .nil) _ (Heap.le.refl _) ?_
       refine ⟨?_, rfl⟩
       simp only [zU, yO]
       rw [if_neg (by omega), if_neg (by omega), if_neg (by omega), if_neg (by omega), if_pos (by omega)]
       rw [hg38]
       simp
      ·iterate 11 refine AX ?_
       refine Ret.go (.cons (.tmp _ _ rfl) .nil) _ (Heap.le.refl _) ?_
       refine ⟨?_, rfl⟩
       simp only [zU, yO]
       rw [if_neg (by omega), if_neg (by omega), if_neg (by omega), if_neg (by omega), if_pos (by omega)]
       rw [hg38]
       simp
     ·iterate 9 refine AX ?_
      refine Ret.go (.cons (.tmp _ _ rfl) .nil) _ (Heap.le.refl _) ?_
      refine ⟨?_, rfl⟩
      simp only [zU, yO]
      rw [if_neg (by omega), if_neg (by omega), if_neg (by omega), if_neg (by omega), if_neg (by omega)]
      done

theorem up32 {c : Nat} (h1 : 97 ≤ c) (h2 : c ≤ 122) : c - (c &&& 32) = c - 32 := by
 have : ∀ c : Fin 128, 97 ≤ c.1 → c.1 ≤ 122 → c.1 - (c.1 &&& 32) = c.1 - 32 := by decide
 exact this ⟨c, by omega⟩ h1 h2
theorem azN {A B ys : List AV} {x : AV} {y : AV} {o : Nat} (ho : o = A.length) (hy : ys = [y]) : putRow (A ++ x :: B) o ys = A ++ y :: B := by
 subst ho; subst hy
 simp [putRow]
def adD (s : List UInt8) (r : List AV) (i : Nat) : List AV := ((s.take i).map capB).map bv ++ (s.drop i).map bv ++ r
theorem amF {s : List UInt8} {r : List AV} {i : Nat} (h : i < s.length) : adD s r i = ((s.take i).map capB).map bv ++ bv s[i] :: ((s.drop (i + 1)).map bv ++ r) := by
 unfold adD
 rw [List.drop_eq_getElem_cons h, List.map_cons, List.append_assoc, List.cons_append]
theorem amE {s : List UInt8} {r : List AV} {i : Nat} (h : i < s.length) : adD s r (i + 1) = ((s.take i).map capB).map bv ++ bv (capB s[i]) :: ((s.drop (i + 1)).map bv ++ r) := by
 unfold adD
 rw [← List.take_append_getElem h, List.map_append, List.map_append]
 simp only [List.map_cons, List.map_nil, List.append_assoc, List.cons_append, List.nil_append]
theorem bbQ {s : List UInt8} {r : List AV} {i : Nat} (h : i < s.length) : (adD s r i)[0 + ((i : Nat) : Int).toNat * 1]? = some (.int .u8 ((s[i].toNat : Nat) : Int)) := by
 rw [show 0 + ((i : Nat) : Int).toNat * 1 = i by omega, amF h, List.getElem?_append_right (by simp; omega)]
 simp; rw [show i - min i s.length = 0 by omega]; rfl
theorem bbP {s : List UInt8} {r : List AV} {i : Nat} : (adD s r i).length = s.length + r.length := by simp [adD]; omega
theorem bbO {s : List UInt8} {r : List AV} {i : Nat} (h : i < s.length) {m : Int} (hm : m = ((capB s[i]).toNat : Nat)) : putRow (adD s r i) (0 + ((i : Nat) : Int).toNat * 1) [.int .u8 m] = adD s r (i + 1) := by
 rw [show 0 + ((i : Nat) : Int).toNat * 1 = i by omega, amF h, amE h]
 exact azN (by simp; omega) (by rw [hm]; rfl)
theorem awC {s : List UInt8} {r : List AV} {i : Nat} (h : i < s.length) (hu : capB s[i] = s[i]) : adD s r (i + 1) = adD s r i := by
 rw [amF h, amE h, hu]
theorem capL_len (s : List UInt8) : (capL s).length = s.length := List.length_map _
theorem bbR {s : List UInt8} {r : List AV} {i : Nat} (h : i = s.length) : ((adD s r i).drop 0).take s.length = (capL s).map bv := by
 subst h; simp [adD, capL]
theorem capB_up {c : UInt8} (h1 : 97 ≤ c.toNat) (h2 : c.toNat ≤ 122) : ((c.toNat - (c.toNat &&& 32) : Nat) : Int) = ((capB c).toNat : Nat) := by
 rw [up32 h1 h2, capB, if_pos ⟨h1, h2⟩, UInt8.toNat_ofNat']
 have : (c.toNat - 32) % 2 ^ 8 = c.toNat - 32 := Nat.mod_eq_of_lt (by omega)
 rw [this]
theorem bgU {c : UInt8} (h : ¬ (97 ≤ c.toNat ∧ c.toNat ≤ 122)) : capB c = c := if_neg h

def auA (s : List UInt8) (b : Nat) (c : Nat) (H : Heap) : Nat → Env → Heap → Prop := fun k env H1 => ∃ i : Nat, i ≤ s.length ∧ env = [(3, .mslice (some ⟨b, 0, none⟩) s.length c), (8, .mslice (some ⟨b, 0, none⟩) s.length c), (9, .int .i64 s.length), (10, .int .i64 i)] ∧ H1 = H.set b (.box 5 (adD s (List.replicate (c - s.length) (.int .u8 0)) i)) ∧ k = s.length - i

set_option maxRecDepth 100000 in
theorem agD (s : List UInt8) (hs : s.length ≤ 1000000) (H : Heap) : ACall Tryz.prog 41 [.str s] H (fun z H' => z = .str (capL s) ∧ H' = H) := by
 refine ACall.of_body Tryz.func41 rfl Tryz.ntmps41 Tryz.results41 rfl ?_
 iterate 8 refine AX ?_
 refine .s rfl (ayZ Tryz.underlying9 Tryz.underlying142 Tryz.underlying5 (tm rfl) (by omega)) ?_
 rintro _ _ ⟨b7, c7, rfl, hcl7, hcm7, hb7, hH⟩
 obtain rfl := hH.symm
 iterate 12 refine AX ?_
 refine AWP.loopW (auA s b7 c7 H) (s.length) ⟨0, Nat.zero_le _, rfl, by simp [adD], rfl⟩ sX (Heap.le.refl _) ?_
 rintro _ _ _ ⟨i, hi0, rfl, rfl, rfl⟩
 iterate 6 refine AX ?_
 refine AWP.cx rfl (fun hc11 => ?_) (fun hc11 => ?_)
 ·have hi : i < s.length := by omega
  have hu8 : s[i].toNat < 256 := s[i].toNat_lt
  iterate 7 refine AX ?_
  refine .p rfl (aeO Tryz.underlying142 Tryz.sizeOf5 (tm rfl) (tm rfl) (by omega) (by omega)) (.e rfl (zQ Tryz.isAgg5 (tm rfl) (Heap.objs_set_same _ _ _) (bbQ hi)) ?_)
  iterate 4 refine AX ?_
  refine AWP.seqTo 20 (.bool (decide ((97 : Int) ≤ (s[i].toNat : Int)) && decide ((s[i].toNat : Int) ≤ 122))) [3, 8, 9, 10, 4, 5] ?_ ?_
  ·-- region 5
   iterate 2 refine AX ?_
   refine .p rfl (abC (tm rfl) (zE 97)) ?_
   refine AX ?_
   refine zH (t := 17) rfl (fun hg17 => ?_) (fun hg17 => ?_)
   ·have hh17 := hg17; try simp only [decide_eq_true_eq] at hh17
    refine AX ?_
    refine .gp rfl rfl rfl (by assumption) (ajR (tm rfl) (zE 122)) ?_
    iterate 2 refine AX ?_
    exact ⟨rfl, zS rfl (by (simp; omega)) sX, rfl⟩
   ·have hh17 := hg17; try simp only [decide_eq_false_iff_not, Int.not_le] at hh17
    iterate 4 refine AX ?_
    exact ⟨rfl, zS rfl (by (simp; omega)) sX, rfl⟩
  ·refine AWP.sub [(20, _), (3, _), (8, _), (9, _), (10, _), (4, _), (5, _)] sX ?_
   refine AWP.cx rfl (fun hc20 => ?_) (fun hc20 => ?_)
   ·simp only [Bool.and_eq_true, decide_eq_true_eq] at hc20
    iterate 4 refine AX ?_
    refine .p rfl (arW (tm rfl) (zE 32) (by assumption) (by omega)) (.p rfl (aeO Tryz.underlying142 Tryz.sizeOf5 (tm rfl) (tm rfl) (by omega) (by omega)) (.e0 (zB Tryz.sizeOf5 (tm rfl) (tm rfl) rfl rfl (.inl rfl) (Heap.objs_set_same _ _ _) (by rw [bbP]; omega)) ?_))
    rw [Heap.set_set]
    rw [show AV.cells (AV.int .u8 _) = [_] from rfl, bbO hi (capB_up (by omega) (by omega))]
    iterate 8 refine AX ?_
    refine Round.mk (J := auA s b7 c7 H) ⟨i + 1, by omega, rfl, rfl, rfl⟩ sX (Heap.le.refl _) (by omega)
   ·iterate 8 refine AX ?_
    refine Round.mk (J := auA s b7 c7 H) ⟨i + 1, by omega, rfl, by rw [awC hi (bgU (by simp only [Bool.and_eq_false_iff, decide_eq_false_iff_not] at hc20; omega))], rfl⟩ sX (Heap.le.refl _) (by omega)
 ·iterate 8 refine AX ?_
  refine .e rfl (bdF (l := capL s) Tryz.underlying142 Tryz.underlying9 Tryz.underlying5 (tm rfl) (Heap.objs_set_same _ _ _) (capL_len s) (bbR (by omega)) (by simp only [zN]; omega)) ?_
  iterate 4 refine AX ?_
  refine Ret.go (.cons (.tmp _ _ rfl) .nil) H (Heap.le_set hb7 _) ?_
  exact ⟨rfl, rfl⟩

set_option maxRecDepth 100000 in
theorem alQ (x : Int) (H : Heap) : ACall Tryz.prog 112 [.int .i64 x] H (fun y H' => y = .bool false ∧ H' = H) := by
 refine ACall.of_body Tryz.func112 rfl Tryz.ntmps112 Tryz.results112 rfl ?_
 iterate 14 refine AX ?_
 refine Ret.go (.cons (.tmp _ _ rfl) .nil) _ (Heap.le.refl _) ?_
 refine ⟨?_, rfl⟩
 simp [zU]

set_option maxRecDepth 100000 in
theorem afL (x y : Int) (H : Heap) : ACall Tryz.prog 46 [.int .i64 x, .int .i64 y] H (fun z H' => z = .int .i64 (sgn x y) ∧ H' = H) := by
 refine ACall.of_body Tryz.func46 rfl Tryz.ntmps46 Tryz.results46 rfl ?_
 iterate 8 refine AX ?_
 refine .cl rfl Tryz.call112 (evs1 rfl) (alQ _ _) ?_
 iterate 6 refine AX ?_
 refine .cl rfl Tryz.call112 (evs1 rfl) (alQ _ _) ?_
 iterate 9 refine AX ?_
 refine AWP.cond_false (tm rfl) (by rfl) ?_
 iterate 8 refine AX ?_
 refine AWP.cond_false (tm rfl) (by rfl) ?_
 iterate 10 refine AX ?_
 refine AWP.cx rfl (fun hc16 => ?_) (fun hc16 => ?_)
 ·iterate 7 refine AX ?_
  refine Ret.go (.cons (.tmp _ _ rfl) .nil) _ (Heap.le.refl _) ?_
  refine ⟨?_, rfl⟩
  simp only [zU, sgn]
  rw [if_pos (by omega)]
  done
 ·iterate 10 refine AX ?_
  refine AWP.cx rfl (fun hc19 => ?_) (fun hc19 => ?_)
  ·iterate 7 refine AX ?_
   refine Ret.go (.cons (.tmp _ _ rfl) .nil) _ (Heap.le.refl _) ?_
   refine ⟨?_, rfl⟩
   simp only [zU, sgn]
   rw [if_neg (by omega), if_pos (by omega)]
   done
  ·iterate 8 refine AX ?_
   refine Ret.go (.cons (.tmp _ _ rfl) .nil) _ (Heap.le.refl _) ?_
   refine ⟨?_, rfl⟩
   simp only [zU, sgn]
   rw [if_neg (by omega), if_neg (by omega)]
   done

set_option maxRecDepth 100000 in
theorem abV (k : Int) (H : Heap) : ACall Tryz.prog 47 [.int .i64 k] H (fun z H' => z = .int .i64 (ahT k) ∧ H' = H) := by
 refine ACall.of_body Tryz.func47 rfl Tryz.ntmps47 Tryz.results47 rfl ?_
 iterate 18 refine AX ?_
 refine AWP.cx rfl (fun hc4 => ?_) (fun hc4 => ?_)
 ·iterate 8 refine AX ?_
  refine Ret.go (.cons (.tmp _ _ rfl) .nil) _ (Heap.le.refl _) ?_
  refine ⟨?_, rfl⟩
  simp_all [zU, ahT]
 ·iterate 6 refine AX ?_
  refine AWP.cx rfl (fun hc6 => ?_) (fun hc6 => ?_)
  ·iterate 8 refine AX ?_
   refine Ret.go (.cons (.tmp _ _ rfl) .nil) _ (Heap.le.refl _) ?_
   refine ⟨?_, rfl⟩
   simp_all [zU, ahT]
  ·iterate 6 refine AX ?_
   refine AWP.cx rfl (fun hc8 => ?_) (fun hc8 => ?_)
   ·iterate 8 refine AX ?_
    refine Ret.go (.cons (.tmp _ _ rfl) .nil) _ (Heap.le.refl _) ?_
    refine ⟨?_, rfl⟩
    simp_all [zU, ahT]
   ·iterate 9 refine AX ?_
    refine Ret.go (.cons (.tmp _ _ rfl) .nil) _ (Heap.le.refl _) ?_
    refine ⟨?_, rfl⟩
    simp_all [zU, ahT]

set_option maxRecDepth 100000 in
theorem ahV (b : Bool) (H : Heap) : ACall Tryz.prog 44 [.bool b] H (fun z H' => z = .str (aqV b) ∧ H' = H) := by
 refine ACall.of_body Tryz.func44 rfl Tryz.ntmps44 Tryz.results44 rfl ?_
 iterate 11 refine AX ?_
 refine AWP.cx rfl (fun hc3 => ?_) (fun hc3 => ?_)
 ·iterate 7 refine AX ?_
  refine Ret.go (.cons (.tmp _ _ rfl) .nil) _ (Heap.le.refl _) ?_
  refine ⟨?_, rfl⟩
  simp_all [zU, aqV]
 ·iterate 8 refine AX ?_
  refine Ret.go (.cons (.tmp _ _ rfl) .nil) _ (Heap.le.refl _) ?_
  refine ⟨?_, rfl⟩
  simp_all [zU, aqV]

set_option maxRecDepth 100000 in
theorem aqI (a b : Val) (ba : a.bits < 18446744073709551616) (bb : b.bits < 18446744073709551616) (ta : a.text.length ≤ 1000000) (tb : b.text.length ≤ 1000000) (H : Heap) : ACall Tryz.prog 48 [a.av, b.av] H (fun z H' => z = .int .i64 (aeV a b) ∧ H' = H) := by
 refine ACall.of_body Tryz.func48 rfl Tryz.ntmps48 Tryz.results48 rfl ?_
 iterate 2 refine AX ?_
 refine .e rfl (zO (tm rfl) (.inr ⟨_, rfl⟩)) (.e rfl (zO (tm rfl) (.inr ⟨_, rfl⟩)) ?_)
 iterate 6 refine AX ?_
 refine .p rfl (zA Tryz.underlying24 rfl Tryz.sizeOf3 (tm rfl)) ?_
 iterate 10 refine AX ?_
 refine AWP.cx rfl (fun hc9 => ?_) (fun hc9 => ?_)
 ·iterate 2 refine AX ?_
  refine .p rfl (zA Tryz.underlying24 rfl Tryz.sizeOf22 (tm rfl)) ?_
  refine AX ?_
  refine .p rfl (zA Tryz.underlying24 rfl Tryz.sizeOf22 (tm rfl)) ?_
  refine AX ?_
  refine .cl rfl Tryz.call105 (evs2 rfl rfl) (aoL _ _ (by assumption) (by assumption) _) ?_
  iterate 16 refine AX ?_
  refine Ret.go (.cons (.tmp _ _ rfl) .nil) _ (Heap.le.refl _) ?_
  refine ⟨?_, rfl⟩
  simp only [zU, aeV]
  rw [if_pos (by omega)]
  done
 ·iterate 6 refine AX ?_
  refine AWP.cx rfl (fun hc20 => ?_) (fun hc20 => ?_)
  ·refine AX ?_
   refine AWP.draw [(0, true), (1, true), (2, true), (3, true), (4, true), (5, true), (6, true), (7, true)] rfl (by decide +kernel) ?_
   refine .p rfl rfl (zA Tryz.underlying24 rfl Tryz.sizeOf4 (tm rfl)) ?_
   refine AX ?_
   refine APlan.f rfl rfl (fun _ => zC Tryz.call44 (evs1 rfl) (ahV _ _)) ?_
   refine .p rfl rfl (zA Tryz.underlying24 rfl Tryz.sizeOf4 (tm rfl)) ?_
   refine AX ?_
   refine APlan.f rfl rfl (fun _ => zC Tryz.call44 (evs1 rfl) (ahV _ _)) ?_
   refine APlan.f rfl rfl (fun _ => zC Tryz.call113 (evs2 rfl rfl) (compareA _ _ _)) ?_
   iterate 6 refine AX ?_
   refine Ret.go (.cons (.tmp _ _ rfl) .nil) _ (Heap.le.refl _) ?_
   refine ⟨?_, rfl⟩
   simp only [zU, aeV]
   rw [if_neg (by omega), if_pos (by omega)]
   done
  ·iterate 4 refine AX ?_
   refine AWP.draw [(0, true), (1, true), (2, true), (3, true), (4, true), (5, true), (6, true), (7, true)] rfl (by decide +kernel) ?_
   refine .p rfl rfl (zA Tryz.underlying24 rfl Tryz.sizeOf9 (tm rfl)) ?_
   refine AX ?_
   refine APlan.f rfl rfl (fun _ => zC Tryz.call41 (evs1 rfl) (agD _ (by assumption) _)) ?_
   refine .p rfl rfl (zA Tryz.underlying24 rfl Tryz.sizeOf9 (tm rfl)) ?_
   refine AX ?_
   refine APlan.f rfl rfl (fun _ => zC Tryz.call41 (evs1 rfl) (agD _ (by assumption) _)) ?_
   refine APlan.f rfl rfl (fun _ => zC Tryz.call113 (evs2 rfl rfl) (compareA _ _ _)) ?_
   iterate 4 refine AX ?_
   refine Ret.go (.cons (.tmp _ _ rfl) .nil) _ (Heap.le.refl _) ?_
   refine ⟨?_, rfl⟩
   simp only [zU, aeV]
   rw [if_neg (by omega), if_neg (by omega)]
   done

theorem compareCall (x y : Val) (bx : x.bits < 18446744073709551616) (by' : y.bits < 18446744073709551616) (tx : x.text.length ≤ 1000000) (ty : y.text.length ≤ 1000000) : ∀ H, ACall Tryz.prog 48 [.agg [.int .i64 x.kind, .int .u64 (x.bits : Int), .bool x.is, .str x.text, .int .i64 x.fail], .agg [.int .i64 y.kind, .int .u64 (y.bits : Int), .bool y.is, .str y.text, .int .i64 y.fail]] H (fun z H' => z = .int .i64 (aeV x y) ∧ H' = H) := fun H => aqI x y bx by' tx ty H
theorem atF {a b : Val} (h : a.kind = 4 ∨ b.kind = 4) : aaA a b = 0 := if_pos h
theorem adQ {a b : Val} (h : ¬ (a.kind = 4 ∨ b.kind = 4)) : aaA a b = if a.kind = 0 then aeV (agC b.kind) b else if b.kind = 0 then aeV a (agC a.kind) else if a.kind = b.kind then aeV a b else sgn (ahT a.kind) (ahT b.kind) := by
 unfold aaA
 rw [if_neg h]
 by_cases ha : a.kind = 0
 ·simp [ha, agC]
 ·by_cases hb : b.kind = 0
  ·simp [ha, hb, agC]
  ·by_cases hk : a.kind = b.kind
   ·simp only [hb, if_false, hk, ne_eq, not_true, if_true]
   ·simp only [ha, hb, if_false, hk, ne_eq, not_false_eq_true, if_true]

set_option maxRecDepth 100000 in
theorem aaW (p : AV) (a b : Val) (ba : a.bits < 18446744073709551616) (bb : b.bits < 18446744073709551616) (ta : a.text.length ≤ 1000000) (tb : b.text.length ≤ 1000000) (H : Heap) : ACall Tryz.prog 18 [p, a.av, b.av] H (fun z H' => z = .int .i64 (aaA a b) ∧ H' = H) := by
 refine ACall.of_body Tryz.func18 rfl Tryz.ntmps18 Tryz.results18 rfl ?_
 iterate 2 refine AX ?_
 refine .s rfl (ajP (tm rfl) (.inr ⟨_, rfl⟩)) ?_
 rintro _ _ ⟨b4, hb4, rfl, hH⟩
 obtain rfl := hH.symm
 refine .s rfl (ajP (tm rfl) (.inr ⟨_, rfl⟩)) ?_
 rintro _ _ ⟨b5, hb5, rfl, hH⟩
 obtain rfl := hH.symm
 have hn4_5 := Heap.ne_of (Heap.objs_set_same _ _ _) hb5
 iterate 5 refine AX ?_
 refine AWP.seqTo 7 (.bool (decide (a.kind = 4) || decide (b.kind = 4))) [4, 5, 6] ?_ ?_
 ·-- region 1
  refine AX ?_
  refine .p rfl (zJ Tryz.underlying24 rfl Tryz.sizeOf3 (tm rfl)) (.e rfl (zQ Tryz.isAgg3 (tm rfl) ((Heap.objs_set_ne _ _ (by assumption)).trans (Heap.objs_set_same _ _ _)) rfl) ?_)
  iterate 2 refine AX ?_
  refine zH (t := 11) rfl (fun hg11 => ?_) (fun hg11 => ?_)
  ·have hh11 := hg11; try simp only [decide_eq_true_eq] at hh11
   iterate 6 refine AX ?_
   exact ⟨rfl, zS rfl (by (simp; omega)) sX, rfl⟩
  ·have hh11 := hg11; try simp only [decide_eq_false_iff_not] at hh11
   refine .gp rfl rfl rfl (by assumption) (zJ Tryz.underlying24 rfl Tryz.sizeOf3 (tm rfl)) (.gs rfl rfl rfl (by assumption) (zQ Tryz.isAgg3 (tm rfl) (Heap.objs_set_same _ _ _) rfl) ?_)
   rintro _ _ ⟨rfl, hH⟩
   obtain rfl := hH.symm
   iterate 4 refine AX ?_
   exact ⟨rfl, zS rfl (by (simp; omega)) sX, rfl⟩
 ·refine AWP.sub [(7, _), (4, _), (5, _), (6, _)] sX ?_
  refine AWP.cx rfl (fun hc7 => ?_) (fun hc7 => ?_)
  ·simp only [Bool.or_eq_true, decide_eq_true_eq] at hc7
   iterate 5 refine AX ?_
   refine AWP.dropb (hb5) ?_
   refine AWP.dropb (hb4) ?_
   iterate 3 refine AX ?_
   refine Ret.go (.cons (.tmp _ _ rfl) .nil) _ (Heap.le.refl _) ?_
   refine ⟨?_, rfl⟩
   simp only [zU]
   rw [atF hc7]
   done
  ·simp only [Bool.or_eq_false_iff, decide_eq_false_iff_not] at hc7
   iterate 2 refine AX ?_
   refine .p rfl (zJ Tryz.underlying24 rfl Tryz.sizeOf3 (tm rfl)) (.e rfl (zQ Tryz.isAgg3 (tm rfl) ((Heap.objs_set_ne _ _ (by assumption)).trans (Heap.objs_set_same _ _ _)) rfl) ?_)
   iterate 4 refine AX ?_
   refine AWP.cx rfl (fun hc16 => ?_) (fun hc16 => ?_)
   ·refine AX ?_
    refine .p rfl (zJ Tryz.underlying24 rfl Tryz.sizeOf3 (tm rfl)) (.e rfl (zQ Tryz.isAgg3 (tm rfl) (Heap.objs_set_same _ _ _) rfl) (.p rfl (zL [(0, 1), (1, 1), (2, 1), (3, 1), (4, 1)] Tryz.underlying24 Tryz.zeroValue24 (zr24) rfl (pl24 _ Tryz.underlying24) (.cons (tm rfl) (.inl rfl) .nil) rfl) (.e0 (zB Tryz.sizeOf24 (tm rfl) (tm rfl) rfl rfl (.inr ⟨_, rfl⟩) ((Heap.objs_set_ne _ _ (by assumption)).trans (Heap.objs_set_same _ _ _)) (Nat.le_of_ble_eq_true rfl)) ?_)))
    try first | rw [Heap.set_set] | rw [Heap.set_under (by assumption)]
    iterate 6 refine AX ?_
    refine .p rfl (zJ Tryz.underlying24 rfl Tryz.sizeOf3 (tm rfl)) (.e rfl (zQ Tryz.isAgg3 (tm rfl) ((Heap.objs_set_ne _ _ (by assumption)).trans (Heap.objs_set_same _ _ _)) rfl) (.p rfl (zJ Tryz.underlying24 rfl Tryz.sizeOf3 (tm rfl)) (.e rfl (zQ Tryz.isAgg3 (tm rfl) (Heap.objs_set_same _ _ _) rfl) ?_)))
    iterate 3 refine AX ?_
    refine AWP.frz (t := 5) rfl (Heap.fresh_set hb5 _) ?_
    refine AWP.frz (t := 4) rfl (hb4) ?_
    refine AWP.cx rfl (fun hc34 => ?_) (fun hc34 => ?_)
    ·refine AX ?_
     refine AWP.draw [(0, true), (1, true), (2, true), (3, true), (4, true), (5, true), (6, true), (7, true)] rfl (by decide +kernel) ?_
     refine .p rfl rfl (zA Tryz.underlying24 rfl Tryz.sizeOf3 (tm rfl)) ?_
     refine AX ?_
     refine APlan.f rfl rfl (fun _ => zC Tryz.call47 (evs1 rfl) (abV _ _)) ?_
     refine .p rfl rfl (zA Tryz.underlying24 rfl Tryz.sizeOf3 (tm rfl)) ?_
     refine AX ?_
     refine APlan.f rfl rfl (fun _ => zC Tryz.call47 (evs1 rfl) (abV _ _)) ?_
     refine APlan.f rfl rfl (fun _ => zC Tryz.call46 (evs2 rfl rfl) (afL _ _ _)) ?_
     iterate 5 refine AX ?_
     refine Ret.go (.cons (.tmp _ _ rfl) .nil) _ (Heap.le.refl _) ?_
     refine ⟨?_, rfl⟩
     simp only [zU]
     exact (hc34 trivial).elim
    ·iterate 6 refine AX ?_
     refine .cl rfl Tryz.call48 (evs2 rfl rfl) (by exact compareCall (agC b.kind) b (by (show (0 : Nat) < 18446744073709551616; decide)) (by assumption) (Nat.zero_le _) (by assumption) _) ?_
     iterate 4 refine AX ?_
     refine Ret.go (.cons (.tmp _ _ rfl) .nil) _ (Heap.le.refl _) ?_
     refine ⟨?_, rfl⟩
     simp only [zU]
     rw [adQ (by omega), if_pos (by omega)]
     done
   ·iterate 2 refine AX ?_
    refine .p rfl (zJ Tryz.underlying24 rfl Tryz.sizeOf3 (tm rfl)) (.e rfl (zQ Tryz.isAgg3 (tm rfl) (Heap.objs_set_same _ _ _) rfl) ?_)
    iterate 4 refine AX ?_
    refine AWP.cx rfl (fun hc23 => ?_) (fun hc23 => ?_)
    ·refine AX ?_
     refine .p rfl (zJ Tryz.underlying24 rfl Tryz.sizeOf3 (tm rfl)) (.e rfl (zQ Tryz.isAgg3 (tm rfl) ((Heap.objs_set_ne _ _ (by assumption)).trans (Heap.objs_set_same _ _ _)) rfl) (.p rfl (zL [(0, 1), (1, 1), (2, 1), (3, 1), (4, 1)] Tryz.underlying24 Tryz.zeroValue24 (zr24) rfl (pl24 _ Tryz.underlying24) (.cons (tm rfl) (.inl rfl) .nil) rfl) (.e0 (zB Tryz.sizeOf24 (tm rfl) (tm rfl) rfl rfl (.inr ⟨_, rfl⟩) (Heap.objs_set_same _ _ _) (Nat.le_of_ble_eq_true rfl)) ?_)))
     try first | rw [Heap.set_set] | rw [Heap.set_under (by assumption)]
     iterate 6 refine AX ?_
     refine .p rfl (zJ Tryz.underlying24 rfl Tryz.sizeOf3 (tm rfl)) (.e rfl (zQ Tryz.isAgg3 (tm rfl) ((Heap.objs_set_ne _ _ (by assumption)).trans (Heap.objs_set_same _ _ _)) rfl) (.p rfl (zJ Tryz.underlying24 rfl Tryz.sizeOf3 (tm rfl)) (.e rfl (zQ Tryz.isAgg3 (tm rfl) (Heap.objs_set_same _ _ _) rfl) ?_)))
     iterate 3 refine AX ?_
     refine AWP.frz (t := 5) rfl (hb5) ?_
     refine AWP.frz (t := 4) rfl (hb4) ?_
     refine AWP.cx rfl (fun hc34 => ?_) (fun hc34 => ?_)
     ·refine AX ?_
      refine AWP.draw [(0, true), (1, true), (2, true), (3, true), (4, true), (5, true), (6, true), (7, true)] rfl (by decide +kernel) ?_
      refine .p rfl rfl (zA Tryz.underlying24 rfl Tryz.sizeOf3 (tm rfl)) ?_
      refine AX ?_
      refine APlan.f rfl rfl (fun _ => zC Tryz.call47 (evs1 rfl) (abV _ _)) ?_
      refine .p rfl rfl (zA Tryz.underlying24 rfl Tryz.sizeOf3 (tm rfl)) ?_
      refine AX ?_
      refine APlan.f rfl rfl (fun _ => zC Tryz.call47 (evs1 rfl) (abV _ _)) ?_
      refine APlan.f rfl rfl (fun _ => zC Tryz.call46 (evs2 rfl rfl) (afL _ _ _)) ?_
      iterate 5 refine AX ?_
      refine Ret.go (.cons (.tmp _ _ rfl) .nil) _ (Heap.le.refl _) ?_
      refine ⟨?_, rfl⟩
      simp only [zU]
      exact (hc34 trivial).elim
     ·iterate 6 refine AX ?_
      refine .cl rfl Tryz.call48 (evs2 rfl rfl) (by exact compareCall a (agC a.kind) (by assumption) (by (show (0 : Nat) < 18446744073709551616; decide)) (by assumption) (Nat.zero_le _) _) ?_
      iterate 4 refine AX ?_
      refine Ret.go (.cons (.tmp _ _ rfl) .nil) _ (Heap.le.refl _) ?_
      refine ⟨?_, rfl⟩
      simp only [zU]
      rw [adQ (by omega), if_neg (by omega), if_pos (by omega)]
      done
    ·iterate 6 refine AX ?_
     refine .p rfl (zJ Tryz.underlying24 rfl Tryz.sizeOf3 (tm rfl)) (.e rfl (zQ Tryz.isAgg3 (tm rfl) ((Heap.objs_set_ne _ _ (by assumption)).trans (Heap.objs_set_same _ _ _)) rfl) (.p rfl (zJ Tryz.underlying24 rfl Tryz.sizeOf3 (tm rfl)) (.e rfl (zQ Tryz.isAgg3 (tm rfl) (Heap.objs_set_same _ _ _) rfl) ?_)))
     iterate 3 refine AX ?_
     refine AWP.frz (t := 5) rfl (hb5) ?_
     refine AWP.frz (t := 4) rfl (hb4) ?_
     refine AWP.cx rfl (fun hc34 => ?_) (fun hc34 => ?_)
     ·refine AX ?_
      refine AWP.draw [(0, true), (1, true), (2, true), (3, true), (4, true), (5, true), (6, true), (7, true)] rfl (by decide +kernel) ?_
      refine .p rfl rfl (zA Tryz.underlying24 rfl Tryz.sizeOf3 (tm rfl)) ?_
      refine AX ?_
      refine APlan.f rfl rfl (fun _ => zC Tryz.call47 (evs1 rfl) (abV _ _)) ?_
      refine .p rfl rfl (zA Tryz.underlying24 rfl Tryz.sizeOf3 (tm rfl)) ?_
      refine AX ?_
      refine APlan.f rfl rfl (fun _ => zC Tryz.call47 (evs1 rfl) (abV _ _)) ?_
      refine APlan.f rfl rfl (fun _ => zC Tryz.call46 (evs2 rfl rfl) (afL _ _ _)) ?_
      iterate 5 refine AX ?_
      refine Ret.go (.cons (.tmp _ _ rfl) .nil) _ (Heap.le.refl _) ?_
      refine ⟨?_, rfl⟩
      simp only [zU]
      rw [adQ (by omega), if_neg (by omega), if_neg (by omega), if_neg (by omega)]
      done
     ·iterate 6 refine AX ?_
      refine .cl rfl Tryz.call48 (evs2 rfl rfl) (compareCall a b (by assumption) (by assumption) (by assumption) (by assumption) _) ?_
      iterate 4 refine AX ?_
      refine Ret.go (.cons (.tmp _ _ rfl) .nil) _ (Heap.le.refl _) ?_
      refine ⟨?_, rfl⟩
      simp only [zU]
      rw [adQ (by omega), if_neg (by omega), if_neg (by omega), if_pos (by omega)]
      done
theorem BIG_ten : ∃ k : Nat, k = 2500 ∧ BIG < 10 ^ k := ⟨2500, rfl, by unfold BIG; decide +kernel⟩
theorem bfA (ds : List UInt8) : (avQ ds).length ≤ ds.length := amC _ _
theorem beU (ds : List UInt8) : ajK ds ≤ ds.length := by unfold ajK; have := bfA ds; omega
theorem ofN_exp (neg : Bool) {m : Nat} {e : Int} (hm : m < 18014398509481984) (he : -1075 ≤ e ∧ e ≤ 972) : -1075 ≤ (ofN neg m e).2.2 ∧ (ofN neg m e).2.2 ≤ 2500 := by
 obtain ⟨K, hK, hB⟩ := BIG_ten
 have h1 := ofR_lt hm he
 have h2 : (dec (ofR m e)).length ≤ K := (aiM (by omega)).2 (Nat.lt_trans h1 hB)
 have h3 := beU (dec (ofR m e))
 have h4 : -1075 ≤ ofX m e ∧ ofX m e ≤ 0 := by
  unfold ofX
  have := (ajO (-e).toNat m).2
  split <;> omega
 rw [beP]
 unfold mkN
 split
 ·simp
 ·split
  ·simp only; omega
  ·simp
theorem sig_fine {x : Nat} (hk : zY x < 3) : (arF x 15).2 = 0 ∧ -2000 ≤ (arF x 15).1.2.2 ∧ (arF x 15).1.2.2 ≤ 5000 := by
 have hm := abD x
 have hp := qY x
 have he := ofN_exp (ajD x) (m := yS x) (e := yM x) (by omega) hp
 have hr := asE (ajD x) (yS x) (yM x)
 have hl := (abK hr).1
 unfold arF
 rw [if_neg (by omega)]
 unfold atU
 rw [if_neg (by omega)]
 generalize ofN (ajD x) (yS x) (yM x) = o at *
 obtain ⟨ng, ds, e⟩ := o
 dsimp only at he hr hl ⊢
 unfold sigD
 split
 ·exact ⟨rfl, by show -2000 ≤ e; omega, by show e ≤ 5000; omega⟩
 ·rename_i hlen
  unfold cutD
  have hs : ∀ s : List UInt8, s.length ≤ 16 → (mkN ng s (e + ds.length - 15)).2 = 0 ∧ -2000 ≤ (mkN ng s (e + ds.length - 15)).1.2.2 ∧ (mkN ng s (e + ds.length - 15)).1.2.2 ≤ 5000 := by
   intro s hs
   have h1 := beU s
   have h2 : (acO s).length ≤ s.length := Nat.le_trans (aeZ _ _) (bfA s)
   unfold mkN
   split
   ·simp
   ·split
    ·exact ⟨rfl, by show -2000 ≤ e + (ds.length : Int) - 15 + (ajK s : Int); omega, by show e + (ds.length : Int) - 15 + (ajK s : Int) ≤ 5000; omega⟩
    ·rename_i h; exact absurd (show okD s (e + ds.length - 15) from ⟨by omega, by omega, by omega⟩) h
  refine hs _ ?_
  split
  ·refine Nat.le_trans (apY _) ?_
   rw [List.length_take]; omega
  ·rw [List.length_take]; omega
theorem gen_len {l : Loc} (hk : l.ok) {neg : Bool} {ds : List UInt8} {e : Int} (hr : qJ ds e = true) (hlen : ds.length ≤ 16) (he : -2000 ≤ e ∧ e ≤ 5000) : (genD l ((neg, ds, e), 0)).length ≤ 900 := by
 obtain ⟨h1, h2, h3, h4, h5⟩ := hk
 have hm : (if neg = true then l.minus else []).length ≤ 10 := by split; exact h3; simp
 unfold genD
 simp only [ne_eq, not_true_eq_false, if_false]
 have hp9 := he
 split
 ·rename_i hp
  have hp2 : (ds.length : Int) + e ≤ 15 ∧ -4 ≤ (ds.length : Int) + e := by
   rcases hp with rfl | hp
   ·have : e = 0 := by simpa [qJ] using hr
    subst this; exact ⟨by simp, by simp⟩
   ·exact ⟨hp.2, hp.1⟩
  have hs : (aaE ds ((ds.length : Int) + e)).1.1.length ≤ 100 ∧ (aaE ds ((ds.length : Int) + e)).1.2.length ≤ 100 := by
   unfold aaE
   split
   ·simp
   ·split
    ·simp only [List.length_cons, List.length_nil, List.length_append, List.length_replicate]; omega
    ·split
     ·simp only [List.length_nil, List.length_append, List.length_replicate]; omega
     ·simp only [List.length_take, List.length_drop]; omega
  have h6 : (if (aaE ds ((ds.length : Int) + e)).1.2 = [] then [] else l.dc ++ (aaE ds ((ds.length : Int) + e)).1.2).length ≤ 110 := by
   by_cases q : (aaE ds ((ds.length : Int) + e)).1.2 = []
   ·rw [if_pos q]; simp
   ·rw [if_neg q, List.length_append]; omega
  unfold afY
  by_cases q : (aaE ds ((ds.length : Int) + e)).2 = true
  ·rw [if_pos q, List.length_append, List.length_append]; omega
  ·rw [if_neg q]; simp
 ·have hd : (dec (ayB ((ds.length : Int) + e))).length ≤ 8 := (aiM (by decide)).2 (by unfold ayB; split <;> omega)
  have h0 : (if (dec (ayB ((ds.length : Int) + e))).length < 2 then ([48] : List UInt8) else []).length ≤ 1 := by split <;> simp
  have h6 : (if (1 : Int) < (ds.length : Int) then l.dc ++ ds.drop 1 else []).length ≤ 110 := by
   by_cases q : (1 : Int) < (ds.length : Int)
   ·rw [if_pos q, List.length_append, List.length_drop]; omega
   ·rw [if_neg q]; simp
  unfold asL
  simp only [List.length_append, List.length_cons, List.length_nil, List.length_take]
  omega
theorem bdM {l : Loc} (hk : l.ok) {x : Nat} (hx : zY x < 3) : (genD l (arF x 15)).length ≤ 900 := by
 obtain ⟨h1, h2, h3⟩ := sig_fine hx
 have hr := anJ x 15
 have hl2 := axA x 15
 generalize hs : arF x 15 = s at *
 obtain ⟨⟨ng, ds, e⟩, er⟩ := s
 dsimp only at h1 h2 h3 hr hl2 ⊢
 subst h1
 exact gen_len hk hr (by omega) ⟨h2, h3⟩
theorem acF {x : Nat} (h : x < 18446744073709551616) : (ahU x).bits < 18446744073709551616 := by
 unfold ahU; split
 ·show (0 : Nat) < 18446744073709551616; decide
 ·exact h
theorem acS : (0 : Nat) < 18446744073709551616 := by decide
theorem bcU (s : List UInt8) : (ahR s).bits < 18446744073709551616 := by unfold ahR; split <;> exact acS
theorem qD {c : Prop} [Decidable c] {a b : Val} (h1 : c → a.bits < 18446744073709551616) (h2 : ¬ c → b.bits < 18446744073709551616) : (if c then a else b).bits < 18446744073709551616 := by
 by_cases h : c
 ·rw [if_pos h]; exact h1 h
 ·rw [if_neg h]; exact h2 h
theorem afK {l : Loc} {a b : Val} {f : Nat → Nat → Val} (ha : a.bits < 18446744073709551616) (hb : b.bits < 18446744073709551616) (hf : ∀ x y, x < 18446744073709551616 → y < 18446744073709551616 → (f x y).bits < 18446744073709551616) : (ajN l a b f).bits < 18446744073709551616 :=
 qD (fun _ => acS) fun _ => qD (fun _ => acS) fun _ => hf _ _ (afN ha) (afN hb)
theorem div_bits (x y : Nat) : (divV x y).bits < 18446744073709551616 := qD (fun _ => acS) fun _ => acF (alZ _ _)
theorem pow_bits {x : Nat} (y : Nat) (hx : x < 18446744073709551616) : (axH x y).bits < 18446744073709551616 :=
 qD (fun _ => acS) fun _ => qD (fun _ => acS) fun _ => qD (fun _ => acF (bfX _ _)) fun _ => qD (fun _ => acF (axY hx)) fun _ => acS
theorem ayU {l : Loc} {op : List UInt8} {a : Val} (ha : a.bits < 18446744073709551616) : (aaU l op a).bits < 18446744073709551616 :=
 qD (fun _ => ha) fun _ => qD (fun _ => acS) fun _ => qD (fun _ => acS) fun _ => qD (fun _ => acF (alZ _ _)) fun _ => acF (alV (afN ha))
theorem awG {l : Loc} {op : List UInt8} {a b : Val} (ha : a.bits < 18446744073709551616) (hb : b.bits < 18446744073709551616) : (yB l op a b).bits < 18446744073709551616 := by
 unfold yB
 refine qD (fun _ => ha) fun _ => qD (fun _ => hb) fun _ => ?_
 iterate 6 refine qD (fun _ => acS) fun _ => ?_
 refine qD (fun _ => bcU _) fun _ => qD (fun _ => afK ha hb fun x y hx hy => acF (aqD hx hy)) fun _ => qD (fun _ => afK ha hb fun x y hx hy => acF (aqD hx (alV hy))) fun _ => ?_
 exact qD (fun _ => afK ha hb fun x y hx hy => acF (ahL x y)) fun _ => qD (fun _ => afK ha hb fun x y _ _ => div_bits x y) fun _ => qD (fun _ => afK ha hb fun x y hx _ => pow_bits y hx) fun _ => acS
theorem aiA {l : Loc} (hl : l ∈ locs) {v : Val} (h : yO v = true) : (abP l v).1.length ≤ 1000000 := by
 have ht := adV h
 unfold abP
 split
 ·rename_i hk
  rcases agL h with e | ⟨hk3, _⟩ | e | ⟨_, e⟩ | ⟨_, e⟩
  ·rw [e] at hk; exact absurd hk (by decide)
  ·exact Nat.le_trans (bdM (aaB l hl) hk3) (by decide)
  ·rw [e] at hk; exact absurd hk (show ¬ (2 : Int) = 1 by decide)
  ·rw [e] at hk; exact absurd hk (show ¬ (3 : Int) = 1 by decide)
  ·rw [e] at hk; exact absurd hk (show ¬ (4 : Int) = 1 by decide)
 ·split
  ·cases v.is <;> decide
  ·exact Nat.le_trans ht (by decide)
end Go.Proofs.YtmmgbnolccpjoaaGreatDoor
