import Derived.Test.YtmmgbnolccpjoaaGreatDoorYd
import Derived.Test.YtmmgbnolccpjoaaGreatDoorQdk
import Derived.Test.YtmmgbnolccpjoaaGreatDoorQ1
import Derived.Test.YtmmgbnolccpjoaaGreatDoorSsk
import Derived.Test.YtmmgbnolccpjoaaGreatDoorQ2
import Derived.Test.YtmmgbnolccpjoaaGreatDoorT1
namespace Go.Proofs.YtmmgbnolccpjoaaGreatDoor
open Go Go.RowKit

def qT (f : Nat → List AV) : List AV := (List.range 801).flatMap f
def awR (f : Nat → List AV) (i : Nat) (x : List AV) : Nat → List AV := fun q => if q = i then x else f q
def slotF : List AV := [.int .u32 0, .int .i32 0, .int .u32 0, .int .u64 0, .int .u64 0, .int .i64 0, .bool false]
def akK (k : Int) : List AV := [.int .u32 1, .int .i32 0, .int .u32 0, .int .u64 ((agP k / M1 : Nat) : Int), .int .u64 ((agP k % M1 : Nat) : Int), .int .i64 (arX k), .bool (bcG k)]
def ROK (f : Nat → List AV) : Prop := ∀ i, f i = slotF ∨ f i = akK ((i : Int) - 400)
theorem ROK.len {f : Nat → List AV} (h : ROK f) (i : Nat) : (f i).length = 7 := by
 rcases h i with e | e <;> rw [e] <;> rfl
theorem aqC {f : Nat → List AV} (h : ∀ i, (f i).length = 7) : ∀ n, ((List.range n).flatMap f).length = 7 * n
 | 0 => rfl
 | n + 1 => by rw [List.range_succ, List.flatMap_append, List.length_append, aqC h n]; simp [h]; omega
theorem aqB {f g : Nat → List AV} : ∀ l : List Nat, (∀ q, q ∈ l → f q = g q) → l.flatMap f = l.flatMap g
 | [], _ => rfl
 | x :: l, h => by rw [List.flatMap_cons, List.flatMap_cons, h x (by simp), aqB l (fun q hq => h q (by simp [hq]))]
theorem anO {f : Nat → List AV} (h : ∀ i, (f i).length = 7) {i : Nat} (hi : i < 801) : ∃ A B : List AV, A.length = 7 * i ∧ qT f = A ++ (f i ++ B) ∧ ∀ x, qT (awR f i x) = A ++ (x ++ B) := by
 have e : List.range 801 = List.range i ++ (i :: List.range' (i + 1) (800 - i)) := by
  rw [List.range_eq_range', List.range_eq_range', show (801 : Nat) = i + (1 + (800 - i)) by omega, ← List.range'_append_1, Nat.zero_add, Nat.add_comm 1, List.range'_succ]
 refine ⟨(List.range i).flatMap f, (List.range' (i + 1) (800 - i)).flatMap f, aqC h i, ?_, fun x => ?_⟩
 ·unfold qT
  rw [e, List.flatMap_append, List.flatMap_cons]
 ·unfold qT
  rw [e, List.flatMap_append, List.flatMap_cons]
  have e1 : (List.range i).flatMap (awR f i x) = (List.range i).flatMap f := aqB _ (fun q hq => by
    have := List.mem_range.1 hq
    unfold awR; rw [if_neg (by omega)])
  have e2 : (List.range' (i + 1) (800 - i)).flatMap (awR f i x) = (List.range' (i + 1) (800 - i)).flatMap f := aqB _ (fun q hq => by
    have := (List.mem_range'_1.1 hq).1
    unfold awR; rw [if_neg (by omega)])
  rw [e1, e2]
  unfold awR; rw [if_pos rfl]
theorem alS {A S B : List AV} {n j : Nat} (hA : A.length = n) (hj : j < S.length) : (A ++ (S ++ B))[n + j]? = S[j]? := by
 rw [List.getElem?_append_right (by omega), hA, Nat.add_sub_cancel_left, List.getElem?_append_left hj]
theorem auO {A S B : List AV} {n j : Nat} (hA : A.length = n) (hj : j < S.length) (x : AV) : (A ++ (S ++ B)).set (n + j) x = A ++ (S.set j x ++ B) := by
 rw [List.set_append_right _ _ (by omega), hA, Nat.add_sub_cancel_left, List.set_append_left _ _ hj]
theorem put_mid {A S B xs : List AV} {n j : Nat} (hA : A.length = n) (hj : j + xs.length ≤ S.length) : putRow (A ++ (S ++ B)) (n + j) xs = A ++ (putRow S j xs ++ B) := by
 unfold putRow
 subst hA
 rw [List.take_append, List.drop_append]
 simp only [Nat.add_sub_cancel_left, Nat.add_assoc]
 rw [List.take_of_length_le (by omega), List.drop_eq_nil_of_le (by omega), List.take_append_of_le_length (by omega), List.drop_append_of_le_length (by omega)]
 simp
theorem take_mid {A S B : List AV} {n j m : Nat} (hA : A.length = n) (hj : j + m ≤ S.length) : ((A ++ (S ++ B)).drop (n + j)).take m = (S.drop j).take m := by
 subst hA
 rw [List.drop_append, Nat.add_sub_cancel_left, List.drop_eq_nil_of_le (by omega), List.nil_append, List.drop_append_of_le_length (by omega), List.take_append_of_le_length (by rw [List.length_drop]; omega)]

set_option maxRecDepth 100000 in
theorem beQ (k : Int) (hk : -400 ≤ k ∧ k ≤ 400) (b o : Nat) (cs : List AV) (H : Heap) (hb : H.objs b = some (.box 189 cs)) (ho : o + 7 ≤ cs.length) : ACall Tryz.prog 307 [.iptr [.int .i64 k], .iptr [.ptr (some ⟨b, o, none⟩)]] H (fun y H' => y = .tuple [] ∧ H' = H.set b (.box 189 (putRow cs (o + 3) (aiF k).cells))) := by
 refine ACall.of_body Tryz.func307 rfl Tryz.ntmps307 Tryz.results307 rfl ?_
 -- region 0
 refine AWP.draw [(0, true), (1, true), (2, false), (3, true), (4, true), (5, false)] rfl (by decide +kernel) ?_
 first | (refine APlan.p rfl rfl (aaM Tryz.isAgg302 (.tmp _ _ rfl)) ?_) | (refine APlan.f rfl rfl (fun _ => zQ Tryz.isAgg302 (.tmp _ _ rfl) (by first | assumption | exact (by assumption : Heap.le _ _).objs _ _ (by assumption) | exact Heap.objs_set_same _ _ _ | exact (Heap.objs_set_ne _ _ (by assumption)).trans (Heap.objs_set_same _ _ _) | exact (Heap.objs_set_ne _ _ (by assumption)).trans ((Heap.objs_set_ne _ _ (by assumption)).trans (Heap.objs_set_same _ _ _)) | exact (Heap.objs_set_ne _ _ (by assumption)).trans (by assumption)) rfl) ?_)
 first | (refine APlan.p rfl rfl (aaM Tryz.isAgg3 (.tmp _ _ rfl)) ?_) | (refine APlan.f rfl rfl (fun _ => zQ Tryz.isAgg3 (.tmp _ _ rfl) (by first | assumption | exact (by assumption : Heap.le _ _).objs _ _ (by assumption) | exact Heap.objs_set_same _ _ _ | exact (Heap.objs_set_ne _ _ (by assumption)).trans (Heap.objs_set_same _ _ _) | exact (Heap.objs_set_ne _ _ (by assumption)).trans ((Heap.objs_set_ne _ _ (by assumption)).trans (Heap.objs_set_same _ _ _)) | exact (Heap.objs_set_ne _ _ (by assumption)).trans (by assumption)) rfl) ?_)
 refine APlan.s rfl rfl (zC Tryz.call308 (.cons (.tmp _ _ rfl) .nil) (baK k hk _)) ?_
 rintro _ _ ⟨rfl, hH⟩
 obtain rfl := hH.symm
 first | (refine APlan.p rfl rfl (aaL (.tmp _ _ rfl)) ?_) | (refine APlan.p rfl rfl (abQ (.tmp _ _ rfl)) ?_) | (refine APlan.p rfl rfl (abX (.tmp _ _ rfl)) ?_)
 first | (refine APlan.p rfl rfl (zA Tryz.underlying186 rfl Tryz.sizeOf184 (.tmp _ _ rfl)) ?_) | (refine APlan.p rfl rfl (zJ Tryz.underlying186 rfl Tryz.sizeOf184 (.tmp _ _ rfl)) ?_)
 refine APlan.s0 rfl (zB Tryz.sizeOf184 (.tmp _ _ rfl) (.tmp _ _ rfl) rfl rfl (.inr ⟨_, rfl⟩) hb (by show _ + 3 + 4 ≤ _; omega)) ?_
 rintro _ _ ⟨rfl, hH⟩
 obtain rfl := hH.symm
 refine APlan.nil ?_
 -- ret 0
 refine Ret.go' .nil _ (Heap.le.refl _) ?_
 exact ⟨rfl, rfl⟩

theorem once_of (f : Nat → List AV) (hf : ROK f) (k : Int) (hk : -400 ≤ k ∧ k ≤ 400) (i : Nat) (hi : (i : Int) = k + 400) (b : Nat) (H : Heap) (hb : H.objs b = some (.box 189 (qT f))) :
  ACall Tryz.prog 306 [.ptr (some ⟨b, 7 * i, none⟩), .func 307 [.iptr [.int .i64 k], .iptr [.ptr (some ⟨b, 7 * i, none⟩)]]] H (fun y H' => y = .tuple [] ∧ H' = H.set b (.box 189 (qT (awR f i (akK k))))) := by
 obtain ⟨A, B, hA, e1, e2⟩ := anO hf.len (show i < 801 by omega)
 rcases hf i with h | h
 ·rw [e1, h] at hb
  have hd : (A ++ (slotF ++ B)).set (7 * i + 1) (.int .i32 1) = A ++ (slotF.set 1 (.int .i32 1) ++ B) := auO hA (Nat.le_of_ble_eq_true rfl) _
  have hc := beQ k hk b (7 * i) (A ++ (slotF.set 1 (.int .i32 1) ++ B)) (H.set b (.box 189 (A ++ (slotF.set 1 (.int .i32 1) ++ B)))) (Heap.objs_set_same _ _ _) (by simp [slotF]; omega)
  rw [put_mid hA (Nat.le_of_ble_eq_true rfl), Heap.set_set] at hc
  have h1 := baB (b := b) (o := 7 * i) (cs := A ++ (slotF ++ B)) (ds := A ++ (putRow (slotF.set 1 (.int .i32 1)) 3 (aiF k).cells ++ B)) 307 [.iptr [.int .i64 k], .iptr [.ptr (some ⟨b, 7 * i, none⟩)]] Tryz.call307 H hb
   (by have := alS (A := A) (S := slotF) (B := B) (j := 0) hA (Nat.le_of_ble_eq_true rfl); rwa [Nat.add_zero] at this) (alS (A := A) (S := slotF) (B := B) (j := 1) hA (Nat.le_of_ble_eq_true rfl))
   (by have := alS (A := A) (S := putRow (slotF.set 1 (.int .i32 1)) 3 (aiF k).cells) (B := B) (j := 0) hA (Nat.le_of_ble_eq_true rfl); rwa [Nat.add_zero] at this) (alS (A := A) (S := putRow (slotF.set 1 (.int .i32 1)) 3 (aiF k).cells) (B := B) (j := 1) hA (Nat.le_of_ble_eq_true rfl)) (by rw [hd]; exact hc)
  have e3 : (((A ++ (putRow (slotF.set 1 (.int .i32 1)) 3 (aiF k).cells ++ B)).set (7 * i) (.int .u32 1)).set (7 * i + 1) (.int .i32 0)) = qT (awR f i (akK k)) := by
   rw [e2]
   have q := auO (A := A) (S := putRow (slotF.set 1 (.int .i32 1)) 3 (aiF k).cells) (B := B) (j := 0) hA (Nat.le_of_ble_eq_true rfl) (.int .u32 1)
   rw [Nat.add_zero] at q
   rw [q, auO hA (Nat.le_of_ble_eq_true rfl)]
   rfl
  rw [e3] at h1
  exact h1
 ·have hk2 : akK ((i : Int) - 400) = akK k := by rw [show (i : Int) - 400 = k by omega]
  rw [hk2] at h
  have e3 : qT (awR f i (akK k)) = qT f := by rw [e2, e1, h]
  rw [e3]
  have h1 := beN (b := b) (o := 7 * i) 307 [.iptr [.int .i64 k], .iptr [.ptr (some ⟨b, 7 * i, none⟩)]] H hb (by rw [e1, h]; have := alS (A := A) (S := akK k) (B := B) (j := 0) hA (Nat.le_of_ble_eq_true rfl); rwa [Nat.add_zero] at this)
  refine h1.mono ?_
  rintro y H' ⟨rfl, rfl⟩
  exact ⟨rfl, (Heap.set_self hb).symm⟩
theorem of_load {f : Nat → List AV} {k : Int} {i : Nat} (hf : ROK f) (hi : i < 801) : ((qT (awR f i (akK k))).drop (7 * i + 3)).take 4 = (aiF k).cells := by
 obtain ⟨A, B, hA, e1, e2⟩ := anO hf.len hi
 rw [e2, take_mid hA (by show 3 + 4 ≤ 7; decide)]
 rfl
theorem axD {f : Nat → List AV} (h : ∀ i, (f i).length = 7) : (qT f).length = 5607 := aqC h 801
theorem ROK.upd {f : Nat → List AV} (h : ROK f) {k : Int} {i : Nat} (hi : (i : Int) = k + 400) : ROK (awR f i (akK k)) := fun q => by
 unfold awR
 split
 ·rename_i e; subst e; right; rw [show (q : Int) - 400 = k by omega]
 ·exact h q

theorem zr302 : ∀ g, RelCells g [.ptr none] (Value.cells (Go.Value.pointer none)) := fun g => RelL.cells (.cons (.ptr _) .nil)

set_option maxRecDepth 100000 in
theorem of_calls (f : Nat → List AV) (hf : ROK f) (k : Int) (hk : -400 ≤ k ∧ k ≤ 400) (b : Nat) (H : Heap) (hb : H.objs b = some (.box 189 (qT f))) : ACall Tryz.prog 264 [.ptr (some ⟨b, 0, none⟩), .int .i64 k] H (fun y H' => y = aiF k ∧ ∃ f', ROK f' ∧ H' = H.set b (.box 189 (qT f'))) := by
 have hlen := axD hf.len
 obtain ⟨i, hi⟩ : ∃ i : Nat, (i : Int) = k + 400 := ⟨(k + 400).toNat, by omega⟩
 have hi801 : i < 801 := by omega
 refine ACall.of_body Tryz.func264 rfl Tryz.ntmps264 Tryz.results264 rfl ?_
 refine AX ?_
 -- region 0
 refine AX ?_
 refine AList.s rfl (zO (.tmp _ _ rfl) (.inl rfl)) ?_
 rintro _ _ ⟨rfl, hH⟩
 obtain rfl := hH.symm
 refine AList.s rfl (zG Tryz.zeroValue184 (zr184)) ?_
 rintro _ _ ⟨b4, hb4, rfl, hH⟩
 obtain rfl := hH.symm
 refine AList.nil ?_
 iterate 2 refine AX ?_
 have hnb : b ≠ b4 := by intro q; rw [q, hb4] at hb; cases hb
 have hbq := (Heap.objs_set_ne H (.box 184 [.int .u64 0, .int .u64 0, .int .i64 0, .bool false]) hnb).trans hb
 -- region 1
 refine AWP.draw [(0, true), (1, true), (2, true), (3, true), (4, true), (5, true), (6, false), (7, false)] rfl (by decide +kernel) ?_
 refine APlan.p rfl rfl (zT (.tmp _ _ rfl)) ?_
 first | (refine APlan.p rfl rfl (aaM Tryz.isAgg3 (.tmp _ _ rfl)) ?_) | (refine APlan.f rfl rfl (fun _ => zQ Tryz.isAgg3 (.tmp _ _ rfl) (by first | assumption | exact (by assumption : Heap.le _ _).objs _ _ (by assumption) | exact Heap.objs_set_same _ _ _ | exact (Heap.objs_set_ne _ _ (by assumption)).trans (Heap.objs_set_same _ _ _) | exact (Heap.objs_set_ne _ _ (by assumption)).trans ((Heap.objs_set_ne _ _ (by assumption)).trans (Heap.objs_set_same _ _ _)) | exact (Heap.objs_set_ne _ _ (by assumption)).trans (by assumption)) rfl) ?_)
 refine APlan.p rfl rfl (aeP zI (.tmp _ _ rfl) (by omega)) ?_
 first | (refine APlan.p rfl rfl (aaL (.tmp _ _ rfl)) ?_) | (refine APlan.p rfl rfl (abQ (.tmp _ _ rfl)) ?_) | (refine APlan.p rfl rfl (abX (.tmp _ _ rfl)) ?_)
 first | (refine APlan.p rfl rfl (zA Tryz.underlying189 rfl Tryz.sizeOf187 (.tmp _ _ rfl)) ?_) | (refine APlan.p rfl rfl (zJ Tryz.underlying189 rfl Tryz.sizeOf187 (.tmp _ _ rfl)) ?_)
 refine APlan.p rfl rfl (.as (b := .ptr (some ⟨b, 7 * i, none⟩)) (by show AV.ptr (some ⟨b, 0 + 0 + (400 + k).toNat * 7, none⟩) = _; rw [show 0 + 0 + (400 + k).toNat * 7 = 7 * i by omega]) (qA Tryz.underlying187 Tryz.sizeOf186 (.tmp _ _ rfl) (.tmp _ _ rfl) (by omega) (by omega))) ?_
 refine APlan.s rfl rfl (zG Tryz.zeroValue302 (zr302)) ?_
 rintro _ _ ⟨b5, hb5, rfl, hH⟩
 obtain rfl := hH.symm
 have hn4_5 := Heap.ne_of (by first | assumption | exact (by assumption : Heap.le _ _).objs _ _ (by assumption) | exact Heap.objs_set_same _ _ _ | exact (Heap.objs_set_ne _ _ (by assumption)).trans (Heap.objs_set_same _ _ _) | exact (Heap.objs_set_ne _ _ (by assumption)).trans ((Heap.objs_set_ne _ _ (by assumption)).trans (Heap.objs_set_same _ _ _)) | exact (Heap.objs_set_ne _ _ (by assumption)).trans (by assumption)) hb5
 refine APlan.s0 rfl (zB Tryz.sizeOf302 (.tmp _ _ rfl) (.tmp _ _ rfl) rfl rfl (.inl rfl) (by first | assumption | exact (by assumption : Heap.le _ _).objs _ _ (by assumption) | exact Heap.objs_set_same _ _ _ | exact (Heap.objs_set_ne _ _ (by assumption)).trans (Heap.objs_set_same _ _ _) | exact (Heap.objs_set_ne _ _ (by assumption)).trans ((Heap.objs_set_ne _ _ (by assumption)).trans (Heap.objs_set_same _ _ _)) | exact (Heap.objs_set_ne _ _ (by assumption)).trans (by assumption)) (Nat.le_of_ble_eq_true rfl)) ?_
 rintro _ _ ⟨rfl, hH⟩
 obtain rfl := hH.symm
 try first | rw [Heap.set_set] | rw [Heap.set_under (by assumption)]
 refine APlan.nil ?_
 refine AX ?_
 refine AWP.frz (t := 5) rfl (by first | exact hb5 | exact Heap.fresh_set hb5 _) ?_
 refine AX ?_
 -- region 2
 refine AX ?_
 first | (refine AList.p rfl (aaM Tryz.isAgg302 (.tmp _ _ rfl)) ?_) | (refine AList.s rfl (zQ Tryz.isAgg302 (.tmp _ _ rfl) (by first | assumption | exact (by assumption : Heap.le _ _).objs _ _ (by assumption) | exact Heap.objs_set_same _ _ _ | exact (Heap.objs_set_ne _ _ (by assumption)).trans (Heap.objs_set_same _ _ _) | exact (Heap.objs_set_ne _ _ (by assumption)).trans ((Heap.objs_set_ne _ _ (by assumption)).trans (Heap.objs_set_same _ _ _)) | exact (Heap.objs_set_ne _ _ (by assumption)).trans (by assumption)) rfl) ?_; rintro _ _ ⟨rfl, hH⟩; obtain rfl := hH.symm)
 first | (refine AList.p rfl (aaL (.tmp _ _ rfl)) ?_) | (refine AList.p rfl (abQ (.tmp _ _ rfl)) ?_) | (refine AList.p rfl (abX (.tmp _ _ rfl)) ?_)
 first | (refine AList.p rfl (zA Tryz.underlying186 rfl Tryz.sizeOf182 (.tmp _ _ rfl)) ?_) | (refine AList.p rfl (zJ Tryz.underlying186 rfl Tryz.sizeOf182 (.tmp _ _ rfl)) ?_)
 refine AList.p rfl (azQ (.tmp _ _ rfl) (.tmp _ _ rfl)) ?_
 refine AList.s rfl (zC Tryz.call306 (.cons (.tmp _ _ rfl) (.cons (.tmp _ _ rfl) .nil)) (once_of f hf k hk i hi b _ (by first | assumption | exact (Heap.objs_set_ne _ _ (by assumption)).trans hb))) ?_
 rintro _ _ ⟨rfl, hH⟩
 obtain rfl := hH.symm
 refine AList.nil ?_
 iterate 2 refine AX ?_
 have hnb2 := hnb.symm
 rw [Heap.set_comm hnb2]
 have hb4 := (Heap.objs_set_ne H (.box 189 (qT (awR f i (akK k)))) hnb2).trans hb4
 -- region 3
 refine AX ?_
 first | (refine AList.p rfl (aaM Tryz.isAgg302 (.tmp _ _ rfl)) ?_) | (refine AList.s rfl (zQ Tryz.isAgg302 (.tmp _ _ rfl) (by first | assumption | exact (by assumption : Heap.le _ _).objs _ _ (by assumption) | exact Heap.objs_set_same _ _ _ | exact (Heap.objs_set_ne _ _ (by assumption)).trans (Heap.objs_set_same _ _ _) | exact (Heap.objs_set_ne _ _ (by assumption)).trans ((Heap.objs_set_ne _ _ (by assumption)).trans (Heap.objs_set_same _ _ _)) | exact (Heap.objs_set_ne _ _ (by assumption)).trans (by assumption)) rfl) ?_; rintro _ _ ⟨rfl, hH⟩; obtain rfl := hH.symm)
 first | (refine AList.p rfl (aaL (.tmp _ _ rfl)) ?_) | (refine AList.p rfl (abQ (.tmp _ _ rfl)) ?_) | (refine AList.p rfl (abX (.tmp _ _ rfl)) ?_)
 first | (refine AList.p rfl (zA Tryz.underlying186 rfl Tryz.sizeOf184 (.tmp _ _ rfl)) ?_) | (refine AList.p rfl (zJ Tryz.underlying186 rfl Tryz.sizeOf184 (.tmp _ _ rfl)) ?_)
 refine AList.s rfl (AStep.mono (R' := fun y H' => y = aiF k ∧ H' = _) (zV Tryz.isAgg184 Tryz.sizeOf184 (.tmp _ _ rfl) (by first | assumption | exact (by assumption : Heap.le _ _).objs _ _ (by assumption) | exact Heap.objs_set_same _ _ _ | exact (Heap.objs_set_ne _ _ (by assumption)).trans (Heap.objs_set_same _ _ _) | exact (Heap.objs_set_ne _ _ (by assumption)).trans ((Heap.objs_set_ne _ _ (by assumption)).trans (Heap.objs_set_same _ _ _)) | exact (Heap.objs_set_ne _ _ (by assumption)).trans (by assumption)) (by show 7 * i + 3 + 4 ≤ _; rw [axD (hf.upd hi).len]; omega)) (fun x H' h => ⟨h.1.trans (congrArg AV.agg (of_load (k := k) hf hi801)), h.2⟩)) ?_
 rintro _ _ ⟨rfl, hH⟩
 obtain rfl := hH.symm
 refine AList.s0 (zB Tryz.sizeOf184 (.tmp _ _ rfl) (.tmp _ _ rfl) rfl rfl (.inr ⟨_, rfl⟩) (by first | assumption | exact (by assumption : Heap.le _ _).objs _ _ (by assumption) | exact Heap.objs_set_same _ _ _ | exact (Heap.objs_set_ne _ _ (by assumption)).trans (Heap.objs_set_same _ _ _) | exact (Heap.objs_set_ne _ _ (by assumption)).trans ((Heap.objs_set_ne _ _ (by assumption)).trans (Heap.objs_set_same _ _ _)) | exact (Heap.objs_set_ne _ _ (by assumption)).trans (by assumption)) (Nat.le_of_ble_eq_true rfl)) ?_
 rintro _ _ ⟨rfl, hH⟩
 obtain rfl := hH.symm
 try first | rw [Heap.set_set] | rw [Heap.set_under (by assumption)]
 refine AList.nil ?_
 refine AX ?_
 refine AWP.frz (t := 4) rfl (by first | exact hb4 | exact Heap.fresh_set hb4 _) ?_
 refine AX ?_
 -- ret 0
 refine Ret.go (.cons (.cellI _ _ _ _ rfl Tryz.isAgg184 Tryz.sizeOf184 rfl) .nil) _ (Heap.le.refl _) ?_
 refine ⟨?_, awR f i (akK k), hf.upd hi, ?_⟩
 ·rfl
 ·rfl
theorem bfL {x : AV} (w : Nat) (h : x = u3 w) (hw : w < M3) (e : Int) (he : -10000 ≤ e ∧ e ≤ 2000) (H : Heap) : ACall Tryz.prog 266 [x, .int .i64 e] H (fun y H' => y = .int .u64 ((yG false w e false : Nat) : Int) ∧ H' = H) := by
 subst h; exact aoB w hw e he H
theorem bfO {w m : Nat} (hw : w < M3) (h : M2 ≤ w % M2 + m) (hm : m < M1) : (.agg [.int .u64 ((w / M2 + 1 : Nat) : Int), .int .u64 (((w % M2 + m) % M2 / M1 : Nat) : Int), .int .u64 (((w % M2 + m) % M2 % M1 : Nat) : Int)] : AV) = u3 (w + m) := by
 unfold u3 w3
 have e1 : (w + m) / M2 = w / M2 + 1 := by unfold M1 M2 M3 at *; omega
 have e2 : (w + m) / M1 % M1 = (w % M2 + m) % M2 / M1 := by unfold M1 M2 M3 at *; omega
 have e3 : (w + m) % M1 = (w % M2 + m) % M2 % M1 := by unfold M1 M2 M3 at *; omega
 rw [e1, e2, e3]
theorem bfN {w m : Nat} (hw : w < M3) (h : ¬ M2 ≤ w % M2 + m) (hm : m < M1) : (.agg [.int .u64 ((w / M2 : Nat) : Int), .int .u64 (((w % M2 + m) % M2 / M1 : Nat) : Int), .int .u64 (((w % M2 + m) % M2 % M1 : Nat) : Int)] : AV) = u3 (w + m) := by
 unfold u3 w3
 have e1 : (w + m) / M2 = w / M2 := by unfold M1 M2 M3 at *; omega
 have e2 : (w + m) / M1 % M1 = (w % M2 + m) % M2 / M1 := by unfold M1 M2 M3 at *; omega
 have e3 : (w + m) % M1 = (w % M2 + m) % M2 % M1 := by unfold M1 M2 M3 at *; omega
 rw [e1, e2, e3]
theorem high_fit {w m : Nat} (hw : w + m < M3) (h : M2 ≤ w % M2 + m) : w / M2 + 1 < 18446744073709551616 := by
 unfold M2 M3 at *; omega
theorem azM (k : Int) {m : Nat} (hm : m < M1) : agP k * m < M3 ∧ agP k * m + m < M3 := by
 have hp := apP k
 have h2 : agP k * m + m = (agP k + 1) * m := by rw [Nat.add_mul, Nat.one_mul]
 have h3 : (agP k + 1) * m ≤ M2 * m := Nat.mul_le_mul_right _ hp
 have h4 : M2 * m ≤ M2 * (M1 - 1) := Nat.mul_le_mul_left _ (by unfold M1 at *; omega)
 have h5 : M2 * (M1 - 1) < M3 := by decide +kernel
 omega
theorem azY {k : Int} (hk : -400 ≤ k ∧ k ≤ 400) : -10000 ≤ arX k ∧ arX k ≤ 2000 := by
 have h1 := arA k.toNat
 have h2 := arA (-k).toNat
 unfold arX
 split <;> omega

set_option maxRecDepth 100000 in
theorem auW (f : Nat → List AV) (hf : ROK f) (m : Nat) (hm : m < 18446744073709551616) (k : Int) (hk : -400 ≤ k ∧ k ≤ 400) (b : Nat) (H : Heap) (hb : H.objs b = some (.box 189 (qT f))) : ACall Tryz.prog 224 [.ptr (some ⟨b, 0, none⟩), .int .u64 (m : Int), .int .i64 k] H (fun y H' => y = .tuple [.int .u64 ((akX m k : Nat) : Int), .bool (arQ m k)] ∧ ∃ f', ROK f' ∧ H' = H.set b (.box 189 (qT f'))) := by
 obtain ⟨hq1, hq2⟩ := azM k (m := m) hm
 have hE := azY hk
 have hpl := apP k
 have hlm : agP k * m % M2 < M2 := Nat.mod_lt _ (by decide +kernel)
 have hmM : m < M2 := Nat.lt_trans hm (by decide +kernel)
 refine ACall.of_body Tryz.func224 rfl Tryz.ntmps224 Tryz.results224 rfl ?_
 iterate 2 refine AX ?_
 refine .p rfl (zD (zE 0)) ?_
 iterate 7 refine AX ?_
 refine .s rfl (zC Tryz.call264 (evs2 rfl rfl) (of_calls f hf k hk b _ hb)) ?_
 rintro _ _ ⟨rfl, f1, hf1, rfl⟩
 refine .s rfl (zG Tryz.zeroValue184 (zr184)) ?_
 rintro _ _ ⟨b8, hb8, rfl, hH⟩
 obtain rfl := hH.symm
 refine .e0 (zB Tryz.sizeOf184 (tm rfl) (tm rfl) rfl rfl (.inr ⟨_, rfl⟩) (Heap.objs_set_same _ _ _) (Nat.le_of_ble_eq_true rfl)) ?_
 try first | rw [Heap.set_set] | rw [Heap.set_under (by assumption)]
 iterate 2 refine AX ?_
 refine AWP.frz (t := 8) rfl (hb8) ?_
 iterate 2 refine AX ?_
 refine .p rfl (zA Tryz.underlying184 rfl Tryz.sizeOf149 (tm rfl)) ?_
 iterate 2 refine AX ?_
 refine .cl rfl Tryz.call265 (evs2 rfl rfl) (aqW (agP k) m hpl hm _) (.s rfl (zG Tryz.zeroValue247 (zr247)) ?_)
 rintro _ _ ⟨b9, hb9, rfl, hH⟩
 obtain rfl := hH.symm
 refine .e0 (zB Tryz.sizeOf247 (tm rfl) (tm rfl) rfl rfl (.inr ⟨_, rfl⟩) (Heap.objs_set_same _ _ _) (Nat.le_of_ble_eq_true rfl)) ?_
 try first | rw [Heap.set_set] | rw [Heap.set_under (by assumption)]
 iterate 2 refine AX ?_
 refine AWP.frz (t := 9) rfl (hb9) ?_
 iterate 3 refine AX ?_
 refine .p rfl (zA Tryz.underlying184 rfl Tryz.sizeOf3 (tm rfl)) ?_
 refine AX ?_
 refine .cl rfl Tryz.call266 (evs2 rfl rfl) (aoB _ hq1 _ hE _) ?_
 iterate 6 refine AX ?_
 refine .p rfl (zA Tryz.underlying184 rfl Tryz.sizeOf4 (tm rfl)) ?_
 iterate 3 refine AX ?_
 refine AWP.cx rfl (fun hc26 => ?_) (fun hc26 => ?_)
 ·iterate 9 refine AX ?_
  refine Ret.go (.cons (.tmp _ _ rfl) (.cons (.tmp _ _ rfl) .nil)) _ (Heap.le.refl _) ?_
  refine ⟨?_, f1, hf1, rfl⟩
  unfold arQ
  rw [show bcG k = true from hc26]; rfl
 ·iterate 5 refine AX ?_
  refine .cl rfl Tryz.call241 (evs1 rfl) (anC _ _ _ _) ?_
  rw [low_of]
  refine AX ?_
  refine .p rfl (zL [(0, 1), (1, 1)] Tryz.underlying149 Tryz.zeroValue149 (zr149) rfl (pl149 _ Tryz.underlying149) (.cons (tm rfl) (.inl rfl) .nil) rfl) ?_
  refine .cl rfl Tryz.call243 (evs2 rfl rfl) ((by have h := fun H => ahY (agP k * m % M2) m hlm hmM H; rw [agX (show m < M1 from hm)] at h; exact h _)) ?_
  iterate 3 refine AX ?_
  refine .s rfl (zG Tryz.zeroValue149 (zr149)) ?_
  rintro _ _ ⟨b11, hb11, rfl, hH⟩
  obtain rfl := hH.symm
  refine .e0 (zB Tryz.sizeOf149 (tm rfl) (tm rfl) rfl rfl (.inr ⟨_, rfl⟩) (Heap.objs_set_same _ _ _) (Nat.le_of_ble_eq_true rfl)) ?_
  try first | rw [Heap.set_set] | rw [Heap.set_under (by assumption)]
  iterate 3 refine AX ?_
  refine AWP.frz (t := 11) rfl (hb11) ?_
  iterate 2 refine AX ?_
  refine .p rfl (zA Tryz.underlying247 rfl Tryz.sizeOf22 (tm rfl)) ?_
  refine AX ?_
  refine .p rfl (zA Tryz.underlying149 rfl Tryz.sizeOf22 (tm rfl)) ?_
  refine AX ?_
  refine .p rfl (zA Tryz.underlying149 rfl Tryz.sizeOf22 (tm rfl)) ?_
  refine AX ?_
  refine .p rfl (zL [(0, 1), (1, 1), (2, 1)] Tryz.underlying247 Tryz.zeroValue247 (zr247) rfl (pl247 _ Tryz.underlying247) (.cons (tm rfl) (.inl rfl) (.cons (tm rfl) (.inl rfl) (.cons (tm rfl) (.inl rfl) .nil))) rfl) ?_
  refine .s rfl (zG Tryz.zeroValue247 (zr247)) ?_
  rintro _ _ ⟨b13, hb13, rfl, hH⟩
  obtain rfl := hH.symm
  refine .e0 (zB Tryz.sizeOf247 (tm rfl) (tm rfl) rfl rfl (.inr ⟨_, rfl⟩) (Heap.objs_set_same _ _ _) (Nat.le_of_ble_eq_true rfl)) ?_
  try first | rw [Heap.set_set] | rw [Heap.set_under (by assumption)]
  iterate 8 refine AX ?_
  refine AWP.cx rfl (fun hc43 => ?_) (fun hc43 => ?_)
  ·have hfit := high_fit hq2 hc43
   refine AX ?_
   refine .p rfl (zJ Tryz.underlying247 rfl Tryz.sizeOf22 (tm rfl)) (.e rfl (zQ Tryz.isAgg22 (tm rfl) (Heap.objs_set_same _ _ _) rfl) (.p rfl (qB (tm rfl) (zE 1) (by exact hfit)) (.p rfl (zJ Tryz.underlying247 rfl Tryz.sizeOf22 (tm rfl)) (.e0 (zB Tryz.sizeOf22 (tm rfl) (tm rfl) rfl rfl (.inl rfl) (Heap.objs_set_same _ _ _) (Nat.le_of_ble_eq_true rfl)) ?_))))
   try first | rw [Heap.set_set] | rw [Heap.set_under (by assumption)]
   iterate 5 refine AX ?_
   refine .e rfl (zV Tryz.isAgg247 Tryz.sizeOf247 (tm rfl) (Heap.objs_set_same _ _ _) (Nat.le_of_ble_eq_true rfl)) (.p rfl (zA Tryz.underlying184 rfl Tryz.sizeOf3 (tm rfl)) ?_)
   refine AX ?_
   refine .cl rfl Tryz.call266 (evs2 rfl rfl) (bfL (agP k * m + m) (bfO hq1 hc43 hm) hq2 _ hE _) ?_
   iterate 6 refine AX ?_
   refine AWP.dropb (hb13) ?_
   refine AX ?_
   refine Ret.go (.cons (.tmp _ _ rfl) (.cons (.tmp _ _ rfl) .nil)) _ (Heap.le.refl _) ?_
   refine ⟨?_, f1, hf1, rfl⟩
   unfold arQ
   rw [show bcG k = false from hc26, Bool.false_or, Nat.add_mul, Nat.one_mul]
   have e : decide (((yG false (agP k * m + m) (arX k) false : Nat) : Int) = ((akX m k : Nat) : Int)) = decide (yG false (agP k * m + m) (arX k) false = akX m k) := decide_eq_decide.2 (by omega)
   rw [← e]; rfl
  ·iterate 5 refine AX ?_
   refine .e rfl (zV Tryz.isAgg247 Tryz.sizeOf247 (tm rfl) (Heap.objs_set_same _ _ _) (Nat.le_of_ble_eq_true rfl)) (.p rfl (zA Tryz.underlying184 rfl Tryz.sizeOf3 (tm rfl)) ?_)
   refine AX ?_
   refine .cl rfl Tryz.call266 (evs2 rfl rfl) (bfL (agP k * m + m) (bfN hq1 hc43 hm) hq2 _ hE _) ?_
   iterate 6 refine AX ?_
   refine AWP.dropb (hb13) ?_
   refine AX ?_
   refine Ret.go (.cons (.tmp _ _ rfl) (.cons (.tmp _ _ rfl) .nil)) _ (Heap.le.refl _) ?_
   refine ⟨?_, f1, hf1, rfl⟩
   unfold arQ
   rw [show bcG k = false from hc26, Bool.false_or, Nat.add_mul, Nat.one_mul]
   have e : decide (((yG false (agP k * m + m) (arX k) false : Nat) : Int) = ((akX m k : Nat) : Int)) = decide (yG false (agP k * m + m) (arX k) false = akX m k) := decide_eq_decide.2 (by omega)
   rw [← e]; rfl

theorem asA : ∀ (l : List UInt8) (acc : Nat), Digs l → atT acc l < 18446744073709551616 → Lib.parseUintM 18446744073709551615 acc l = .ok (atT acc l)
 | [], acc, _, _ => rfl
 | c :: r, acc, hd, h => by
  have hc := hd c (by simp)
  rw [acE] at h
  have h1 := beS (acc * 10 + (c.toNat - 48)) r
  unfold Lib.parseUintM
  rw [if_pos ⟨hc.1, hc.2⟩, if_neg (by omega), if_neg (by omega), acE]
  exact asA r _ (fun b hb => hd b (by simp [hb])) h
theorem bgH {ds : List UInt8} (hd : Digs ds) (hl : ds.length ≤ 19) : num ds < 18446744073709551616 := by
 have h := agA hd
 refine Nat.lt_of_lt_of_le h (Nat.le_trans (Nat.pow_le_pow_right (by decide) hl) (by decide))
theorem bgI {ds : List UInt8} (hd : Digs ds) (hl : ds.length ≤ 15) : num ds < 9223372036854775808 := by
 have h := agA hd
 refine Nat.lt_of_lt_of_le h (Nat.le_trans (Nat.pow_le_pow_right (by decide) hl) (by decide))
theorem awI (w : World) (e : TypeId) (s : ByteArray) : Below w.heap.size w (Lib.bytesWorld w e s) :=
 ⟨rfl, rfl, rfl, by rw [Lib.bytesWorld_size]; omega, fun k hk => Lib.bytesWorld_at_old w e s k hk⟩
theorem puintA (ds : List UInt8) (hne : ds ≠ []) (hd : Digs ds) (hl : ds.length ≤ 19) (H : Heap) : ACall Tryz.prog 223 [.str ds, .int .i64 10, .int .i64 64] H (fun y H' => y = .tuple [.int .u64 (num ds : Int), .nilIface] ∧ H' = H) := by
 refine ACall.lib _ fun g vs w k st => ?_
 obtain ⟨v, u, x, rfl, hv, hu, hx⟩ := relvs3 k
 cases hv with | str _ hs => ?_
 cases hu; cases hx
 have hp : Lib.parseUintB 64 ds = .ok (num ds) := by
  unfold Lib.parseUintB
  rw [if_neg hne]
  exact asA ds 0 hd (bgH hd hl)
 refine (Tryz.strconv_ParseUint_10_at64_ok ⟨ds.toArray⟩ (by show ds.toArray.size ≤ _; rw [List.size_toArray]; omega) (num ds) hp w).mono ?_
 rintro e w' ⟨rfl, h⟩
 refine ⟨_, rfl, RelV.two (.int _ _) .nilIface, ?_⟩
 rcases h with rfl | rfl
 ·exact Below.refl _ _
 ·exact awI _ _ _
def tenB : Nat → Nat
 | 0 => yG false 1 0 false
 | i + 1 => adH (tenB i) (yG false 10 0 false)
def fastN (m j : Nat) : Nat := adH (yG false m 0 false) (tenB j)
theorem apB (n : Nat) (e : Int) (more : Bool) : yG false n e more < 18446744073709551616 := Nat.lt_of_le_of_lt (abB n e more) (by decide)
theorem acC (neg : Bool) (n : Nat) (e : Int) (more : Bool) : yG neg n e more < 18446744073709551616 := by
 have h : yG neg n e more = abF neg + yG false n e more := by
  unfold yG
  split
  ·rfl
  ·split
   ·unfold abF; simp
   ·rw [beH, beH]; unfold abF; simp
 have h2 := abB n e more
 rw [h]
 unfold abF alR at *
 split <;> omega
theorem ahL (a b : Nat) : adH a b < 18446744073709551616 := by
 unfold adH
 split
 ·decide
 ·split
  ·split <;> decide
  ·exact acC _ _ _ _
theorem pointR (neg : Bool) (ds : List UInt8) (e : Int) (hr : qJ ds e = true) (H : Heap) : ACall Tryz.prog 107 [dA neg ds e] H (fun y H' => y = .int .i64 ((ds.length : Int) + e) ∧ H' = H) := by
 have h := agW neg ds e (aaK hr) H
 rw [show alF ds e = (ds.length : Int) + e by unfold alF; rw [if_pos hr]] at h
 exact h
theorem bcV (i : Nat) : tenB i < 18446744073709551616 := by
 cases i with
 | zero => exact apB _ _ _
 | succ i => exact ahL _ _
def ajJ (ds : List UInt8) (e : Int) : Nat :=
 if ds = [] ∨ (ds.length : Int) + e < -330 then 0
 else if 310 < (ds.length : Int) + e then alR
 else if ds.length ≤ 19 then
  (if ds.length ≤ 15 ∧ 0 ≤ e ∧ e ≤ 22 then fastN (num ds) e.toNat
   else if arQ (num ds) e = true then akX (num ds) e else aoX (num ds) e)
 else aoX (num ds) e

def size_J (b : Nat) (ds : List UInt8) (e : Int) (H : Heap) : Nat → Env → Heap → Prop := fun k env H1 => ∃ i : Nat, (i : Int) ≤ e ∧ env = [(6, .int .u64 ((num ds : Nat) : Int)), (8, .int .u64 ((tenB i : Nat) : Int)), (50, .int .i64 e), (51, .int .i64 (i : Int))] ∧ H = H1 ∧ k = e.toNat - i

set_option maxRecDepth 100000 in
theorem auS (f : Nat → List AV) (hf : ROK f) (neg : Bool) (ds : List UInt8) (e : Int) (hr : qJ ds e = true) (b : Nat) (H : Heap) (hb : H.objs b = some (.box 189 (qT f))) : ACall Tryz.prog 167 [.ptr (some ⟨b, 0, none⟩), dA neg ds e] H (fun y H' => y = .int .u64 ((ajJ ds e : Nat) : Int) ∧ ∃ f', ROK f' ∧ H' = H.set b (.box 189 (qT f'))) := by
 have hd := aaK hr
 have hrl := abK hr
 have ht10 : yG false 10 0 false < 18446744073709551616 := apB _ _ _
 refine ACall.of_body Tryz.func167 rfl Tryz.ntmps167 Tryz.results167 rfl ?_
 iterate 2 refine AX ?_
 refine .e rfl (zO (tm rfl) (.inr ⟨_, rfl⟩)) (.p rfl (zD (zE 0)) ?_)
 iterate 6 refine AX ?_
 refine .cl rfl Tryz.call107 (evs1 rfl) (pointR neg ds e hr _) ?_
 iterate 4 refine AX ?_
 refine AWP.seqTo 13 (.bool (decide (ds = []) || decide ((ds.length : Int) + e < -330))) [0, 3, 4, 5] ?_ ?_
 ·-- region 2
  refine AX ?_
  refine .p rfl (zA Tryz.underlying58 rfl Tryz.sizeOf9 (tm rfl)) ?_
  iterate 3 refine AX ?_
  refine zH (t := 17) rfl (fun hg17 => ?_) (fun hg17 => ?_)
  ·have hh17 := hg17; try simp only [decide_eq_true_eq] at hh17
   iterate 5 refine AX ?_
   exact ⟨rfl, zS rfl (by (rw [show decide (ds = []) = _ from hg17]; rfl)) sX, rfl⟩
  ·have hh17 := hg17; try simp only [decide_eq_false_iff_not] at hh17
   iterate 5 refine AX ?_
   exact ⟨rfl, zS rfl (by (rw [show decide (ds = []) = _ from hg17]; rfl)) sX, rfl⟩
 ·refine AWP.sub [(13, _), (0, _), (3, _), (4, _), (5, _)] sX ?_
  refine AWP.cx rfl (fun hc13 => ?_) (fun hc13 => ?_)
  ·simp only [Bool.or_eq_true, decide_eq_true_eq] at hc13
   iterate 2 refine AX ?_
   refine .p rfl (zD (zE 0)) ?_
   iterate 5 refine AX ?_
   refine Ret.go (.cons (.tmp _ _ rfl) .nil) _ (Heap.le.refl _) ?_
   refine ⟨?_, f, hf, (Heap.set_self hb).symm⟩
   unfold ajJ
   rw [if_pos (hc13)]; rfl
  ·simp only [Bool.or_eq_false_iff, decide_eq_false_iff_not] at hc13
   obtain ⟨hne, hlow⟩ := hc13
   iterate 7 refine AX ?_
   refine AWP.cx rfl (fun hc21 => ?_) (fun hc21 => ?_)
   ·iterate 2 refine AX ?_
    refine .p rfl (zD (zE 9218868437227405312)) ?_
    iterate 5 refine AX ?_
    refine Ret.go (.cons (.tmp _ _ rfl) .nil) _ (Heap.le.refl _) ?_
    refine ⟨?_, f, hf, (Heap.set_self hb).symm⟩
    unfold ajJ
    rw [if_neg (by intro q; rcases q with q | q; exact hne q; omega), if_pos (by omega)]; rfl
   ·iterate 6 refine AX ?_
    refine .p rfl (zA Tryz.underlying58 rfl Tryz.sizeOf9 (tm rfl)) ?_
    iterate 5 refine AX ?_
    refine AWP.cx rfl (fun hc27 => ?_) (fun hc27 => ?_)
    ·have hl19 : ds.length ≤ 19 := by omega
     iterate 2 refine AX ?_
     refine .p rfl (zA Tryz.underlying58 rfl Tryz.sizeOf9 (tm rfl)) ?_
     refine AX ?_
     refine .cl rfl Tryz.call223 (.cons (tm rfl) (.cons zI (.cons zI .nil))) (puintA ds hne hd hl19 _) ?_
     iterate 8 refine AX ?_
     refine AWP.seqTo 47 (.bool (decide ((ds.length : Int) ≤ 15) && decide (0 ≤ e) && decide (e ≤ 22))) [0, 3, 4, 6] ?_ ?_
     ·-- region 8
      refine AX ?_
      refine .p rfl (zA Tryz.underlying58 rfl Tryz.sizeOf9 (tm rfl)) ?_
      iterate 4 refine AX ?_
      refine zH (t := 38) rfl (fun hg38 => ?_) (fun hg38 => ?_)
      ·have hh38 := hg38; try simp only [decide_eq_true_eq] at hh38
       refine .gp rfl rfl rfl (by assumption) (zA Tryz.underlying58 rfl Tryz.sizeOf3 (tm rfl)) ?_
       iterate 4 refine AX ?_
       refine zH (t := 43) rfl (fun hg43 => ?_) (fun hg43 => ?_)
       ·have hh43 := hg43; try simp only [decide_eq_true_eq] at hh43
        refine .gp rfl rfl rfl (by assumption) (zA Tryz.underlying58 rfl Tryz.sizeOf3 (tm rfl)) ?_
        iterate 4 refine AX ?_
        exact ⟨rfl, zS rfl (by (rw [show decide ((ds.length : Int) ≤ 15) = _ from hg38, show decide (0 ≤ e) = _ from hg43]; rfl)) sX, rfl⟩
       ·have hh43 := hg43; try simp only [decide_eq_false_iff_not, Int.not_le] at hh43
        iterate 5 refine AX ?_
        exact ⟨rfl, zS rfl (by (rw [show decide ((ds.length : Int) ≤ 15) = _ from hg38, show decide (0 ≤ e) = _ from hg43]; rfl)) sX, rfl⟩
      ·have hh38 := hg38; try simp only [decide_eq_false_iff_not, Int.not_le] at hh38
       iterate 10 refine AX ?_
       exact ⟨rfl, zS rfl (by (rw [show decide ((ds.length : Int) ≤ 15) = _ from hg38]; rfl)) sX, rfl⟩
     ·refine AWP.sub [(47, _), (0, _), (3, _), (4, _), (6, _)] sX ?_
      refine AWP.cx rfl (fun hc47 => ?_) (fun hc47 => ?_)
      ·simp only [Bool.and_eq_true, decide_eq_true_eq] at hc47
       have hm63 := bgI hd (by omega)
       iterate 2 refine AX ?_
       refine .cl rfl Tryz.call55 (.cons zI .nil) (acR 1 (by decide) _) ?_
       iterate 6 refine AX ?_
       refine .p rfl (zA Tryz.underlying58 rfl Tryz.sizeOf3 (tm rfl)) ?_
       iterate 5 refine AX ?_
       refine AWP.loopW (size_J b ds e H) (e.toNat) ⟨0, by omega, rfl, rfl, rfl⟩ sX (Heap.le.refl _) ?_
       rintro _ _ _ ⟨i, hi, rfl, rfl, rfl⟩
       iterate 6 refine AX ?_
       refine AWP.cx rfl (fun hc52 => ?_) (fun hc52 => ?_)
       ·iterate 6 refine AX ?_
        refine .cl rfl Tryz.call55 (.cons zI .nil) (acR 10 (by decide) _) (.cl rfl Tryz.call133 (evs2 rfl rfl) (aeD _ _ (bcV _) ht10 _) ?_)
        iterate 9 refine AX ?_
        refine Round.mk (J := size_J b ds e H) ⟨i + 1, by omega, rfl, rfl, rfl⟩ sX (Heap.le.refl _) (by omega)
       ·iterate 8 refine AX ?_
        refine .p rfl (qP Tryz.underlying22 Tryz.underlying3 (tm rfl) (wrapNI64 (by assumption))) (.cl rfl Tryz.call55 (evs1 rfl) (acR (num ds) (bgI hd (by omega)) _) ?_)
        refine AX ?_
        refine .cl rfl Tryz.call133 (evs2 rfl rfl) (aeD _ _ (apB _ _ _) (bcV _) _) ?_
        iterate 6 refine AX ?_
        refine Ret.go (.cons (.tmp _ _ rfl) .nil) _ (Heap.le.refl _) ?_
        refine ⟨?_, f, hf, (Heap.set_self hb).symm⟩
        unfold ajJ
        obtain rfl : i = e.toNat := by omega
        rw [if_neg (by intro q; rcases q with q | q; exact hne q; omega), if_neg (by omega), if_pos hl19, if_pos (by omega)]; rfl
      ·simp only [Bool.and_eq_false_iff, decide_eq_false_iff_not] at hc47
       iterate 6 refine AX ?_
       refine .p rfl (zA Tryz.underlying58 rfl Tryz.sizeOf3 (tm rfl)) ?_
       refine AX ?_
       refine .s rfl (zC Tryz.call224 (evs3 rfl rfl rfl) (auW f hf (num ds) (bgH hd hl19) e (by constructor <;> omega) b _ hb)) ?_
       rintro _ _ ⟨rfl, f1, hf1, rfl⟩
       iterate 12 refine AX ?_
       refine AWP.cx rfl (fun hc70 => ?_) (fun hc70 => ?_)
       ·iterate 8 refine AX ?_
        refine Ret.go (.cons (.tmp _ _ rfl) .nil) _ (Heap.le.refl _) ?_
        refine ⟨?_, f1, hf1, rfl⟩
        unfold ajJ
        rw [if_neg (by intro q; rcases q with q | q; exact hne q; omega), if_neg (by omega), if_pos hl19, if_neg (by omega), if_pos hc70]; rfl
       ·iterate 5 refine AX ?_
        refine .cl rfl Tryz.call225 (evs1 rfl) (anH neg ds e hr hne (by omega) _) ?_
        iterate 4 refine AX ?_
        refine Ret.go (.cons (.tmp _ _ rfl) .nil) _ (Heap.le.refl _) ?_
        refine ⟨?_, f1, hf1, rfl⟩
        unfold ajJ
        rw [if_neg (by intro q; rcases q with q | q; exact hne q; omega), if_neg (by omega), if_pos hl19, if_neg (by omega), if_neg (by rw [hc70]; decide)]; rfl
    ·iterate 5 refine AX ?_
     refine .cl rfl Tryz.call225 (evs1 rfl) (anH neg ds e hr hne (by omega) _) ?_
     iterate 4 refine AX ?_
     refine Ret.go (.cons (.tmp _ _ rfl) .nil) _ (Heap.le.refl _) ?_
     refine ⟨?_, f, hf, (Heap.set_self hb).symm⟩
     unfold ajJ
     rw [if_neg (by intro q; rcases q with q | q; exact hne q; omega), if_neg (by omega), if_neg (by omega)]; rfl

set_option maxRecDepth 100000 in
theorem ayP (neg : Bool) (x : Nat) (hx : x < 9223372036854775808) (H : Heap) : ACall Tryz.prog 166 [.bool neg, .int .u64 (x : Int)] H (fun y H' => y = .int .u64 ((abF neg + x : Nat) : Int) ∧ H' = H) := by
 refine ACall.of_body Tryz.func166 rfl Tryz.ntmps166 Tryz.results166 rfl ?_
 iterate 2 refine AX ?_
 refine .p rfl (zD (zE 0)) ?_
 iterate 8 refine AX ?_
 refine AWP.cx rfl (fun hc5 => ?_) (fun hc5 => ?_)
 ·iterate 3 refine AX ?_
  refine .p rfl (qW (tm rfl) (zE 9223372036854775808) (by omega) (by omega)) ?_
  iterate 5 refine AX ?_
  refine Ret.go (.cons (.tmp _ _ rfl) .nil) _ (Heap.le.refl _) ?_
  refine ⟨?_, rfl⟩
  rw [show neg = true from hc5, show abF true = 9223372036854775808 from rfl, ← avJ hx]; rfl
 ·iterate 9 refine AX ?_
  refine Ret.go (.cons (.tmp _ _ rfl) .nil) _ (Heap.le.refl _) ?_
  refine ⟨?_, rfl⟩
  rw [show neg = false from hc5, show abF false = 0 from rfl, Nat.zero_add]; rfl

theorem axZ {a b : Nat} (ha : a < 9223372036854775808) (hb : b < 9223372036854775808) : adH a b ≤ 9221120237041090560 := by
 have hn : ajL a b = false := by
  unfold ajL
  refine decide_eq_false ?_
  rw [Nat.div_eq_of_lt (show a < 2 ^ 63 from ha), Nat.div_eq_of_lt (show b < 2 ^ 63 from hb)]
  simp
 unfold adH
 rw [hn]
 split
 ·exact Nat.le_refl _
 ·split
  ·decide
  ·exact Nat.le_trans (abB _ _ _) (by decide)
theorem auF : ∀ i, tenB i < 9223372036854775808
 | 0 => Nat.lt_of_le_of_lt (abB _ _ _) (by decide)
 | i + 1 => Nat.lt_of_le_of_lt (axZ (auF i) (Nat.lt_of_le_of_lt (abB _ _ _) (by decide))) (by decide)
theorem awY (ds : List UInt8) (e : Int) : ajJ ds e < 9223372036854775808 := by
 have hs : aoX (num ds) e < 9223372036854775808 := by
  unfold aoX ratN
  split <;> exact Nat.lt_of_le_of_lt (abB _ _ _) (by decide)
 unfold ajJ
 split
 ·decide
 ·split
  ·decide
  ·split
   ·split
    ·exact Nat.lt_of_le_of_lt (axZ (Nat.lt_of_le_of_lt (abB _ _ _) (by decide)) (auF _)) (by decide)
    ·split
     ·exact Nat.lt_of_le_of_lt (abB _ _ _) (by decide)
     ·exact hs
   ·exact hs
def amI (neg : Bool) (ds : List UInt8) (e : Int) : Nat := abF neg + ajJ ds e

set_option maxRecDepth 100000 in
theorem auV (f : Nat → List AV) (hf : ROK f) (neg : Bool) (ds : List UInt8) (e : Int) (hr : qJ ds e = true) (b : Nat) (H : Heap) (hb : H.objs b = some (.box 189 (qT f))) : ACall Tryz.prog 99 [.ptr (some ⟨b, 0, none⟩), dA neg ds e] H (fun y H' => y = .tuple [.int .u64 ((amI neg ds e : Nat) : Int), .int .i64 0] ∧ ∃ f', ROK f' ∧ H' = H.set b (.box 189 (qT f'))) := by
 refine ACall.of_body Tryz.func99 rfl Tryz.ntmps99 Tryz.results99 rfl ?_
 iterate 2 refine AX ?_
 refine .e rfl (zO (tm rfl) (.inr ⟨_, rfl⟩)) (.p rfl (zD (zE 0)) ?_)
 iterate 7 refine AX ?_
 refine .cl rfl Tryz.call165 (evs1 rfl) (adE neg ds e (aaK hr) _) ?_
 iterate 3 refine AX ?_
 refine AWP.cond_false (tm rfl) (by rw [hr]; rfl) ?_
 iterate 3 refine AX ?_
 refine AWP.draw [(0, true), (1, true), (2, true), (3, true), (4, false), (5, false), (6, true), (7, true)] rfl (by decide +kernel) ?_
 refine .p rfl rfl (zA Tryz.underlying58 rfl Tryz.sizeOf4 (tm rfl)) ?_
 iterate 3 refine AX ?_
 refine .s rfl rfl (zC Tryz.call167 (evs2 rfl rfl) (auS f hf neg ds e hr b _ hb)) ?_
 rintro _ _ ⟨rfl, f1, hf1, rfl⟩
 refine .s rfl rfl (zC Tryz.call166 (evs2 rfl rfl) (ayP neg _ (awY ds e) _)) ?_
 rintro _ _ ⟨rfl, hH⟩
 obtain rfl := hH.symm
 iterate 5 refine AX ?_
 refine Ret.go (.cons (.tmp _ _ rfl) (.cons (.tmp _ _ rfl) .nil)) _ (Heap.le.refl _) ?_
 exact ⟨rfl, f1, hf1, rfl⟩
end Go.Proofs.YtmmgbnolccpjoaaGreatDoor
