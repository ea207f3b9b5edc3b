import Derived.Test.YtmmgbnolccpjoaaGreatDoorQ2
import Derived.Test.YtmmgbnolccpjoaaGreatDoorT1
set_option maxHeartbeats 1000000
namespace Go.Proofs.YtmmgbnolccpjoaaGreatDoor
open Go.Proofs.Tryz
open Go Go.RowKit
variable {A B S : List AV} {j m n w : Nat} {k : Int}
section
set_option maxRecDepth 100000

def aaJ (f : Nat → List AV) : List AV := (List.range 801).flatMap f
def bgO (f : Nat → List AV) (i : Nat) (x : List AV) : Nat → List AV := fun q => if q = i then x else f q
def slotF : List AV := [.int .u32 0, .int .i32 0, .int .u32 0, .int .u64 0, .int .u64 0, .int .i64 0, .bool false]
def apR (k : Int) : List AV := [.int .u32 1, .int .i32 0, .int .u32 0, .int .u64 ((aiC k / M1 : Nat) : Int), .int .u64 ((aiC k % M1 : Nat) : Int), .int .i64 (atB k), .bool (bcL k)]
def ROK (f : Nat → List AV) : Prop := ∀ i, f i = slotF ∨ f i = apR ((i : Int) - 400)
theorem ROK.len {f : Nat → List AV} (h : ROK f) (i : Nat) : (f i).length = 7 := by
 rcases h i with e | e <;> rw [e] <;> rfl
theorem axU {f : Nat → List AV} (h : ∀ i, (f i).length = 7) : ∀ n, ((List.range n).flatMap f).length = 7 * n
 | 0 => rfl
 | n + 1 => by rw [List.range_succ, List.flatMap_append, aP, axU h n]; simp [h]; omega
theorem axT {f g : Nat → List AV} : ∀ l : List Nat, (∀ q, q ∈ l → f q = g q) → l.flatMap f = l.flatMap g
 | [], _ => rfl
 | x :: l, h => by rw [eU, eU, h x aF, axT l (fun q hq => h q (by simp [hq]))]
theorem auE {f : Nat → List AV} (h : ∀ i, (f i).length = 7) {i : Nat} (hi : i < 801) : ∃ A B : List AV, A.length = 7 * i ∧ aaJ f = A ++ (f i ++ B) ∧ ∀ x, aaJ (bgO f i x) = A ++ (x ++ B) := by
 have e : List.range 801 = List.range i ++ (i :: List.range' (i + 1) (800 - i)) := by
  rw [List.range_eq_range', List.range_eq_range', show (801 : Nat) = i + (1 + (800 - i)) by omega, ← List.range'_append_1, bZ, eO 1, List.range'_succ]
 refine ⟨(List.range i).flatMap f, (List.range' (i + 1) (800 - i)).flatMap f, axU h i, ?_, fun x => ?_⟩
 ·unfold aaJ
  rw [e, List.flatMap_append, eU]
 unfold aaJ
 rw [e, List.flatMap_append, eU]
 have e1 : (List.range i).flatMap (bgO f i x) = (List.range i).flatMap f := axT _ (fun q hq => by
   have := List.mem_range.1 hq
   unfold bgO; rw [aI])
 have e2 : (List.range' (i + 1) (800 - i)).flatMap (bgO f i x) = (List.range' (i + 1) (800 - i)).flatMap f := axT _ (fun q hq => by
   have := (List.mem_range'_1.1 hq).1
   unfold bgO; rw [aI])
 rw [e1, e2]
 unfold bgO; rw [aN rfl]
theorem arS (hA : A.length = n) (hj : j < S.length) : (A ++ (S ++ B))[n + j]? = S[j]? := by
 rw [eS aA, hA, fF, fP hj]
theorem bdJ (hA : A.length = n) (hj : j < S.length) (x : AV) : (A ++ (S ++ B)).set (n + j) x = A ++ (S.set j x ++ B) := by
 rw [List.set_append_right _ _ aA, hA, fF, List.set_append_left _ _ hj]
theorem ccI {xs : List AV} (hA : A.length = n) (hj : j + xs.length ≤ S.length) : putRow (A ++ (S ++ B)) (n + j) xs = A ++ (putRow S j xs ++ B) := by
 unfold putRow
 subst hA
 rw [List.take_append, List.drop_append]
 simp only [fF, eD]
 rw [aX aA, fI aA, eY aA, List.drop_append_of_le_length aA]
 simp
theorem buY (hA : A.length = n) (hj : j + m ≤ S.length) : ((A ++ (S ++ B)).drop (n + j)).take m = (S.drop j).take m := by
 subst hA
 rw [List.drop_append, fF, fI aA, cF, List.drop_append_of_le_length aA, eY (by rw [aW]; omega)]

theorem bqU (k : Int) (hk : -400 ≤ k ∧ k ≤ 400) (b o : Nat) (cs : List AV) (H : Heap) (hb : H.objs b = some (.box 189 cs)) (ho : o + 7 ≤ cs.length) : ACall prog 307 [.iptr [.int .i64 k], .iptr [.ptr (some ⟨b, o, none⟩)]] H (fun y H' => y = .tuple [] ∧ H' = H.set b (.box 189 (putRow cs (o + 3) (anA k).cells))) := by
 refine ACall.of_body func307 rfl ntmps307 results307 rfl ?_
 -- region 0
 refine AWP.draw [(0, true), (1, true), (2, false), (3, true), (4, true), (5, false)] rfl aE ?_
 first | (refine APlan.p rfl rfl (zY G302 (.tmp _ _ rfl)) ?_) | (refine APlan.f rfl rfl (fun _ => yD G302 (.tmp _ _ rfl) (by first | assumption | exact (by assumption : Heap.le _ _).objs _ _ aB | exact oS _ _ _ | exact (oN _ _ aB).trans (oS _ _ _) | exact (oN _ _ aB).trans ((oN _ _ aB).trans (oS _ _ _)) | exact (oN _ _ aB).trans aB) rfl) ?_)
 first | (refine APlan.p rfl rfl (zY G3 (.tmp _ _ rfl)) ?_) | (refine APlan.f rfl rfl (fun _ => yD G3 (.tmp _ _ rfl) (by first | assumption | exact (by assumption : Heap.le _ _).objs _ _ aB | exact oS _ _ _ | exact (oN _ _ aB).trans (oS _ _ _) | exact (oN _ _ aB).trans ((oN _ _ aB).trans (oS _ _ _)) | exact (oN _ _ aB).trans aB) rfl) ?_)
 refine APlan.s rfl rfl (zB call308 (.cons (.tmp _ _ rfl) .nil) (blP k hk _)) ?_
 rintro _ _ ⟨rfl, hH⟩
 obtain rfl := hH.symm
 first | (refine APlan.p rfl rfl (abQ (.tmp _ _ rfl)) ?_) | (refine APlan.p rfl rfl (aaB (.tmp _ _ rfl)) ?_) | (refine APlan.p rfl rfl (adY (.tmp _ _ rfl)) ?_)
 first | (refine APlan.p rfl rfl (zA U186 rfl Z184 (.tmp _ _ rfl)) ?_) | (refine APlan.p rfl rfl (zC U186 rfl Z184 (.tmp _ _ rfl)) ?_)
 refine APlan.s0 rfl (zP Z184 (.tmp _ _ rfl) (.tmp _ _ rfl) rfl rfl (.inr ⟨_, rfl⟩) hb (by show _ + 3 + 4 ≤ _; omega)) ?_
 rintro _ _ ⟨rfl, hH⟩
 obtain rfl := hH.symm
 refine APlan.nil ?_
 -- ret 0
 refine Ret.go' .nil _ (hRa _) ?_
 exact ⟨rfl, rfl⟩

theorem ccN (f : Nat → List AV) (hf : ROK f) (k : Int) (hk : -400 ≤ k ∧ k ≤ 400) (i : Nat) (hi : (i : Int) = k + 400) (b : Nat) (H : Heap) (hb : H.objs b = some (.box 189 (aaJ f))) :
  ACall prog 306 [.ptr (some ⟨b, 7 * i, none⟩), .func 307 [.iptr [.int .i64 k], .iptr [.ptr (some ⟨b, 7 * i, none⟩)]]] H (fun y H' => y = .tuple [] ∧ H' = H.set b (.box 189 (aaJ (bgO f i (apR k))))) := by
 obtain ⟨A, B, hA, e1, e2⟩ := auE hf.len (show i < 801 by omega)
 rcases hf i with h | h
 ·rw [e1, h] at hb
  have hd : (A ++ (slotF ++ B)).set (7 * i + 1) (.int .i32 1) = A ++ (slotF.set 1 (.int .i32 1) ++ B) := bdJ hA (lB rfl) _
  have hc := bqU k hk b (7 * i) (A ++ (slotF.set 1 (.int .i32 1) ++ B)) (H.set b (.box 189 (A ++ (slotF.set 1 (.int .i32 1) ++ B)))) (oS _ _ _) (by simp [slotF]; omega)
  rw [ccI hA (lB rfl), sS] at hc
  have h1 := blG (b := b) (o := 7 * i) (cs := A ++ (slotF ++ B)) (ds := A ++ (putRow (slotF.set 1 (.int .i32 1)) 3 (anA k).cells ++ B)) 307 [.iptr [.int .i64 k], .iptr [.ptr (some ⟨b, 7 * i, none⟩)]] call307 H hb
   (by have := arS (A := A) (S := slotF) (B := B) (j := 0) hA (lB rfl); rwa [cI] at this) (arS (A := A) (S := slotF) (B := B) (j := 1) hA (lB rfl))
   (by have := arS (A := A) (S := putRow (slotF.set 1 (.int .i32 1)) 3 (anA k).cells) (B := B) (j := 0) hA (lB rfl); rwa [cI] at this) (arS (A := A) (S := putRow (slotF.set 1 (.int .i32 1)) 3 (anA k).cells) (B := B) (j := 1) hA (lB rfl)) (by rw [hd]; exact hc)
  have e3 : (((A ++ (putRow (slotF.set 1 (.int .i32 1)) 3 (anA k).cells ++ B)).set (7 * i) (.int .u32 1)).set (7 * i + 1) (.int .i32 0)) = aaJ (bgO f i (apR k)) := by
   rw [e2]
   have q := bdJ (A := A) (S := putRow (slotF.set 1 (.int .i32 1)) 3 (anA k).cells) (B := B) (j := 0) hA (lB rfl) (.int .u32 1)
   rw [cI] at q
   rw [q, bdJ hA (lB rfl)]
   rfl
  rw [e3] at h1
  exact h1
 have hk2 : apR ((i : Int) - 400) = apR k := by rw [show (i : Int) - 400 = k by omega]
 rw [hk2] at h
 have e3 : aaJ (bgO f i (apR k)) = aaJ f := by rw [e2, e1, h]
 rw [e3]
 have h1 := bqQ (b := b) (o := 7 * i) 307 [.iptr [.int .i64 k], .iptr [.ptr (some ⟨b, 7 * i, none⟩)]] H hb (by rw [e1, h]; have := arS (A := A) (S := apR k) (B := B) (j := 0) hA (lB rfl); rwa [cI] at this)
 refine h1.mono ?_
 rintro y H' ⟨rfl, rfl⟩
 exact ⟨rfl, (Heap.set_self hb).symm⟩
theorem ccO {f : Nat → List AV} {i : Nat} (hf : ROK f) (hi : i < 801) : ((aaJ (bgO f i (apR k))).drop (7 * i + 3)).take 4 = (anA k).cells := by
 obtain ⟨A, B, hA, e1, e2⟩ := auE hf.len hi
 rw [e2, buY hA (by show 3 + 4 ≤ 7; decide)]
 rfl
theorem bhD {f : Nat → List AV} (h : ∀ i, (f i).length = 7) : (aaJ f).length = 5607 := axU h 801
theorem ROK.upd {f : Nat → List AV} (h : ROK f) {i : Nat} (hi : (i : Int) = k + 400) : ROK (bgO f i (apR k)) := fun q => by
 unfold bgO
 split
 ·rename_i e; subst e; right; rw [show (q : Int) - 400 = k by omega]
 exact h q

theorem zr302 : ZR 302 [.ptr none] := ZRi zeroValue302

theorem bwK (f : Nat → List AV) (hf : ROK f) (k : Int) (hk : -400 ≤ k ∧ k ≤ 400) (b : Nat) (H : Heap) (hb : H.objs b = some (.box 189 (aaJ f))) : ACall prog 264 [.ptr (some ⟨b, 0, none⟩), .int .i64 k] H (fun y H' => y = anA k ∧ ∃ f', ROK f' ∧ H' = H.set b (.box 189 (aaJ f'))) := by
 have hlen := bhD hf.len
 obtain ⟨i, hi⟩ : ∃ i : Nat, (i : Int) = k + 400 := ⟨(k + 400).toNat, by omega⟩
 have hi801 : i < 801 := by omega
 refine .of_body func264 rfl ntmps264 results264 rfl ?_
 refine AX ?_
 -- region 0
 refine AX ?_
 refine .s rfl (qG (.tmp _ _ rfl) (.inl rfl)) ?_
 rintro _ _ ⟨rfl, hH⟩
 obtain rfl := hH.symm
 refine .s rfl (agJ zr184) ?_
 rintro _ _ ⟨b4, hb4, rfl, hH⟩
 obtain rfl := hH.symm
 refine .nil ?_
 iterate 2 refine AX ?_
 have hnb : b ≠ b4 := by intro q; rw [q, hb4] at hb; cases hb
 have hbq := (oN H (.box 184 [.int .u64 0, .int .u64 0, .int .i64 0, .bool false]) hnb).trans hb
 -- region 1
 refine .draw [(0, true), (1, true), (2, true), (3, true), (4, true), (5, true), (6, false), (7, false)] rfl aE ?_
 refine .p rfl rfl (zM (.tmp _ _ rfl)) ?_
 first | (refine .p rfl rfl (zY G3 (.tmp _ _ rfl)) ?_) | (refine .f rfl rfl (fun _ => yD G3 (.tmp _ _ rfl) (by first | assumption | exact (by assumption : Heap.le _ _).objs _ _ aB | exact oS _ _ _ | exact (oN _ _ aB).trans (oS _ _ _) | exact (oN _ _ aB).trans ((oN _ _ aB).trans (oS _ _ _)) | exact (oN _ _ aB).trans aB) rfl) ?_)
 refine .p rfl rfl (acF zH (.tmp _ _ rfl) aA) ?_
 first | (refine .p rfl rfl (abQ (.tmp _ _ rfl)) ?_) | (refine .p rfl rfl (aaB (.tmp _ _ rfl)) ?_) | (refine .p rfl rfl (adY (.tmp _ _ rfl)) ?_)
 first | (refine .p rfl rfl (zA U189 rfl Z187 (.tmp _ _ rfl)) ?_) | (refine .p rfl rfl (zC U189 rfl Z187 (.tmp _ _ rfl)) ?_)
 refine .p rfl rfl (.as (b := .ptr (some ⟨b, 7 * i, none⟩)) (by show AV.ptr (some ⟨b, 0 + 0 + (400 + k).toNat * 7, none⟩) = _; rw [show 0 + 0 + (400 + k).toNat * 7 = 7 * i by omega]) (qT underlying187 sizeOf186 (.tmp _ _ rfl) (.tmp _ _ rfl) aA aA)) ?_
 refine .s rfl rfl (agJ zr302) ?_
 rintro _ _ ⟨b5, hb5, rfl, hH⟩
 obtain rfl := hH.symm
 have hn4_5 := Heap.ne_of (by first | assumption | exact (by assumption : Heap.le _ _).objs _ _ aB | exact oS _ _ _ | exact (oN _ _ aB).trans (oS _ _ _) | exact (oN _ _ aB).trans ((oN _ _ aB).trans (oS _ _ _)) | exact (oN _ _ aB).trans aB) hb5
 refine .s0 rfl (zP sizeOf302 (.tmp _ _ rfl) (.tmp _ _ rfl) rfl rfl (.inl rfl) (by first | assumption | exact (by assumption : Heap.le _ _).objs _ _ aB | exact oS _ _ _ | exact (oN _ _ aB).trans (oS _ _ _) | exact (oN _ _ aB).trans ((oN _ _ aB).trans (oS _ _ _)) | exact (oN _ _ aB).trans aB) (lB rfl)) ?_
 rintro _ _ ⟨rfl, hH⟩
 obtain rfl := hH.symm
 try first | rw [sS] | rw [sU aB]
 refine .nil ?_
 refine AX ?_
 refine .frz (t := 5) rfl (by first | exact hb5 | exact fS hb5 _) ?_
 refine AX ?_
 -- region 2
 refine AX ?_
 first | (refine .p rfl (zY G302 (.tmp _ _ rfl)) ?_) | (refine .s rfl (yD G302 (.tmp _ _ rfl) (by first | assumption | exact (by assumption : Heap.le _ _).objs _ _ aB | exact oS _ _ _ | exact (oN _ _ aB).trans (oS _ _ _) | exact (oN _ _ aB).trans ((oN _ _ aB).trans (oS _ _ _)) | exact (oN _ _ aB).trans aB) rfl) ?_; rintro _ _ ⟨rfl, hH⟩; obtain rfl := hH.symm)
 first | (refine .p rfl (abQ (.tmp _ _ rfl)) ?_) | (refine .p rfl (aaB (.tmp _ _ rfl)) ?_) | (refine .p rfl (adY (.tmp _ _ rfl)) ?_)
 first | (refine .p rfl (zA U186 rfl sizeOf182 (.tmp _ _ rfl)) ?_) | (refine .p rfl (zC U186 rfl sizeOf182 (.tmp _ _ rfl)) ?_)
 refine .p rfl (bkW (.tmp _ _ rfl) (.tmp _ _ rfl)) ?_
 refine .s rfl (zB call306 (.cons (.tmp _ _ rfl) (.cons (.tmp _ _ rfl) .nil)) (ccN f hf k hk i hi b _ (by first | assumption | exact (oN _ _ aB).trans hb))) ?_
 rintro _ _ ⟨rfl, hH⟩
 obtain rfl := hH.symm
 refine .nil ?_
 iterate 2 refine AX ?_
 have hnb2 := hnb.symm
 rw [Heap.set_comm hnb2]
 have hb4 := (oN H (.box 189 (aaJ (bgO f i (apR k)))) hnb2).trans hb4
 -- region 3
 refine AX ?_
 first | (refine .p rfl (zY G302 (.tmp _ _ rfl)) ?_) | (refine .s rfl (yD G302 (.tmp _ _ rfl) (by first | assumption | exact (by assumption : Heap.le _ _).objs _ _ aB | exact oS _ _ _ | exact (oN _ _ aB).trans (oS _ _ _) | exact (oN _ _ aB).trans ((oN _ _ aB).trans (oS _ _ _)) | exact (oN _ _ aB).trans aB) rfl) ?_; rintro _ _ ⟨rfl, hH⟩; obtain rfl := hH.symm)
 first | (refine .p rfl (abQ (.tmp _ _ rfl)) ?_) | (refine .p rfl (aaB (.tmp _ _ rfl)) ?_) | (refine .p rfl (adY (.tmp _ _ rfl)) ?_)
 first | (refine .p rfl (zA U186 rfl Z184 (.tmp _ _ rfl)) ?_) | (refine .p rfl (zC U186 rfl Z184 (.tmp _ _ rfl)) ?_)
 refine .s rfl (AStep.mono (R' := fun y H' => y = anA k ∧ H' = _) (abO isAgg184 Z184 (.tmp _ _ rfl) (by first | assumption | exact (by assumption : Heap.le _ _).objs _ _ aB | exact oS _ _ _ | exact (oN _ _ aB).trans (oS _ _ _) | exact (oN _ _ aB).trans ((oN _ _ aB).trans (oS _ _ _)) | exact (oN _ _ aB).trans aB) (by show 7 * i + 3 + 4 ≤ _; rw [bhD (hf.upd hi).len]; omega)) (fun x H' h => ⟨h.1.trans (congrArg AV.agg (ccO (k := k) hf hi801)), h.2⟩)) ?_
 rintro _ _ ⟨rfl, hH⟩
 obtain rfl := hH.symm
 refine .s0 (zP Z184 (.tmp _ _ rfl) (.tmp _ _ rfl) rfl rfl (.inr ⟨_, rfl⟩) (by first | assumption | exact (by assumption : Heap.le _ _).objs _ _ aB | exact oS _ _ _ | exact (oN _ _ aB).trans (oS _ _ _) | exact (oN _ _ aB).trans ((oN _ _ aB).trans (oS _ _ _)) | exact (oN _ _ aB).trans aB) (lB rfl)) ?_
 rintro _ _ ⟨rfl, hH⟩
 obtain rfl := hH.symm
 try first | rw [sS] | rw [sU aB]
 refine .nil ?_
 refine AX ?_
 refine .frz (t := 4) rfl (by first | exact hb4 | exact fS hb4 _) ?_
 refine AX ?_
 -- ret 0
 refine AX ?_
 refine ⟨?_, bgO f i (apR k), hf.upd hi, ?_⟩
 ·rfl
 rfl

end
section
open Go Go.RowKit
set_option maxRecDepth 100000

theorem brZ {x : AV} (w : Nat) (h : x = u3 w) (hw : w < M3) (e : Int) (he : -10000 ≤ e ∧ e ≤ 2000) : Fn 266 [x, .int .i64 e] (.int .u64 ((zX false w e false : Nat) : Int)) := by
 intro H
 subst h; exact auV w hw e he H
theorem bsC (hw : w < M3) (h : M2 ≤ w % M2 + m) (hm : m < M1) : (.agg [.int .u64 ((w / M2 + 1 : Nat) : Int), .int .u64 (((w % M2 + m) % M2 / M1 : Nat) : Int), .int .u64 (((w % M2 + m) % M2 % M1 : Nat) : Int)] : AV) = u3 (w + m) := by
 unfold u3 w3
 have e1 : (w + m) / M2 = w / M2 + 1 := by unfold M1 M2 M3 at *; omega
 have e2 : (w + m) / M1 % M1 = (w % M2 + m) % M2 / M1 := by unfold M1 M2 M3 at *; omega
 have e3 : (w + m) % M1 = (w % M2 + m) % M2 % M1 := by unfold M1 M2 M3 at *; omega
 rw [e1, e2, e3]
theorem bsB (hw : w < M3) (h : ¬ M2 ≤ w % M2 + m) (hm : m < M1) : (.agg [.int .u64 ((w / M2 : Nat) : Int), .int .u64 (((w % M2 + m) % M2 / M1 : Nat) : Int), .int .u64 (((w % M2 + m) % M2 % M1 : Nat) : Int)] : AV) = u3 (w + m) := by
 unfold u3 w3
 have e1 : (w + m) / M2 = w / M2 := by unfold M1 M2 M3 at *; omega
 have e2 : (w + m) / M1 % M1 = (w % M2 + m) % M2 / M1 := by unfold M1 M2 M3 at *; omega
 have e3 : (w + m) % M1 = (w % M2 + m) % M2 % M1 := by unfold M1 M2 M3 at *; omega
 rw [e1, e2, e3]
theorem bxM (hw : w + m < M3) (h : M2 ≤ w % M2 + m) : w / M2 + 1 < 18446744073709551616 := by
 unfold M2 M3 at *; omega
theorem bkR (k : Int) (hm : m < M1) : aiC k * m < M3 ∧ aiC k * m + m < M3 := by
 have hp := axB k
 have h2 : aiC k * m + m = (aiC k + 1) * m := by rw [bS, cP]
 have h3 : (aiC k + 1) * m ≤ M2 * m := bC _ hp
 have h4 : M2 * m ≤ M2 * (M1 - 1) := bX _ (by unfold M1 at *; omega)
 have h5 : M2 * (M1 - 1) < M3 := by decide +kernel
 omega
theorem blC (hk : -400 ≤ k ∧ k ≤ 400) : -10000 ≤ atB k ∧ atB k ≤ 2000 := by
 have h1 := ajY k.toNat
 have h2 := ajY (-k).toNat
 unfold atB
 split <;> omega

theorem beC (f : Nat → List AV) (hf : ROK f) (m : Nat) (hm : m < 18446744073709551616) (k : Int) (hk : -400 ≤ k ∧ k ≤ 400) (b : Nat) (H : Heap) (hb : H.objs b = some (.box 189 (aaJ f))) : ACall prog 224 [.ptr (some ⟨b, 0, none⟩), .int .u64 (m : Int), .int .i64 k] H (fun y H' => y = .tuple [.int .u64 ((akA m k : Nat) : Int), .bool (aqS m k)] ∧ ∃ f', ROK f' ∧ H' = H.set b (.box 189 (aaJ f'))) := by
 obtain ⟨hq1, hq2⟩ := bkR k (m := m) hm
 have hE := blC hk
 have hpl := axB k
 have hlm : aiC k * m % M2 < M2 := bT _ aE
 have hmM : m < M2 := dI hm aE
 refine .of_body func224 rfl ntmps224 results224 rfl ?_
 iterate 10 refine AM ?_
 refine .s rfl (zB call264 (evs2 rfl rfl) (bwK f hf k hk b _ hb)) ?_
 rintro _ _ ⟨rfl, f1, hf1, rfl⟩
 refine .al zr184 (fun b8 hb8 => ?_)
 iterate 3 refine AX ?_
 refine .frz (t := 8) rfl (hb8) ?_
 iterate 2 refine AX ?_
 refine .p rfl (zA U184 rfl Z149 (tm rfl)) ?_
 iterate 2 refine AX ?_
 refine .cl rfl call265 (evs2 rfl rfl) (ayQ (aiC k) m hpl hm _) ?_
 refine .al zr247 (fun b9 hb9 => ?_)
 iterate 3 refine AX ?_
 refine .frz (t := 9) rfl (hb9) ?_
 iterate 3 refine AX ?_
 refine .p rfl (zA U184 rfl Z3 (tm rfl)) ?_
 refine AX ?_
 refine .cl rfl call266 (evs2 rfl rfl) (auV _ hq1 _ hE _) ?_
 iterate 6 refine AX ?_
 refine .p rfl (zA U184 rfl Z4 (tm rfl)) ?_
 iterate 3 refine AX ?_
 refine .cx rfl (fun hc26 => ?_) (fun hc26 => ?_)
 ·iterate 10 refine AX ?_
  refine ⟨?_, f1, hf1, rfl⟩
  unfold aqS
  rw [show bcL k = true from hc26]; rfl
 iterate 5 refine AX ?_
 refine .cl rfl call241 (evs1 rfl) (atK _ _ _ _) ?_
 rw [caL]
 refine AX ?_
 refine .p rfl (yB zr149 pl149 (.cons (tm rfl) (.inl rfl) .nil) rfl) ?_
 refine .cl rfl call243 (evs2 rfl rfl) ((by have h := fun H => amR (aiC k * m % M2) m hlm hmM H; rw [alC (show m < M1 from hm)] at h; exact h _)) ?_
 iterate 3 refine AX ?_
 refine .al zr149 (fun b11 hb11 => ?_)
 iterate 4 refine AX ?_
 refine .frz (t := 11) rfl (hb11) ?_
 iterate 2 refine AX ?_
 refine .p rfl (zA U247 rfl Z22 (tm rfl)) ?_
 refine AX ?_
 refine .p rfl (zA U149 rfl Z22 (tm rfl)) ?_
 refine AX ?_
 refine .p rfl (zA U149 rfl Z22 (tm rfl)) ?_
 refine AX ?_
 refine .p rfl (yB zr247 pl247 (.cons (tm rfl) (.inl rfl) (.cons (tm rfl) (.inl rfl) (.cons (tm rfl) (.inl rfl) .nil))) rfl) ?_
 refine .al zr247 (fun b13 hb13 => ?_)
 iterate 9 refine AX ?_
 refine .cx rfl (fun hc43 => ?_) (fun hc43 => ?_)
 ·have hfit := bxM hq2 hc43
  refine AX ?_
  refine .p rfl (zC U247 rfl Z22 (tm rfl)) ?_
  refine AX ?_
  refine .p rfl (yR (tm rfl) (zI 1) (by exact hfit)) (.p rfl (zC U247 rfl Z22 (tm rfl)) ?_)
  iterate 7 refine AX ?_
  refine .p rfl (zA U184 rfl Z3 (tm rfl)) ?_
  refine AX ?_
  refine .cl rfl call266 (evs2 rfl rfl) (brZ (aiC k * m + m) (bsC hq1 hc43 hm) hq2 _ hE _) ?_
  iterate 6 refine AX ?_
  refine .dropb (hb13) ?_
  iterate 2 refine AX ?_
  refine ⟨?_, f1, hf1, rfl⟩
  unfold aqS
  rw [show bcL k = false from hc26, Bool.false_or, bS, cP]
  have e : decide (((zX false (aiC k * m + m) (atB k) false : Nat) : Int) = ((akA m k : Nat) : Int)) = decide (zX false (aiC k * m + m) (atB k) false = akA m k) := aY.2 aA
  rw [← e]; rfl
 iterate 6 refine AX ?_
 refine .p rfl (zA U184 rfl Z3 (tm rfl)) ?_
 refine AX ?_
 refine .cl rfl call266 (evs2 rfl rfl) (brZ (aiC k * m + m) (bsB hq1 hc43 hm) hq2 _ hE _) ?_
 iterate 6 refine AX ?_
 refine .dropb (hb13) ?_
 iterate 2 refine AX ?_
 refine ⟨?_, f1, hf1, rfl⟩
 unfold aqS
 rw [show bcL k = false from hc26, Bool.false_or, bS, cP]
 have e : decide (((zX false (aiC k * m + m) (atB k) false : Nat) : Int) = ((akA m k : Nat) : Int)) = decide (zX false (aiC k * m + m) (atB k) false = akA m k) := aY.2 aA
 rw [← e]; rfl

theorem baH : ∀ (l : List UInt8) (acc : Nat), Digs l → bcM acc l < 18446744073709551616 → Lib.parseUintM 18446744073709551615 acc l = .ok (bcM acc l)
 | [], acc, _, _ => rfl
 | c :: r, acc, hd, h => by
  have hc := hd c aF
  rw [adL] at h
  have h1 := bqX (acc * 10 + (c.toNat - 48)) r
  unfold Lib.parseUintM
  rw [aN ⟨hc.1, hc.2⟩, aI, aI, adL]
  exact baH r _ (fun b hb => hd b (by simp [hb])) h
theorem btB {ds : List UInt8} (hd : Digs ds) (hl : ds.length ≤ 19) : num ds < 18446744073709551616 := by
 have h := agY hd
 refine bQ h (bE (aZ aC hl) aC)
theorem btC {ds : List UInt8} (hd : Digs ds) (hl : ds.length ≤ 15) : num ds < 9223372036854775808 := by
 have h := agY hd
 refine bQ h (bE (aZ aC hl) aC)
theorem bgE (w : World) (e : TypeId) (s : ByteArray) : Below w.heap.size w (Lib.bytesWorld w e s) :=
 ⟨rfl, rfl, rfl, by rw [Lib.bytesWorld_size]; omega, fun k hk => Lib.bytesWorld_at_old w e s k hk⟩
theorem puintA (ds : List UInt8) (hne : ds ≠ []) (hd : Digs ds) (hl : ds.length ≤ 19) : Fn 223 [.str ds, .int .i64 10, .int .i64 64] (.tuple [.int .u64 (num ds : Int), .nilIface]) := by
 intro H
 refine .lib _ fun g vs w k st => ?_
 obtain ⟨v, u, x, rfl, hv, hu, hx⟩ := relvs3 k
 cases hv with | str _ hs => ?_
 cases hu; cases hx
 have hp : Lib.parseUintB 64 ds = .ok (num ds) := by
  unfold Lib.parseUintB
  rw [aL hne]
  exact baH ds 0 hd (btB hd hl)
 refine (Tryz.strconv_ParseUint_10_at64_ok ⟨ds.toArray⟩ (by show ds.toArray.size ≤ _; rw [eC]; omega) (num ds) hp w).mono ?_
 rintro e w' ⟨rfl, h⟩
 refine ⟨_, rfl, RelV.two (.int _ _) .nilIface, ?_⟩
 rcases h with rfl | rfl
 ·exact Below.refl _ _
 exact bgE _ _ _
def cbN : Nat → Nat
 | 0 => zX false 1 0 false
 | i + 1 => aeQ (cbN i) (zX false 10 0 false)
def cdW (m j : Nat) : Nat := aeQ (zX false m 0 false) (cbN j)
theorem awI (n : Nat) (e : Int) (more : Bool) : zX false n e more < 18446744073709551616 := aV (acV n e more) aC
theorem aeB (neg : Bool) (n : Nat) (e : Int) (more : Bool) : zX neg n e more < 18446744073709551616 := by
 have h : zX neg n e more = aaA neg + zX false n e more := by
  unfold zX
  split
  ·rfl
  split
  ·unfold aaA; simp
  rw [axD, axD]; unfold aaA; simp
 have h2 := acV n e more
 rw [h]
 unfold aaA aoG at *
 split <;> omega
theorem apC (a b : Nat) : aeQ a b < 18446744073709551616 := by
 unfold aeQ
 split
 ·decide
 split
 ·split <;> decide
 exact aeB _ _ _ _
theorem pointR (neg : Bool) (ds : List UInt8) (e : Int) (hr : yZ ds e = true) : Fn 107 [dA neg ds e] (.int .i64 ((ds.length : Int) + e)) := by
 intro H
 have h := alB neg ds e (qC hr) H
 rw [show aiA ds e = (ds.length : Int) + e by unfold aiA; rw [aN hr]] at h
 exact h
theorem boK (i : Nat) : cbN i < 18446744073709551616 := by
 cases i with
 | zero => exact awI _ _ _
 | succ i => exact apC _ _
def aiL (ds : List UInt8) (e : Int) : Nat :=
 if ds = [] ∨ (ds.length : Int) + e < -330 then 0
 else if 310 < (ds.length : Int) + e then aoG
 else if ds.length ≤ 19 then
  (if ds.length ≤ 15 ∧ 0 ≤ e ∧ e ≤ 22 then cdW (num ds) e.toNat
   else if aqS (num ds) e = true then akA (num ds) e else apQ (num ds) e)
 else apQ (num ds) e

def bzM (b : Nat) (ds : List UInt8) (e : Int) (H : Heap) : Nat → Env → Heap → Prop := fun k env H1 => ∃ i : Nat, (i : Int) ≤ e ∧ env = [(6, .int .u64 ((num ds : Nat) : Int)), (8, .int .u64 ((cbN i : Nat) : Int)), (50, .int .i64 e), (51, .int .i64 (i : Int))] ∧ H = H1 ∧ k = e.toNat - i

theorem bdP (f : Nat → List AV) (hf : ROK f) (neg : Bool) (ds : List UInt8) (e : Int) (hr : yZ ds e = true) (b : Nat) (H : Heap) (hb : H.objs b = some (.box 189 (aaJ f))) : ACall prog 167 [.ptr (some ⟨b, 0, none⟩), dA neg ds e] H (fun y H' => y = .int .u64 ((aiL ds e : Nat) : Int) ∧ ∃ f', ROK f' ∧ H' = H.set b (.box 189 (aaJ f'))) := by
 have hd := qC hr
 have hrl := qM hr
 have ht10 : zX false 10 0 false < 18446744073709551616 := awI _ _ _
 refine ACall.of_body func167 rfl ntmps167 results167 rfl ?_
 iterate 10 refine AM ?_
 refine .cl rfl call107 (evs1 rfl) (pointR neg ds e hr _) ?_
 iterate 4 refine AX ?_
 refine AWP.seqTo 13 (.bool (decide (ds = []) || decide ((ds.length : Int) + e < -330))) [0, 3, 4, 5] ?_ ?_
 ·-- region 2
  refine AX ?_
  refine .p rfl (zA U58 rfl Z9 (tm rfl)) ?_
  iterate 3 refine AX ?_
  refine zD (t := 17) rfl (fun hg17 => ?_) (fun hg17 => ?_)
  ·have hh17 := hg17; try simp only [aO] at hh17
   iterate 5 refine AX ?_
   exact ⟨rfl, zO rfl (by (rw [show decide (ds = []) = _ from hg17]; rfl)) sX, rfl⟩
  have hh17 := hg17; try simp only [aM] at hh17
  iterate 5 refine AX ?_
  exact ⟨rfl, zO rfl (by (rw [show decide (ds = []) = _ from hg17]; rfl)) sX, rfl⟩
 refine AWP.sub [(13, _), (0, _), (3, _), (4, _), (5, _)] sX ?_
 refine AWP.cx rfl (fun hc13 => ?_) (fun hc13 => ?_)
 ·simp only [cN, aO] at hc13
  iterate 9 refine AM ?_
  refine ⟨?_, f, hf, (Heap.set_self hb).symm⟩
  unfold aiL
  rw [aN (hc13)]; rfl
 simp only [cE, aM] at hc13
 obtain ⟨hne, hlow⟩ := hc13
 iterate 7 refine AX ?_
 refine AWP.cx rfl (fun hc21 => ?_) (fun hc21 => ?_)
 ·iterate 9 refine AM ?_
  refine ⟨?_, f, hf, (Heap.set_self hb).symm⟩
  unfold aiL
  rw [aL (by intro q; rcases q with q | q; exact hne q; omega), aJ]; rfl
 iterate 6 refine AX ?_
 refine .p rfl (zA U58 rfl Z9 (tm rfl)) ?_
 iterate 5 refine AX ?_
 refine AWP.cx rfl (fun hc27 => ?_) (fun hc27 => ?_)
 ·have hl19 : ds.length ≤ 19 := by omega
  iterate 2 refine AX ?_
  refine .p rfl (zA U58 rfl Z9 (tm rfl)) ?_
  refine AX ?_
  refine .cl rfl call223 (.cons (tm rfl) (.cons zH (.cons zH .nil))) (puintA ds hne hd hl19 _) ?_
  iterate 8 refine AX ?_
  refine AWP.seqTo 47 (.bool (decide ((ds.length : Int) ≤ 15) && decide (0 ≤ e) && decide (e ≤ 22))) [0, 3, 4, 6] ?_ ?_
  ·-- region 8
   refine AX ?_
   refine .p rfl (zA U58 rfl Z9 (tm rfl)) ?_
   iterate 4 refine AX ?_
   refine zD (t := 38) rfl (fun hg38 => ?_) (fun hg38 => ?_)
   ·have hh38 := hg38; try simp only [aO] at hh38
    refine .gp rfl rfl rfl aB (zA U58 rfl Z3 (tm rfl)) ?_
    iterate 4 refine AX ?_
    refine zD (t := 43) rfl (fun hg43 => ?_) (fun hg43 => ?_)
    ·have hh43 := hg43; try simp only [aO] at hh43
     refine .gp rfl rfl rfl aB (zA U58 rfl Z3 (tm rfl)) ?_
     iterate 4 refine AX ?_
     exact ⟨rfl, zO rfl (by (rw [show decide ((ds.length : Int) ≤ 15) = _ from hg38, show decide (0 ≤ e) = _ from hg43]; rfl)) sX, rfl⟩
    have hh43 := hg43; try simp only [aM, dK] at hh43
    iterate 5 refine AX ?_
    exact ⟨rfl, zO rfl (by (rw [show decide ((ds.length : Int) ≤ 15) = _ from hg38, show decide (0 ≤ e) = _ from hg43]; rfl)) sX, rfl⟩
   have hh38 := hg38; try simp only [aM, dK] at hh38
   iterate 10 refine AX ?_
   exact ⟨rfl, zO rfl (by (rw [show decide ((ds.length : Int) ≤ 15) = _ from hg38]; rfl)) sX, rfl⟩
  refine AWP.sub [(47, _), (0, _), (3, _), (4, _), (6, _)] sX ?_
  refine AWP.cx rfl (fun hc47 => ?_) (fun hc47 => ?_)
  ·simp only [bK, aO] at hc47
   have hm63 := btC hd aA
   iterate 2 refine AX ?_
   refine .cl rfl C55 (.cons zH .nil) (afA 1 aC _) ?_
   iterate 6 refine AX ?_
   refine .p rfl (zA U58 rfl Z3 (tm rfl)) ?_
   iterate 5 refine AX ?_
   refine AWP.loopW (bzM b ds e H) (e.toNat) ⟨0, by omega, rfl, rfl, rfl⟩ sX (hRa _) ?_
   rintro _ _ _ ⟨i, hi, rfl, rfl, rfl⟩
   iterate 6 refine AX ?_
   refine AWP.cx rfl (fun hc52 => ?_) (fun hc52 => ?_)
   ·iterate 6 refine AX ?_
    refine .cl rfl C55 (.cons zH .nil) (afA 10 aC _) (.cl rfl C133 (evs2 rfl rfl) (ahA _ _ (boK _) ht10 _) ?_)
    iterate 9 refine AX ?_
    refine Round.mk (J := bzM b ds e H) ⟨i + 1, by omega, rfl, rfl, rfl⟩ sX (hRa _) aA
   iterate 8 refine AX ?_
   refine .p rfl (qX U22 U3 (tm rfl) (wrapNI64 aB)) (.cl rfl C55 (evs1 rfl) (afA (num ds) (btC hd aA) _) ?_)
   refine AX ?_
   refine .cl rfl C133 (evs2 rfl rfl) (ahA _ _ (awI _ _ _) (boK _) _) ?_
   iterate 7 refine AX ?_
   refine ⟨?_, f, hf, (Heap.set_self hb).symm⟩
   unfold aiL
   obtain rfl : i = e.toNat := by omega
   rw [aL (by intro q; rcases q with q | q; exact hne q; omega), aI, aN hl19, aJ]; rfl
  simp only [bU, aM] at hc47
  iterate 6 refine AX ?_
  refine .p rfl (zA U58 rfl Z3 (tm rfl)) ?_
  refine AX ?_
  refine .s rfl (zB call224 (evs3 rfl rfl rfl) (beC f hf (num ds) (btB hd hl19) e (by constructor <;> omega) b _ hb)) ?_
  rintro _ _ ⟨rfl, f1, hf1, rfl⟩
  iterate 12 refine AX ?_
  refine AWP.cx rfl (fun hc70 => ?_) (fun hc70 => ?_)
  ·iterate 9 refine AX ?_
   refine ⟨?_, f1, hf1, rfl⟩
   unfold aiL
   rw [aL (by intro q; rcases q with q | q; exact hne q; omega), aI, aN hl19, aI, aN hc70]; rfl
  iterate 5 refine AX ?_
  refine .cl rfl call225 (evs1 rfl) (atV neg ds e hr hne aA _) ?_
  iterate 5 refine AX ?_
  refine ⟨?_, f1, hf1, rfl⟩
  unfold aiL
  rw [aL (by intro q; rcases q with q | q; exact hne q; omega), aI, aN hl19, aI, aL (by rw [hc70]; decide)]; rfl
 iterate 5 refine AX ?_
 refine .cl rfl call225 (evs1 rfl) (atV neg ds e hr hne aA _) ?_
 iterate 5 refine AX ?_
 refine ⟨?_, f, hf, (Heap.set_self hb).symm⟩
 unfold aiL
 rw [aL (by intro q; rcases q with q | q; exact hne q; omega), aI, aI]; rfl

theorem bjK (neg : Bool) (x : Nat) (hx : x < 9223372036854775808) : Fn 166 [.bool neg, .int .u64 (x : Int)] (.int .u64 ((aaA neg + x : Nat) : Int)) := by
 intro H
 refine .of_body func166 rfl ntmps166 results166 rfl ?_
 iterate 11 refine AM ?_
 refine .cx rfl (fun hc5 => ?_) (fun hc5 => ?_)
 ·iterate 10 refine AM ?_
  refine ⟨?_, rfl⟩
  rw [show neg = true from hc5, show aaA true = 9223372036854775808 from rfl, ← beR hx]; rfl
 iterate 10 refine AX ?_
 refine ⟨?_, rfl⟩
 rw [show neg = false from hc5, show aaA false = 0 from rfl, bZ]; rfl

theorem biO {a b : Nat} (ha : a < 9223372036854775808) (hb : b < 9223372036854775808) : aeQ a b ≤ 9221120237041090560 := by
 have hn : alW a b = false := by
  unfold alW
  refine bD ?_
  rw [cB (show a < 2 ^ 63 from ha), cB (show b < 2 ^ 63 from hb)]
  simp
 unfold aeQ
 rw [hn]
 split
 ·exact aT _
 split
 ·decide
 exact bE (acV _ _ _) aC
theorem bdA : ∀ i, cbN i < 9223372036854775808
 | 0 => aV (acV _ _ _) aC
 | i + 1 => aV (biO (bdA i) (aV (acV _ _ _) aC)) aC
theorem bgW (ds : List UInt8) (e : Int) : aiL ds e < 9223372036854775808 := by
 have hs : apQ (num ds) e < 9223372036854775808 := by
  unfold apQ azP
  split <;> exact aV (acV _ _ _) aC
 unfold aiL
 split
 ·decide
 split
 ·decide
 split
 ·split
  ·exact aV (biO (aV (acV _ _ _) aC) (bdA _)) aC
  split
  ·exact aV (acV _ _ _) aC
  exact hs
 exact hs
def aiX (neg : Bool) (ds : List UInt8) (e : Int) : Nat := aaA neg + aiL ds e

theorem beA (f : Nat → List AV) (hf : ROK f) (neg : Bool) (ds : List UInt8) (e : Int) (hr : yZ ds e = true) (b : Nat) (H : Heap) (hb : H.objs b = some (.box 189 (aaJ f))) : ACall prog 99 [.ptr (some ⟨b, 0, none⟩), dA neg ds e] H (fun y H' => y = .tuple [.int .u64 ((aiX neg ds e : Nat) : Int), .int .i64 0] ∧ ∃ f', ROK f' ∧ H' = H.set b (.box 189 (aaJ f'))) := by
 refine .of_body func99 rfl ntmps99 results99 rfl ?_
 iterate 4 refine AM ?_
 iterate 7 refine AX ?_
 refine .cl rfl C165 (evs1 rfl) (afQ neg ds e (qC hr) _) ?_
 iterate 3 refine AX ?_
 refine .cond_false (tm rfl) (by rw [hr]; rfl) ?_
 iterate 3 refine AX ?_
 refine .draw [(0, true), (1, true), (2, true), (3, true), (4, false), (5, false), (6, true), (7, true)] rfl aE ?_
 refine .p rfl rfl (zA U58 rfl Z4 (tm rfl)) ?_
 iterate 3 refine AX ?_
 refine .s rfl rfl (zB call167 (evs2 rfl rfl) (bdP f hf neg ds e hr b _ hb)) ?_
 rintro _ _ ⟨rfl, f1, hf1, rfl⟩
 refine .s rfl rfl (zB call166 (evs2 rfl rfl) (bjK neg _ (bgW ds e) _)) ?_
 rintro _ _ ⟨rfl, hH⟩
 obtain rfl := hH.symm
 iterate 6 refine AX ?_
 exact ⟨rfl, f1, hf1, rfl⟩

end
end Go.Proofs.YtmmgbnolccpjoaaGreatDoor
