import Derived.Test.YtmmgbnolccpjoaaGreatDoorQ2
import Derived.Test.YtmmgbnolccpjoaaGreatDoorT1
namespace Go.Proofs.YtmmgbnolccpjoaaGreatDoor
open Go Go.RowKit
variable {A B S : List AV} {j m n w : Nat} {k : Int}
section
set_option maxRecDepth 100000

def aaP (f : Nat → List AV) : List AV := (List.range 801).flatMap f
def bbI (f : Nat → List AV) (i : Nat) (x : List AV) : Nat → List AV := fun q => if q = i then x else f q
def slotF : List AV := [.int .u32 0, .int .i32 0, .int .u32 0, .int .u64 0, .int .u64 0, .int .i64 0, .bool false]
def anA (k : Int) : List AV := [.int .u32 1, .int .i32 0, .int .u32 0, .int .u64 ((ahB k / M1 : Nat) : Int), .int .u64 ((ahB k % M1 : Nat) : Int), .int .i64 (apU k), .bool (axM k)]
def ROK (f : Nat → List AV) : Prop := ∀ i, f i = slotF ∨ f i = anA ((i : Int) - 400)
theorem ROK.len {f : Nat → List AV} (h : ROK f) (i : Nat) : (f i).length = 7 := by
 rcases h i with e | e <;> rw [e] <;> rfl
theorem atR {f : Nat → List AV} (h : ∀ i, (f i).length = 7) : ∀ n, ((List.range n).flatMap f).length = 7 * n
 | 0 => rfl
 | n + 1 => by rw [List.range_succ, List.flatMap_append, aS, atR h n]; simp [h]; omega
theorem atQ {f g : Nat → List AV} : ∀ l : List Nat, (∀ q, q ∈ l → f q = g q) → l.flatMap f = l.flatMap g
 | [], _ => rfl
 | x :: l, h => by rw [eQ, eQ, h x (by simp), atQ l (fun q hq => h q (by simp [hq]))]
theorem aqV {f : Nat → List AV} (h : ∀ i, (f i).length = 7) {i : Nat} (hi : i < 801) : ∃ A B : List AV, A.length = 7 * i ∧ aaP f = A ++ (f i ++ B) ∧ ∀ x, aaP (bbI f i x) = A ++ (x ++ B) := by
 have e : List.range 801 = List.range i ++ (i :: List.range' (i + 1) (800 - i)) := by
  rw [List.range_eq_range', List.range_eq_range', show (801 : Nat) = i + (1 + (800 - i)) by omega, ← List.range'_append_1, bW, eL 1, List.range'_succ]
 refine ⟨(List.range i).flatMap f, (List.range' (i + 1) (800 - i)).flatMap f, atR h i, ?_, fun x => ?_⟩
 ·unfold aaP
  rw [e, List.flatMap_append, eQ]
 unfold aaP
 rw [e, List.flatMap_append, eQ]
 have e1 : (List.range i).flatMap (bbI f i x) = (List.range i).flatMap f := atQ _ (fun q hq => by
   have := List.mem_range.1 hq
   unfold bbI; rw [aN (by omega)])
 have e2 : (List.range' (i + 1) (800 - i)).flatMap (bbI f i x) = (List.range' (i + 1) (800 - i)).flatMap f := atQ _ (fun q hq => by
   have := (List.mem_range'_1.1 hq).1
   unfold bbI; rw [aN (by omega)])
 rw [e1, e2]
 unfold bbI; rw [aO rfl]
theorem aoQ (hA : A.length = n) (hj : j < S.length) : (A ++ (S ++ B))[n + j]? = S[j]? := by
 rw [eN (by omega), hA, fI, fE hj]
theorem ayI (hA : A.length = n) (hj : j < S.length) (x : AV) : (A ++ (S ++ B)).set (n + j) x = A ++ (S.set j x ++ B) := by
 rw [List.set_append_right _ _ (by omega), hA, fI, List.set_append_left _ _ hj]
theorem put_mid {xs : List AV} (hA : A.length = n) (hj : j + xs.length ≤ S.length) : putRow (A ++ (S ++ B)) (n + j) xs = A ++ (putRow S j xs ++ B) := by
 unfold putRow
 subst hA
 rw [List.take_append, List.drop_append]
 simp only [fI, dY]
 rw [aU (by omega), fA (by omega), eS (by omega), List.drop_append_of_le_length (by omega)]
 simp
theorem take_mid (hA : A.length = n) (hj : j + m ≤ S.length) : ((A ++ (S ++ B)).drop (n + j)).take m = (S.drop j).take m := by
 subst hA
 rw [List.drop_append, fI, fA (by omega), cT, List.drop_append_of_le_length (by omega), eS (by rw [bS]; omega)]

theorem bkL (k : Int) (hk : -400 ≤ k ∧ k ≤ 400) (b o : Nat) (cs : List AV) (H : Heap) (hb : H.objs b = some (.box 189 cs)) (ho : o + 7 ≤ cs.length) : ACall Tryz.prog 307 [.iptr [.int .i64 k], .iptr [.ptr (some ⟨b, o, none⟩)]] H (fun y H' => y = .tuple [] ∧ H' = H.set b (.box 189 (putRow cs (o + 3) (akQ k).cells))) := by
 refine ACall.of_body Tryz.func307 rfl Tryz.ntmps307 Tryz.results307 rfl ?_
 -- region 0
 refine AWP.draw [(0, true), (1, true), (2, false), (3, true), (4, true), (5, false)] rfl (by decide +kernel) ?_
 first | (refine APlan.p rfl rfl (zH G302 (.tmp _ _ rfl)) ?_) | (refine APlan.f rfl rfl (fun _ => yE G302 (.tmp _ _ rfl) (by first | assumption | exact (by assumption : Heap.le _ _).objs _ _ (by assumption) | exact oS _ _ _ | exact (oN _ _ (by assumption)).trans (oS _ _ _) | exact (oN _ _ (by assumption)).trans ((oN _ _ (by assumption)).trans (oS _ _ _)) | exact (oN _ _ (by assumption)).trans (by assumption)) rfl) ?_)
 first | (refine APlan.p rfl rfl (zH G3 (.tmp _ _ rfl)) ?_) | (refine APlan.f rfl rfl (fun _ => yE G3 (.tmp _ _ rfl) (by first | assumption | exact (by assumption : Heap.le _ _).objs _ _ (by assumption) | exact oS _ _ _ | exact (oN _ _ (by assumption)).trans (oS _ _ _) | exact (oN _ _ (by assumption)).trans ((oN _ _ (by assumption)).trans (oS _ _ _)) | exact (oN _ _ (by assumption)).trans (by assumption)) rfl) ?_)
 refine APlan.s rfl rfl (zF Tryz.call308 (.cons (.tmp _ _ rfl) .nil) (bfV k hk _)) ?_
 rintro _ _ ⟨rfl, hH⟩
 obtain rfl := hH.symm
 first | (refine APlan.p rfl rfl (yZ (.tmp _ _ rfl)) ?_) | (refine APlan.p rfl rfl (qT (.tmp _ _ rfl)) ?_) | (refine APlan.p rfl rfl (adJ (.tmp _ _ rfl)) ?_)
 first | (refine APlan.p rfl rfl (zD U186 rfl Z184 (.tmp _ _ rfl)) ?_) | (refine APlan.p rfl rfl (zV U186 rfl Z184 (.tmp _ _ rfl)) ?_)
 refine APlan.s0 rfl (zG Z184 (.tmp _ _ rfl) (.tmp _ _ rfl) rfl rfl (.inr ⟨_, rfl⟩) hb (by show _ + 3 + 4 ≤ _; omega)) ?_
 rintro _ _ ⟨rfl, hH⟩
 obtain rfl := hH.symm
 refine APlan.nil ?_
 -- ret 0
 refine Ret.go' .nil _ (hRa _) ?_
 exact ⟨rfl, rfl⟩

theorem once_of (f : Nat → List AV) (hf : ROK f) (k : Int) (hk : -400 ≤ k ∧ k ≤ 400) (i : Nat) (hi : (i : Int) = k + 400) (b : Nat) (H : Heap) (hb : H.objs b = some (.box 189 (aaP f))) :
  ACall Tryz.prog 306 [.ptr (some ⟨b, 7 * i, none⟩), .func 307 [.iptr [.int .i64 k], .iptr [.ptr (some ⟨b, 7 * i, none⟩)]]] H (fun y H' => y = .tuple [] ∧ H' = H.set b (.box 189 (aaP (bbI f i (anA k))))) := by
 obtain ⟨A, B, hA, e1, e2⟩ := aqV hf.len (show i < 801 by omega)
 rcases hf i with h | h
 ·rw [e1, h] at hb
  have hd : (A ++ (slotF ++ B)).set (7 * i + 1) (.int .i32 1) = A ++ (slotF.set 1 (.int .i32 1) ++ B) := ayI hA (lB rfl) _
  have hc := bkL k hk b (7 * i) (A ++ (slotF.set 1 (.int .i32 1) ++ B)) (H.set b (.box 189 (A ++ (slotF.set 1 (.int .i32 1) ++ B)))) (oS _ _ _) (by simp [slotF]; omega)
  rw [put_mid hA (lB rfl), sS] at hc
  have h1 := bfN (b := b) (o := 7 * i) (cs := A ++ (slotF ++ B)) (ds := A ++ (putRow (slotF.set 1 (.int .i32 1)) 3 (akQ k).cells ++ B)) 307 [.iptr [.int .i64 k], .iptr [.ptr (some ⟨b, 7 * i, none⟩)]] Tryz.call307 H hb
   (by have := aoQ (A := A) (S := slotF) (B := B) (j := 0) hA (lB rfl); rwa [cC] at this) (aoQ (A := A) (S := slotF) (B := B) (j := 1) hA (lB rfl))
   (by have := aoQ (A := A) (S := putRow (slotF.set 1 (.int .i32 1)) 3 (akQ k).cells) (B := B) (j := 0) hA (lB rfl); rwa [cC] at this) (aoQ (A := A) (S := putRow (slotF.set 1 (.int .i32 1)) 3 (akQ k).cells) (B := B) (j := 1) hA (lB rfl)) (by rw [hd]; exact hc)
  have e3 : (((A ++ (putRow (slotF.set 1 (.int .i32 1)) 3 (akQ k).cells ++ B)).set (7 * i) (.int .u32 1)).set (7 * i + 1) (.int .i32 0)) = aaP (bbI f i (anA k)) := by
   rw [e2]
   have q := ayI (A := A) (S := putRow (slotF.set 1 (.int .i32 1)) 3 (akQ k).cells) (B := B) (j := 0) hA (lB rfl) (.int .u32 1)
   rw [cC] at q
   rw [q, ayI hA (lB rfl)]
   rfl
  rw [e3] at h1
  exact h1
 have hk2 : anA ((i : Int) - 400) = anA k := by rw [show (i : Int) - 400 = k by omega]
 rw [hk2] at h
 have e3 : aaP (bbI f i (anA k)) = aaP f := by rw [e2, e1, h]
 rw [e3]
 have h1 := bkI (b := b) (o := 7 * i) 307 [.iptr [.int .i64 k], .iptr [.ptr (some ⟨b, 7 * i, none⟩)]] H hb (by rw [e1, h]; have := aoQ (A := A) (S := anA k) (B := B) (j := 0) hA (lB rfl); rwa [cC] at this)
 refine h1.mono ?_
 rintro y H' ⟨rfl, rfl⟩
 exact ⟨rfl, (Heap.set_self hb).symm⟩
theorem of_load {f : Nat → List AV} {i : Nat} (hf : ROK f) (hi : i < 801) : ((aaP (bbI f i (anA k))).drop (7 * i + 3)).take 4 = (akQ k).cells := by
 obtain ⟨A, B, hA, e1, e2⟩ := aqV hf.len hi
 rw [e2, take_mid hA (by show 3 + 4 ≤ 7; decide)]
 rfl
theorem bbV {f : Nat → List AV} (h : ∀ i, (f i).length = 7) : (aaP f).length = 5607 := atR h 801
theorem ROK.upd {f : Nat → List AV} (h : ROK f) {i : Nat} (hi : (i : Int) = k + 400) : ROK (bbI f i (anA k)) := fun q => by
 unfold bbI
 split
 ·rename_i e; subst e; right; rw [show (q : Int) - 400 = k by omega]
 exact h q

theorem zr302 : ZR 302 [.ptr none] := ZRi Tryz.zeroValue302

theorem of_calls (f : Nat → List AV) (hf : ROK f) (k : Int) (hk : -400 ≤ k ∧ k ≤ 400) (b : Nat) (H : Heap) (hb : H.objs b = some (.box 189 (aaP f))) : ACall Tryz.prog 264 [.ptr (some ⟨b, 0, none⟩), .int .i64 k] H (fun y H' => y = akQ k ∧ ∃ f', ROK f' ∧ H' = H.set b (.box 189 (aaP f'))) := by
 have hlen := bbV hf.len
 obtain ⟨i, hi⟩ : ∃ i : Nat, (i : Int) = k + 400 := ⟨(k + 400).toNat, by omega⟩
 have hi801 : i < 801 := by omega
 refine ACall.of_body Tryz.func264 rfl Tryz.ntmps264 Tryz.results264 rfl ?_
 refine AWP.seq ?_
 -- region 0
 refine AWP.region ?_
 refine AList.s rfl (zZ (.tmp _ _ rfl) (.inl rfl)) ?_
 rintro _ _ ⟨rfl, hH⟩
 obtain rfl := hH.symm
 refine AList.s rfl (agJ zr184) ?_
 rintro _ _ ⟨b4, hb4, rfl, hH⟩
 obtain rfl := hH.symm
 refine AList.nil ?_
 refine Next.go ?_
 refine AWP.seq ?_
 have hnb : b ≠ b4 := by intro q; rw [q, hb4] at hb; cases hb
 have hbq := (oN H (.box 184 [.int .u64 0, .int .u64 0, .int .i64 0, .bool false]) hnb).trans hb
 -- region 1
 refine AWP.draw [(0, true), (1, true), (2, true), (3, true), (4, true), (5, true), (6, false), (7, false)] rfl (by decide +kernel) ?_
 refine APlan.p rfl rfl (zJ (.tmp _ _ rfl)) ?_
 first | (refine APlan.p rfl rfl (zH G3 (.tmp _ _ rfl)) ?_) | (refine APlan.f rfl rfl (fun _ => yE G3 (.tmp _ _ rfl) (by first | assumption | exact (by assumption : Heap.le _ _).objs _ _ (by assumption) | exact oS _ _ _ | exact (oN _ _ (by assumption)).trans (oS _ _ _) | exact (oN _ _ (by assumption)).trans ((oN _ _ (by assumption)).trans (oS _ _ _)) | exact (oN _ _ (by assumption)).trans (by assumption)) rfl) ?_)
 refine APlan.p rfl rfl (yT zE (.tmp _ _ rfl) (by omega)) ?_
 first | (refine APlan.p rfl rfl (yZ (.tmp _ _ rfl)) ?_) | (refine APlan.p rfl rfl (qT (.tmp _ _ rfl)) ?_) | (refine APlan.p rfl rfl (adJ (.tmp _ _ rfl)) ?_)
 first | (refine APlan.p rfl rfl (zD U189 rfl Z187 (.tmp _ _ rfl)) ?_) | (refine APlan.p rfl rfl (zV U189 rfl Z187 (.tmp _ _ rfl)) ?_)
 refine APlan.p rfl rfl (.as (b := .ptr (some ⟨b, 7 * i, none⟩)) (by show AV.ptr (some ⟨b, 0 + 0 + (400 + k).toNat * 7, none⟩) = _; rw [show 0 + 0 + (400 + k).toNat * 7 = 7 * i by omega]) (aaD Tryz.underlying187 Tryz.sizeOf186 (.tmp _ _ rfl) (.tmp _ _ rfl) (by omega) (by omega))) ?_
 refine APlan.s rfl rfl (agJ zr302) ?_
 rintro _ _ ⟨b5, hb5, rfl, hH⟩
 obtain rfl := hH.symm
 have hn4_5 := Heap.ne_of (by first | assumption | exact (by assumption : Heap.le _ _).objs _ _ (by assumption) | exact oS _ _ _ | exact (oN _ _ (by assumption)).trans (oS _ _ _) | exact (oN _ _ (by assumption)).trans ((oN _ _ (by assumption)).trans (oS _ _ _)) | exact (oN _ _ (by assumption)).trans (by assumption)) hb5
 refine APlan.s0 rfl (zG Tryz.sizeOf302 (.tmp _ _ rfl) (.tmp _ _ rfl) rfl rfl (.inl rfl) (by first | assumption | exact (by assumption : Heap.le _ _).objs _ _ (by assumption) | exact oS _ _ _ | exact (oN _ _ (by assumption)).trans (oS _ _ _) | exact (oN _ _ (by assumption)).trans ((oN _ _ (by assumption)).trans (oS _ _ _)) | exact (oN _ _ (by assumption)).trans (by assumption)) (lB rfl)) ?_
 rintro _ _ ⟨rfl, hH⟩
 obtain rfl := hH.symm
 try first | rw [sS] | rw [sU (by assumption)]
 refine APlan.nil ?_
 refine Next.go ?_
 refine AWP.frz (t := 5) rfl (by first | exact hb5 | exact fS hb5 _) ?_
 refine AWP.seq ?_
 -- region 2
 refine AWP.region ?_
 first | (refine AList.p rfl (zH G302 (.tmp _ _ rfl)) ?_) | (refine AList.s rfl (yE G302 (.tmp _ _ rfl) (by first | assumption | exact (by assumption : Heap.le _ _).objs _ _ (by assumption) | exact oS _ _ _ | exact (oN _ _ (by assumption)).trans (oS _ _ _) | exact (oN _ _ (by assumption)).trans ((oN _ _ (by assumption)).trans (oS _ _ _)) | exact (oN _ _ (by assumption)).trans (by assumption)) rfl) ?_; rintro _ _ ⟨rfl, hH⟩; obtain rfl := hH.symm)
 first | (refine AList.p rfl (yZ (.tmp _ _ rfl)) ?_) | (refine AList.p rfl (qT (.tmp _ _ rfl)) ?_) | (refine AList.p rfl (adJ (.tmp _ _ rfl)) ?_)
 first | (refine AList.p rfl (zD U186 rfl Tryz.sizeOf182 (.tmp _ _ rfl)) ?_) | (refine AList.p rfl (zV U186 rfl Tryz.sizeOf182 (.tmp _ _ rfl)) ?_)
 refine AList.p rfl (bfD (.tmp _ _ rfl) (.tmp _ _ rfl)) ?_
 refine AList.s rfl (zF Tryz.call306 (.cons (.tmp _ _ rfl) (.cons (.tmp _ _ rfl) .nil)) (once_of f hf k hk i hi b _ (by first | assumption | exact (oN _ _ (by assumption)).trans hb))) ?_
 rintro _ _ ⟨rfl, hH⟩
 obtain rfl := hH.symm
 refine AList.nil ?_
 refine Next.go ?_
 refine AWP.seq ?_
 have hnb2 := hnb.symm
 rw [Heap.set_comm hnb2]
 have hb4 := (oN H (.box 189 (aaP (bbI f i (anA k)))) hnb2).trans hb4
 -- region 3
 refine AWP.region ?_
 first | (refine AList.p rfl (zH G302 (.tmp _ _ rfl)) ?_) | (refine AList.s rfl (yE G302 (.tmp _ _ rfl) (by first | assumption | exact (by assumption : Heap.le _ _).objs _ _ (by assumption) | exact oS _ _ _ | exact (oN _ _ (by assumption)).trans (oS _ _ _) | exact (oN _ _ (by assumption)).trans ((oN _ _ (by assumption)).trans (oS _ _ _)) | exact (oN _ _ (by assumption)).trans (by assumption)) rfl) ?_; rintro _ _ ⟨rfl, hH⟩; obtain rfl := hH.symm)
 first | (refine AList.p rfl (yZ (.tmp _ _ rfl)) ?_) | (refine AList.p rfl (qT (.tmp _ _ rfl)) ?_) | (refine AList.p rfl (adJ (.tmp _ _ rfl)) ?_)
 first | (refine AList.p rfl (zD U186 rfl Z184 (.tmp _ _ rfl)) ?_) | (refine AList.p rfl (zV U186 rfl Z184 (.tmp _ _ rfl)) ?_)
 refine AList.s rfl (AStep.mono (R' := fun y H' => y = akQ k ∧ H' = _) (yW Tryz.isAgg184 Z184 (.tmp _ _ rfl) (by first | assumption | exact (by assumption : Heap.le _ _).objs _ _ (by assumption) | exact oS _ _ _ | exact (oN _ _ (by assumption)).trans (oS _ _ _) | exact (oN _ _ (by assumption)).trans ((oN _ _ (by assumption)).trans (oS _ _ _)) | exact (oN _ _ (by assumption)).trans (by assumption)) (by show 7 * i + 3 + 4 ≤ _; rw [bbV (hf.upd hi).len]; omega)) (fun x H' h => ⟨h.1.trans (congrArg AV.agg (of_load (k := k) hf hi801)), h.2⟩)) ?_
 rintro _ _ ⟨rfl, hH⟩
 obtain rfl := hH.symm
 refine AList.s0 (zG Z184 (.tmp _ _ rfl) (.tmp _ _ rfl) rfl rfl (.inr ⟨_, rfl⟩) (by first | assumption | exact (by assumption : Heap.le _ _).objs _ _ (by assumption) | exact oS _ _ _ | exact (oN _ _ (by assumption)).trans (oS _ _ _) | exact (oN _ _ (by assumption)).trans ((oN _ _ (by assumption)).trans (oS _ _ _)) | exact (oN _ _ (by assumption)).trans (by assumption)) (lB rfl)) ?_
 rintro _ _ ⟨rfl, hH⟩
 obtain rfl := hH.symm
 try first | rw [sS] | rw [sU (by assumption)]
 refine AList.nil ?_
 refine Next.go ?_
 refine AWP.frz (t := 4) rfl (by first | exact hb4 | exact fS hb4 _) ?_
 refine AWP.ret ?_
 -- ret 0
 refine Ret.go (.cons (.cellI _ _ _ _ rfl Tryz.isAgg184 Z184 rfl) .nil) _ (hRa _) ?_
 refine ⟨?_, bbI f i (anA k), hf.upd hi, ?_⟩
 ·rfl
 rfl

end
section
open Go Go.RowKit
set_option maxRecDepth 100000

theorem blM {x : AV} (w : Nat) (h : x = u3 w) (hw : w < M3) (e : Int) (he : -10000 ≤ e ∧ e ≤ 2000) (H : Heap) : ACall Tryz.prog 266 [x, .int .i64 e] H (fun y H' => y = .int .u64 ((yB false w e false : Nat) : Int) ∧ H' = H) := by
 subst h; exact arK w hw e he H
theorem blP (hw : w < M3) (h : M2 ≤ w % M2 + m) (hm : m < M1) : (.agg [.int .u64 ((w / M2 + 1 : Nat) : Int), .int .u64 (((w % M2 + m) % M2 / M1 : Nat) : Int), .int .u64 (((w % M2 + m) % M2 % M1 : Nat) : Int)] : AV) = u3 (w + m) := by
 unfold u3 w3
 have e1 : (w + m) / M2 = w / M2 + 1 := by unfold M1 M2 M3 at *; omega
 have e2 : (w + m) / M1 % M1 = (w % M2 + m) % M2 / M1 := by unfold M1 M2 M3 at *; omega
 have e3 : (w + m) % M1 = (w % M2 + m) % M2 % M1 := by unfold M1 M2 M3 at *; omega
 rw [e1, e2, e3]
theorem blO (hw : w < M3) (h : ¬ M2 ≤ w % M2 + m) (hm : m < M1) : (.agg [.int .u64 ((w / M2 : Nat) : Int), .int .u64 (((w % M2 + m) % M2 / M1 : Nat) : Int), .int .u64 (((w % M2 + m) % M2 % M1 : Nat) : Int)] : AV) = u3 (w + m) := by
 unfold u3 w3
 have e1 : (w + m) / M2 = w / M2 := by unfold M1 M2 M3 at *; omega
 have e2 : (w + m) / M1 % M1 = (w % M2 + m) % M2 / M1 := by unfold M1 M2 M3 at *; omega
 have e3 : (w + m) % M1 = (w % M2 + m) % M2 % M1 := by unfold M1 M2 M3 at *; omega
 rw [e1, e2, e3]
theorem high_fit (hw : w + m < M3) (h : M2 ≤ w % M2 + m) : w / M2 + 1 < 18446744073709551616 := by
 unfold M2 M3 at *; omega
theorem beX (k : Int) (hm : m < M1) : ahB k * m < M3 ∧ ahB k * m + m < M3 := by
 have hp := atD k
 have h2 : ahB k * m + m = (ahB k + 1) * m := by rw [bP, cL]
 have h3 : (ahB k + 1) * m ≤ M2 * m := aV _ hp
 have h4 : M2 * m ≤ M2 * (M1 - 1) := bT _ (by unfold M1 at *; omega)
 have h5 : M2 * (M1 - 1) < M3 := by decide +kernel
 omega
theorem bfJ (hk : -400 ≤ k ∧ k ≤ 400) : -10000 ≤ apU k ∧ apU k ≤ 2000 := by
 have h1 := aiK k.toNat
 have h2 := aiK (-k).toNat
 unfold apU
 split <;> omega

theorem azA (f : Nat → List AV) (hf : ROK f) (m : Nat) (hm : m < 18446744073709551616) (k : Int) (hk : -400 ≤ k ∧ k ≤ 400) (b : Nat) (H : Heap) (hb : H.objs b = some (.box 189 (aaP f))) : ACall Tryz.prog 224 [.ptr (some ⟨b, 0, none⟩), .int .u64 (m : Int), .int .i64 k] H (fun y H' => y = .tuple [.int .u64 ((aiM m k : Nat) : Int), .bool (anV m k)] ∧ ∃ f', ROK f' ∧ H' = H.set b (.box 189 (aaP f'))) := by
 obtain ⟨hq1, hq2⟩ := beX k (m := m) hm
 have hE := bfJ hk
 have hpl := atD k
 have hlm : ahB k * m % M2 < M2 := bQ _ (by decide +kernel)
 have hmM : m < M2 := cX hm (by decide +kernel)
 refine ACall.of_body Tryz.func224 rfl Tryz.ntmps224 Tryz.results224 rfl ?_
 refine .sr (.p rfl (zA (zI 0)) (.p rfl (zA zM) (.nr (.mv rfl rfl (.mv rfl rfl (.s rfl (zF Tryz.call264 (evs2 rfl rfl) (of_calls f hf k hk b _ hb)) ?_))))))
 rintro _ _ ⟨rfl, f1, hf1, rfl⟩
 refine .al zr184 (fun b8 hb8 => ?_)
 refine .e0 (zG Z184 (tm rfl) (tm rfl) rfl rfl (.inr ⟨_, rfl⟩) (oS _ _ _) (lB rfl)) ?_
 try first | rw [sS] | rw [sU (by assumption)]
 refine .ng ?_
 refine AWP.frz (t := 8) rfl (hb8) ?_
 refine .sr (.p rfl (zD U184 rfl Z149 (tm rfl)) (.p rfl (zQ G149 Z149 (tm rfl) (lB rfl)) (.mv rfl rfl (.cl rfl Tryz.call265 (evs2 rfl rfl) (auM (ahB k) m hpl hm _) ?_))))
 refine .al zr247 (fun b9 hb9 => ?_)
 refine .e0 (zG Z247 (tm rfl) (tm rfl) rfl rfl (.inr ⟨_, rfl⟩) (oS _ _ _) (lB rfl)) ?_
 try first | rw [sS] | rw [sU (by assumption)]
 refine .ng ?_
 refine AWP.frz (t := 9) rfl (hb9) ?_
 refine .sr (.p rfl (zQ G247 Z247 (tm rfl) (lB rfl)) (.p rfl (zD U184 rfl Z3 (tm rfl)) (.p rfl (zH G3 (tm rfl)) (.cl rfl Tryz.call266 (evs2 rfl rfl) (arK _ hq1 _ hE _) (.as rfl rfl (.ng (.seq (.sr ?_))))))))
 refine .p rfl (zD U184 rfl Z4 (tm rfl)) (.p rfl (zH G4 (tm rfl)) (.ng ?_))
 refine AWP.cond (tm rfl) (fun hc26 => ?_) (fun hc26 => ?_)
 ·try simp only [aK] at hc26
  refine .sr (.mv rfl rfl (.as rfl rfl (.p rfl (zA zM) (.ng (.ret ?_)))))
  refine Next.rt ?_
  refine Ret.go (.cons (.tmp _ _ rfl) (.cons (.tmp _ _ rfl) .nil)) _ (hRa _) ?_
  refine ⟨?_, f1, hf1, rfl⟩
  unfold anV
  rw [show axM k = true from hc26]; rfl
 try simp only [aK] at hc26
 refine .skip ?_
 refine Next.go ?_
 refine .sr (.p rfl (zQ G247 Z247 (tm rfl) (lB rfl)) (.cl rfl Tryz.call241 (evs1 rfl) (aqD _ _ _ _) ?_))
 rw [low_of]
 refine .mv rfl rfl (.p rfl (yK zr149 pl149 (.cons (tm rfl) (.inl rfl) .nil) rfl) ?_)
 refine .cl rfl Tryz.call243 (evs2 rfl rfl) ((by have h := fun H => akJ (ahB k * m % M2) m hlm hmM H; rw [ajG (show m < M1 from hm)] at h; exact h _)) ?_
 refine .mv rfl rfl (.p rfl (zB (tm rfl) rfl) (.p rfl (zB (tm rfl) rfl) ?_))
 refine .al zr149 (fun b11 hb11 => ?_)
 refine .e0 (zG Z149 (tm rfl) (tm rfl) rfl rfl (.inr ⟨_, rfl⟩) (oS _ _ _) (lB rfl)) ?_
 try first | rw [sS] | rw [sU (by assumption)]
 refine .as rfl rfl (.ng ?_)
 refine AWP.frz (t := 11) rfl (hb11) ?_
 refine .sr (.p rfl (zD U247 rfl Z22 (tm rfl)) (.p rfl (zH G22 (tm rfl)) (.p rfl (zD U149 rfl Z22 (tm rfl)) (.p rfl (zH G22 (tm rfl)) (.p rfl (zD U149 rfl Z22 (tm rfl)) (.p rfl (zH G22 (tm rfl)) (.p rfl (yK zr247 pl247 (.cons (tm rfl) (.inl rfl) (.cons (tm rfl) (.inl rfl) (.cons (tm rfl) (.inl rfl) .nil))) rfl) ?_)))))))
 refine .al zr247 (fun b13 hb13 => ?_)
 refine .e0 (zG Z247 (tm rfl) (tm rfl) rfl rfl (.inr ⟨_, rfl⟩) (oS _ _ _) (lB rfl)) ?_
 try first | rw [sS] | rw [sU (by assumption)]
 refine .ng (.seq (.sr (.mv rfl rfl (.ng ?_))))
 refine AWP.cond (tm rfl) (fun hc43 => ?_) (fun hc43 => ?_)
 ·try simp only [aM] at hc43
  have hfit := high_fit hq2 hc43
  refine .region (.p rfl (zV U247 rfl Z22 (tm rfl)) (.e rfl (yE G22 (tm rfl) (oS _ _ _) rfl) (.p rfl (yR (tm rfl) (zI 1) (by exact hfit)) (.p rfl (zV U247 rfl Z22 (tm rfl)) (.e0 (zG Z22 (tm rfl) (tm rfl) rfl rfl (.inl rfl) (oS _ _ _) (lB rfl)) ?_)))))
  try first | rw [sS] | rw [sU (by assumption)]
  refine .nr (.mv rfl rfl (.e rfl (yW G247 Z247 (tm rfl) (oS _ _ _) (lB rfl)) (.p rfl (zD U184 rfl Z3 (tm rfl)) (.p rfl (zH G3 (tm rfl)) (.cl rfl Tryz.call266 (evs2 rfl rfl) (blM (ahB k * m + m) (blP hq1 hc43 hm) hq2 _ hE _) (.mv rfl rfl (.p rfl (zR (tm rfl) (tm rfl)) (.as rfl rfl ?_))))))))
  refine .as rfl rfl (.ng ?_)
  refine AWP.dropb (hb13) ?_
  refine .ret ?_
  refine Ret.go (.cons (.tmp _ _ rfl) (.cons (.tmp _ _ rfl) .nil)) _ (hRa _) ?_
  refine ⟨?_, f1, hf1, rfl⟩
  unfold anV
  rw [show axM k = false from hc26, Bool.false_or, bP, cL]
  have e : decide (((yB false (ahB k * m + m) (apU k) false : Nat) : Int) = ((aiM m k : Nat) : Int)) = decide (yB false (ahB k * m + m) (apU k) false = aiM m k) := bA.2 (by omega)
  rw [← e]; rfl
 try simp only [aL] at hc43
 refine .skip ?_
 refine Next.go ?_
 refine .sr (.mv rfl rfl (.e rfl (yW G247 Z247 (tm rfl) (oS _ _ _) (lB rfl)) (.p rfl (zD U184 rfl Z3 (tm rfl)) (.p rfl (zH G3 (tm rfl)) (.cl rfl Tryz.call266 (evs2 rfl rfl) (blM (ahB k * m + m) (blO hq1 hc43 hm) hq2 _ hE _) (.mv rfl rfl (.p rfl (zR (tm rfl) (tm rfl)) (.as rfl rfl ?_))))))))
 refine .as rfl rfl (.ng ?_)
 refine AWP.dropb (hb13) ?_
 refine .ret ?_
 refine Ret.go (.cons (.tmp _ _ rfl) (.cons (.tmp _ _ rfl) .nil)) _ (hRa _) ?_
 refine ⟨?_, f1, hf1, rfl⟩
 unfold anV
 rw [show axM k = false from hc26, Bool.false_or, bP, cL]
 have e : decide (((yB false (ahB k * m + m) (apU k) false : Nat) : Int) = ((aiM m k : Nat) : Int)) = decide (yB false (ahB k * m + m) (apU k) false = aiM m k) := bA.2 (by omega)
 rw [← e]; rfl

theorem avV : ∀ (l : List UInt8) (acc : Nat), Digs l → axN acc l < 18446744073709551616 → Lib.parseUintM 18446744073709551615 acc l = .ok (axN acc l)
 | [], acc, _, _ => rfl
 | c :: r, acc, hd, h => by
  have hc := hd c (by simp)
  rw [acV] at h
  have h1 := bkO (acc * 10 + (c.toNat - 48)) r
  unfold Lib.parseUintM
  rw [aO ⟨hc.1, hc.2⟩, aN (by omega), aN (by omega), acV]
  exact avV r _ (fun b hb => hd b (by simp [hb])) h
theorem bmJ {ds : List UInt8} (hd : Digs ds) (hl : ds.length ≤ 19) : num ds < 18446744073709551616 := by
 have h := afX hd
 refine bM h (aZ (aT (by decide) hl) (by decide))
theorem bmK {ds : List UInt8} (hd : Digs ds) (hl : ds.length ≤ 15) : num ds < 9223372036854775808 := by
 have h := afX hd
 refine bM h (aZ (aT (by decide) hl) (by decide))
theorem baV (w : World) (e : TypeId) (s : ByteArray) : Below w.heap.size w (Lib.bytesWorld w e s) :=
 ⟨rfl, rfl, rfl, by rw [Lib.bytesWorld_size]; omega, fun k hk => Lib.bytesWorld_at_old w e s k hk⟩
theorem puintA (ds : List UInt8) (hne : ds ≠ []) (hd : Digs ds) (hl : ds.length ≤ 19) (H : Heap) : ACall Tryz.prog 223 [.str ds, .int .i64 10, .int .i64 64] H (fun y H' => y = .tuple [.int .u64 (num ds : Int), .nilIface] ∧ H' = H) := by
 refine ACall.lib _ fun g vs w k st => ?_
 obtain ⟨v, u, x, rfl, hv, hu, hx⟩ := relvs3 k
 cases hv with | str _ hs => ?_
 cases hu; cases hx
 have hp : Lib.parseUintB 64 ds = .ok (num ds) := by
  unfold Lib.parseUintB
  rw [aN hne]
  exact avV ds 0 hd (bmJ hd hl)
 refine (Tryz.strconv_ParseUint_10_at64_ok ⟨ds.toArray⟩ (by show ds.toArray.size ≤ _; rw [dX]; omega) (num ds) hp w).mono ?_
 rintro e w' ⟨rfl, h⟩
 refine ⟨_, rfl, RelV.two (.int _ _) .nilIface, ?_⟩
 rcases h with rfl | rfl
 ·exact Below.refl _ _
 exact baV _ _ _
def tenB : Nat → Nat
 | 0 => yB false 1 0 false
 | i + 1 => aeA (tenB i) (yB false 10 0 false)
def fastN (m j : Nat) : Nat := aeA (yB false m 0 false) (tenB j)
theorem asQ (n : Nat) (e : Int) (more : Bool) : yB false n e more < 18446744073709551616 := aR (acL n e more) (by decide)
theorem adN (neg : Bool) (n : Nat) (e : Int) (more : Bool) : yB neg n e more < 18446744073709551616 := by
 have h : yB neg n e more = aaH neg + yB false n e more := by
  unfold yB
  split
  ·rfl
  split
  ·unfold aaH; simp
  rw [atF, atF]; unfold aaH; simp
 have h2 := acL n e more
 rw [h]
 unfold aaH akT at *
 split <;> omega
theorem amM (a b : Nat) : aeA a b < 18446744073709551616 := by
 unfold aeA
 split
 ·decide
 split
 ·split <;> decide
 exact adN _ _ _ _
theorem pointR (neg : Bool) (ds : List UInt8) (e : Int) (hr : qE ds e = true) (H : Heap) : ACall Tryz.prog 107 [dA neg ds e] H (fun y H' => y = .int .i64 ((ds.length : Int) + e) ∧ H' = H) := by
 have h := ajF neg ds e (qQ hr) H
 rw [show agZ ds e = (ds.length : Int) + e by unfold agZ; rw [aO hr]] at h
 exact h
theorem biK (i : Nat) : tenB i < 18446744073709551616 := by
 cases i with
 | zero => exact asQ _ _ _
 | succ i => exact amM _ _
def ahH (ds : List UInt8) (e : Int) : Nat :=
 if ds = [] ∨ (ds.length : Int) + e < -330 then 0
 else if 310 < (ds.length : Int) + e then akT
 else if ds.length ≤ 19 then
  (if ds.length ≤ 15 ∧ 0 ≤ e ∧ e ≤ 22 then fastN (num ds) e.toNat
   else if anV (num ds) e = true then aiM (num ds) e else amZ (num ds) e)
 else amZ (num ds) e

def size_J (b : Nat) (ds : List UInt8) (e : Int) (H : Heap) : Nat → Env → Heap → Prop := fun k env H1 => ∃ i : Nat, (i : Int) ≤ e ∧ env = [(6, .int .u64 ((num ds : Nat) : Int)), (8, .int .u64 ((tenB i : Nat) : Int)), (50, .int .i64 e), (51, .int .i64 (i : Int))] ∧ H = H1 ∧ k = e.toNat - i

theorem ayO (f : Nat → List AV) (hf : ROK f) (neg : Bool) (ds : List UInt8) (e : Int) (hr : qE ds e = true) (b : Nat) (H : Heap) (hb : H.objs b = some (.box 189 (aaP f))) : ACall Tryz.prog 167 [.ptr (some ⟨b, 0, none⟩), dA neg ds e] H (fun y H' => y = .int .u64 ((ahH ds e : Nat) : Int) ∧ ∃ f', ROK f' ∧ H' = H.set b (.box 189 (aaP f'))) := by
 have hd := qQ hr
 have hrl := aaY hr
 have ht10 : yB false 10 0 false < 18446744073709551616 := asQ _ _ _
 refine ACall.of_body Tryz.func167 rfl Tryz.ntmps167 Tryz.results167 rfl ?_
 refine .sr (.e rfl (zZ (tm rfl) (.inr ⟨_, rfl⟩)) (.p rfl (zA (zI 0)) (.ng (.seq (.sr (.p rfl (zQ G58 Z58 (tm rfl) (lB rfl)) (.cl rfl Tryz.call107 (evs1 rfl) (pointR neg ds e hr _) (.as rfl rfl ?_))))))))
 refine .ng (.block ?_)
 refine AWP.seqTo 13 (.bool (decide (ds = []) || decide ((ds.length : Int) + e < -330))) [0, 3, 4, 5] ?_ ?_
 ·-- region 2
  refine .region (.p rfl (zD U58 rfl Z9 (tm rfl)) (.p rfl (zH G9 (tm rfl)) (.p rfl (yM (tm rfl) (zS rfl)) (.mv rfl rfl ?_))))
  refine zL (t := 17) rfl (fun hg17 => ?_) (fun hg17 => ?_)
  ·have hh17 := hg17; try simp only [aM] at hh17
   refine .gn rfl rfl rfl (by assumption) (.gn rfl rfl rfl (by assumption) (.p rfl (zO (tm rfl) (by assumption) zM) (.as rfl rfl (.nil ?_))))
   exact ⟨rfl, zY rfl (by (rw [show decide (ds = []) = _ from hg17]; rfl)) (zC rfl (zC rfl (zC rfl (zC rfl zU)))), rfl⟩
  have hh17 := hg17; try simp only [aL] at hh17
  refine .gp rfl rfl rfl (by assumption) (zJ (tm rfl)) (.gp rfl rfl rfl (by assumption) (yN (tm rfl) zE) (.p rfl (zN (tm rfl) (by assumption) (tm rfl)) (.as rfl rfl (.nil ?_))))
  exact ⟨rfl, zY rfl (by (rw [show decide (ds = []) = _ from hg17]; rfl)) (zC rfl (zC rfl (zC rfl (zC rfl zU)))), rfl⟩
 refine AWP.sub [(13, _), (0, _), (3, _), (4, _), (5, _)] (zC rfl (zC rfl (zC rfl (zC rfl (zC rfl zU))))) ?_
 refine AWP.cond (tm rfl) (fun hc13 => ?_) (fun hc13 => ?_)
 ·try simp only [aK] at hc13
  simp only [cV, aM] at hc13
  refine .sr (.p rfl (zA (zI 0)) (.ng (.ret ?_)))
  refine Block.rt ?_
  refine Next.rt ?_
  refine Ret.go (.cons (.tmp _ _ rfl) .nil) _ (hRa _) ?_
  refine ⟨?_, f, hf, (Heap.set_self hb).symm⟩
  unfold ahH
  rw [aO (hc13)]; rfl
 try simp only [aK] at hc13
 simp only [cP, aL] at hc13
 obtain ⟨hne, hlow⟩ := hc13
 refine .sr (.mv rfl rfl (.p rfl (yC (tm rfl) zE) (.as rfl rfl (.ng ?_))))
 refine AWP.cond (tm rfl) (fun hc21 => ?_) (fun hc21 => ?_)
 ·try simp only [aM] at hc21
  refine .sr (.p rfl (zA (zI 9218868437227405312)) (.ng (.ret ?_)))
  refine Block.rt ?_
  refine Next.rt ?_
  refine Ret.go (.cons (.tmp _ _ rfl) .nil) _ (hRa _) ?_
  refine ⟨?_, f, hf, (Heap.set_self hb).symm⟩
  unfold ahH
  rw [aN (by intro q; rcases q with q | q; exact hne q; omega), aO (by omega)]; rfl
 try simp only [aL, bN] at hc21
 refine .skip ?_
 refine Block.go ?_
 refine Next.go ?_
 refine .seq (.sr (.p rfl (zD U58 rfl Z9 (tm rfl)) (.p rfl (zH G9 (tm rfl)) (.p rfl (yQ U9 (tm rfl)) (.p rfl (abJ (tm rfl) zE) (.ng ?_))))))
 refine AWP.cond (tm rfl) (fun hc27 => ?_) (fun hc27 => ?_)
 ·try simp only [aM] at hc27
  have hl19 : ds.length ≤ 19 := by omega
  refine .sr (.p rfl (zD U58 rfl Z9 (tm rfl)) (.p rfl (zH G9 (tm rfl)) (.cl rfl Tryz.call223 (.cons (tm rfl) (.cons zE (.cons zE .nil))) (puintA ds hne hd hl19 _) (.mv rfl rfl (.p rfl (zB (tm rfl) rfl) (.p rfl (zB (tm rfl) rfl) (.as rfl rfl (.as rfl rfl ?_))))))))
  refine .ng (.seq ?_)
  refine AWP.seqTo 47 (.bool (decide ((ds.length : Int) ≤ 15) && decide (0 ≤ e) && decide (e ≤ 22))) [0, 3, 4, 6] ?_ ?_
  ·-- region 8
   refine .region (.p rfl (zD U58 rfl Z9 (tm rfl)) (.p rfl (zH G9 (tm rfl)) (.p rfl (yQ U9 (tm rfl)) (.p rfl (abJ (tm rfl) zE) (.mv rfl rfl ?_)))))
   refine zL (t := 38) rfl (fun hg38 => ?_) (fun hg38 => ?_)
   ·have hh38 := hg38; try simp only [aM] at hh38
    refine .gp rfl rfl rfl (by assumption) (zD U58 rfl Z3 (tm rfl)) (.gp rfl rfl rfl (by assumption) (zH G3 (tm rfl)) (.gp rfl rfl rfl (by assumption) (yS (tm rfl) zE) (.p rfl (zO (tm rfl) (by assumption) (tm rfl)) (.mv rfl rfl ?_))))
    refine zL (t := 43) rfl (fun hg43 => ?_) (fun hg43 => ?_)
    ·have hh43 := hg43; try simp only [aM] at hh43
     refine .gp rfl rfl rfl (by assumption) (zD U58 rfl Z3 (tm rfl)) (.gp rfl rfl rfl (by assumption) (zH G3 (tm rfl)) (.gp rfl rfl rfl (by assumption) (abJ (tm rfl) zE) (.p rfl (zO (tm rfl) (by assumption) (tm rfl)) (.nil ?_))))
     exact ⟨rfl, zY rfl (by (rw [show decide ((ds.length : Int) ≤ 15) = _ from hg38, show decide (0 ≤ e) = _ from hg43]; rfl)) (zC rfl (zC rfl (zC rfl (zC rfl zU)))), rfl⟩
    have hh43 := hg43; try simp only [aL, cA] at hh43
    refine .gn rfl rfl rfl (by assumption) (.gn rfl rfl rfl (by assumption) (.gn rfl rfl rfl (by assumption) (.p rfl (zN (tm rfl) (by assumption) zM) (.nil ?_))))
    exact ⟨rfl, zY rfl (by (rw [show decide ((ds.length : Int) ≤ 15) = _ from hg38, show decide (0 ≤ e) = _ from hg43]; rfl)) (zC rfl (zC rfl (zC rfl (zC rfl zU)))), rfl⟩
   have hh38 := hg38; try simp only [aL, cA] at hh38
   refine .gn rfl rfl rfl (by assumption) (.gn rfl rfl rfl (by assumption) (.gn rfl rfl rfl (by assumption) (.p rfl (zN (tm rfl) (by assumption) zM) (.mv rfl rfl (.gn rfl rfl rfl (by rfl) (.gn rfl rfl rfl (by rfl) (.gn rfl rfl rfl (by rfl) (.p rfl (zN (tm rfl) (by rfl) zM) ?_))))))))
   refine .nil ?_
   exact ⟨rfl, zY rfl (by (rw [show decide ((ds.length : Int) ≤ 15) = _ from hg38]; rfl)) (zC rfl (zC rfl (zC rfl (zC rfl zU)))), rfl⟩
  refine AWP.sub [(47, _), (0, _), (3, _), (4, _), (6, _)] (zC rfl (zC rfl (zC rfl (zC rfl (zC rfl zU))))) ?_
  refine AWP.cond (tm rfl) (fun hc47 => ?_) (fun hc47 => ?_)
  ·try simp only [aK] at hc47
   simp only [bK, aM] at hc47
   have hm63 := bmK hd (by omega)
   refine .sr (.cl rfl C55 (.cons zE .nil) (aeH 1 (by decide) _) (.as rfl rfl (.ng (.seq (.sr (.p rfl (zD U58 rfl Z3 (tm rfl)) (.p rfl (zH G3 (tm rfl)) (.p rfl (zJ zE) ?_))))))))
   refine .ng (.block ?_)
   refine AWP.loopW (size_J b ds e H) (e.toNat) ⟨0, by omega, rfl, rfl, rfl⟩ (zC rfl (zC rfl (zC rfl (zC rfl zU)))) (hRa _) ?_
   rintro _ _ _ ⟨i, hi, rfl, rfl, rfl⟩
   refine .sr (.p rfl (yN (tm rfl) (tm rfl)) (.ng (.seq ?_)))
   refine AWP.cond (tm rfl) (fun hc52 => ?_) (fun hc52 => ?_)
   ·try simp only [aM] at hc52
    refine .skip ?_
    refine Next.go ?_
    refine .seq (.block (.region (.mv rfl rfl (.cl rfl C55 (.cons zE .nil) (aeH 10 (by decide) _) (.cl rfl C133 (evs2 rfl rfl) (agB _ _ (biK _) ht10 _) (.as rfl rfl (.nil ?_)))))))
    refine Block.go ?_
    refine Next.go ?_
    refine .region (.p rfl (yT (tm rfl) zE (by omega)) (.mv rfl rfl (.ng ?_)))
    refine Round.mk (J := size_J b ds e H) ⟨i + 1, by omega, rfl, rfl, rfl⟩ (zC rfl (zC rfl (zC rfl (zC rfl zU)))) (hRa _) (by omega)
   try simp only [aL, bN] at hc52
   refine .exit ?_
   refine Next.ex ?_
   refine Next.ex ?_
   refine Block.hit ?_
   refine Next.go ?_
   refine .sr (.mv rfl rfl (.p rfl (qM U22 U3 (tm rfl) (wrapNI64 (by assumption))) (.cl rfl C55 (evs1 rfl) (aeH (num ds) (bmK hd (by omega)) _) (.mv rfl rfl (.cl rfl C133 (evs2 rfl rfl) (agB _ _ (asQ _ _ _) (biK _) _) (.as rfl rfl (.ng (.ret ?_))))))))
   refine Next.rt ?_
   refine Next.rt ?_
   refine Ret.go (.cons (.tmp _ _ rfl) .nil) _ (hRa _) ?_
   refine ⟨?_, f, hf, (Heap.set_self hb).symm⟩
   unfold ahH
   obtain rfl : i = e.toNat := by omega
   rw [aN (by intro q; rcases q with q | q; exact hne q; omega), aN (by omega), aO hl19, aO (by omega)]; rfl
  try simp only [aK] at hc47
  simp only [cB, aL] at hc47
  refine .skip ?_
  refine Next.go ?_
  refine .sr (.mv rfl rfl (.mv rfl rfl (.p rfl (zD U58 rfl Z3 (tm rfl)) (.p rfl (zH G3 (tm rfl)) (.s rfl (zF Tryz.call224 (evs3 rfl rfl rfl) (azA f hf (num ds) (bmJ hd hl19) e (by constructor <;> omega) b _ hb)) ?_)))))
  rintro _ _ ⟨rfl, f1, hf1, rfl⟩
  refine .mv rfl rfl (.p rfl (zB (tm rfl) rfl) (.p rfl (zB (tm rfl) rfl) (.as rfl rfl (.as rfl rfl (.nr (.mv rfl rfl (.ng ?_)))))))
  refine AWP.cond (tm rfl) (fun hc70 => ?_) (fun hc70 => ?_)
  ·try simp only [aK] at hc70
   refine .sr (.mv rfl rfl (.as rfl rfl (.ng (.ret ?_))))
   refine Next.rt ?_
   refine Ret.go (.cons (.tmp _ _ rfl) .nil) _ (hRa _) ?_
   refine ⟨?_, f1, hf1, rfl⟩
   unfold ahH
   rw [aN (by intro q; rcases q with q | q; exact hne q; omega), aN (by omega), aO hl19, aN (by omega), aO hc70]; rfl
  try simp only [aK] at hc70
  refine .skip ?_
  refine Next.go ?_
  refine .sr (.p rfl (zQ G58 Z58 (tm rfl) (lB rfl)) (.cl rfl Tryz.call225 (evs1 rfl) (aqM neg ds e hr hne (by omega) _) (.as rfl rfl (.ng (.ret ?_)))))
  refine Ret.go (.cons (.tmp _ _ rfl) .nil) _ (hRa _) ?_
  refine ⟨?_, f1, hf1, rfl⟩
  unfold ahH
  rw [aN (by intro q; rcases q with q | q; exact hne q; omega), aN (by omega), aO hl19, aN (by omega), aN (by rw [hc70]; decide)]; rfl
 try simp only [aL, cA] at hc27
 refine .skip ?_
 refine Next.go ?_
 refine .sr (.p rfl (zQ G58 Z58 (tm rfl) (lB rfl)) (.cl rfl Tryz.call225 (evs1 rfl) (aqM neg ds e hr hne (by omega) _) (.as rfl rfl (.ng (.ret ?_)))))
 refine Ret.go (.cons (.tmp _ _ rfl) .nil) _ (hRa _) ?_
 refine ⟨?_, f, hf, (Heap.set_self hb).symm⟩
 unfold ahH
 rw [aN (by intro q; rcases q with q | q; exact hne q; omega), aN (by omega), aN (by omega)]; rfl

theorem bdR (neg : Bool) (x : Nat) (hx : x < 9223372036854775808) (H : Heap) : ACall Tryz.prog 166 [.bool neg, .int .u64 (x : Int)] H (fun y H' => y = .int .u64 ((aaH neg + x : Nat) : Int) ∧ H' = H) := by
 refine ACall.of_body Tryz.func166 rfl Tryz.ntmps166 Tryz.results166 rfl ?_
 refine .sr (.p rfl (zA (zI 0)) (.ng (.seq (.sr (.mv rfl rfl (.ng ?_))))))
 refine AWP.cond (tm rfl) (fun hc5 => ?_) (fun hc5 => ?_)
 ·try simp only [aK] at hc5
  refine .sr (.mv rfl rfl (.p rfl (abC (tm rfl) (zI 9223372036854775808) (by omega) (by omega)) (.as rfl rfl (.ng (.ret ?_)))))
  refine Next.rt ?_
  refine Ret.go (.cons (.tmp _ _ rfl) .nil) _ (hRa _) ?_
  refine ⟨?_, rfl⟩
  rw [show neg = true from hc5, show aaH true = 9223372036854775808 from rfl, ← azN hx]; rfl
 try simp only [aK] at hc5
 refine .skip ?_
 refine Next.go ?_
 refine .sr (.mv rfl rfl (.as rfl rfl (.ng (.ret ?_))))
 refine Ret.go (.cons (.tmp _ _ rfl) .nil) _ (hRa _) ?_
 refine ⟨?_, rfl⟩
 rw [show neg = false from hc5, show aaH false = 0 from rfl, bW]; rfl

theorem bcY {a b : Nat} (ha : a < 9223372036854775808) (hb : b < 9223372036854775808) : aeA a b ≤ 9221120237041090560 := by
 have hn : ajS a b = false := by
  unfold ajS
  refine bG ?_
  rw [bX (show a < 2 ^ 63 from ha), bX (show b < 2 ^ 63 from hb)]
  simp
 unfold aeA
 rw [hn]
 split
 ·exact aX _
 split
 ·decide
 exact aZ (acL _ _ _) (by decide)
theorem axZ : ∀ i, tenB i < 9223372036854775808
 | 0 => aR (acL _ _ _) (by decide)
 | i + 1 => aR (bcY (axZ i) (aR (acL _ _ _) (by decide))) (by decide)
theorem bbQ (ds : List UInt8) (e : Int) : ahH ds e < 9223372036854775808 := by
 have hs : amZ (num ds) e < 9223372036854775808 := by
  unfold amZ avK
  split <;> exact aR (acL _ _ _) (by decide)
 unfold ahH
 split
 ·decide
 split
 ·decide
 split
 ·split
  ·exact aR (bcY (aR (acL _ _ _) (by decide)) (axZ _)) (by decide)
  split
  ·exact aR (acL _ _ _) (by decide)
  exact hs
 exact hs
def acX (neg : Bool) (ds : List UInt8) (e : Int) : Nat := aaH neg + ahH ds e

theorem ayY (f : Nat → List AV) (hf : ROK f) (neg : Bool) (ds : List UInt8) (e : Int) (hr : qE ds e = true) (b : Nat) (H : Heap) (hb : H.objs b = some (.box 189 (aaP f))) : ACall Tryz.prog 99 [.ptr (some ⟨b, 0, none⟩), dA neg ds e] H (fun y H' => y = .tuple [.int .u64 ((acX neg ds e : Nat) : Int), .int .i64 0] ∧ ∃ f', ROK f' ∧ H' = H.set b (.box 189 (aaP f'))) := by
 refine ACall.of_body Tryz.func99 rfl Tryz.ntmps99 Tryz.results99 rfl ?_
 refine .sr (.e rfl (zZ (tm rfl) (.inr ⟨_, rfl⟩)) (.p rfl (zA (zI 0)) (.p rfl (zA zE) (.ng (.seq (.sr (.p rfl (zQ G58 Z58 (tm rfl) (lB rfl)) (.cl rfl C165 (evs1 rfl) (aeY neg ds e (qQ hr) _) ?_))))))))
 refine .p rfl (aaB (tm rfl)) (.ng ?_)
 refine AWP.cond_false (tm rfl) (by rw [hr]; rfl) ?_
 refine .skip ?_
 refine Next.go ?_
 refine .seq ?_
 refine AWP.draw [(0, true), (1, true), (2, true), (3, true), (4, false), (5, false), (6, true), (7, true)] rfl (by decide +kernel) ?_
 refine .p rfl rfl (zD U58 rfl Z4 (tm rfl)) (.p rfl rfl (zH G4 (tm rfl)) (.p rfl rfl (zJ (tm rfl)) (.p rfl rfl (zQ G58 Z58 (tm rfl) (lB rfl)) (.s rfl rfl (zF Tryz.call167 (evs2 rfl rfl) (ayO f hf neg ds e hr b _ hb)) ?_))))
 rintro _ _ ⟨rfl, f1, hf1, rfl⟩
 refine .s rfl rfl (zF Tryz.call166 (evs2 rfl rfl) (bdR neg _ (bbQ ds e) _)) ?_
 rintro _ _ ⟨rfl, hH⟩
 obtain rfl := hH.symm
 refine .p rfl rfl (zA (tm rfl)) (.p rfl rfl (zA zE) (.nil ?_))
 refine Next.go ?_
 refine .ret ?_
 refine Ret.go (.cons (.tmp _ _ rfl) (.cons (.tmp _ _ rfl) .nil)) _ (hRa _) ?_
 exact ⟨rfl, f1, hf1, rfl⟩

end
end Go.Proofs.YtmmgbnolccpjoaaGreatDoor
