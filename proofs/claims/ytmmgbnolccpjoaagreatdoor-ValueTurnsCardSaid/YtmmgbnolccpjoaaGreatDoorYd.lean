import Derived.Test.YtmmgbnolccpjoaaGreatDoorSsk
import Derived.Test.YtmmgbnolccpjoaaGreatDoorS6
namespace Go.Proofs.YtmmgbnolccpjoaaGreatDoor
open Go.Proofs.Tryz
open Go Go.RowKit

variable {T t ty : TypeId} {env : Env} {x : AV} {P : Program} {n : Nat} {H : Heap} {a b : Prop} {dst : Option Tmp} {pos : String} {af : Array Edge} {gd : Option (Nat × Bool)} {ops : List (Nat × Operand)} {qs : List (Nat × AV)} {zs : List AV}
def akE (t : TypeId) : Type := { d : TypeDesc // prog.underlying t = some d }
def asM (t : TypeId) : Type := { k : Nat // ∀ w, (sizeOf t).run prog w = .ok k w }
def atH (t : TypeId) : Type := { b : Bool // ∀ w, (isAgg t).run prog w = .ok b w }
theorem und [i : Inhabited (akE t)] : prog.underlying t = some i.default.1 := i.default.2
theorem szo [i : Inhabited (asM t)] : ∀ w, (sizeOf t).run prog w = .ok i.default.1 w := i.default.2
theorem agg [i : Inhabited (atH t)] : ∀ w, (isAgg t).run prog w = .ok i.default.1 w := i.default.2
instance : Inhabited (akE 3) := ⟨⟨_, U3⟩⟩
instance : Inhabited (akE 4) := ⟨⟨_, U4⟩⟩
instance : Inhabited (akE 5) := ⟨⟨_, U5⟩⟩
instance : Inhabited (akE 9) := ⟨⟨_, U9⟩⟩
instance : Inhabited (akE 22) := ⟨⟨_, U22⟩⟩
instance : Inhabited (akE 24) := ⟨⟨_, U24⟩⟩
instance : Inhabited (akE 27) := ⟨⟨_, U27⟩⟩
instance : Inhabited (akE 29) := ⟨⟨_, U29⟩⟩
instance : Inhabited (akE 31) := ⟨⟨_, U31⟩⟩
instance : Inhabited (akE 51) := ⟨⟨_, U51⟩⟩
instance : Inhabited (akE 58) := ⟨⟨_, U58⟩⟩
instance : Inhabited (akE 69) := ⟨⟨_, underlying69⟩⟩
instance : Inhabited (akE 74) := ⟨⟨_, U74⟩⟩
instance : Inhabited (akE 76) := ⟨⟨_, U76⟩⟩
instance : Inhabited (akE 79) := ⟨⟨_, U79⟩⟩
instance : Inhabited (akE 102) := ⟨⟨_, underlying102⟩⟩
instance : Inhabited (akE 107) := ⟨⟨_, U107⟩⟩
instance : Inhabited (akE 118) := ⟨⟨_, U118⟩⟩
instance : Inhabited (akE 123) := ⟨⟨_, U123⟩⟩
instance : Inhabited (akE 130) := ⟨⟨_, U130⟩⟩
instance : Inhabited (akE 139) := ⟨⟨_, U139⟩⟩
instance : Inhabited (akE 142) := ⟨⟨_, U142⟩⟩
instance : Inhabited (akE 149) := ⟨⟨_, U149⟩⟩
instance : Inhabited (akE 166) := ⟨⟨_, U166⟩⟩
instance : Inhabited (akE 184) := ⟨⟨_, U184⟩⟩
instance : Inhabited (akE 208) := ⟨⟨_, U208⟩⟩
instance : Inhabited (akE 239) := ⟨⟨_, U239⟩⟩
instance : Inhabited (akE 247) := ⟨⟨_, U247⟩⟩
instance : Inhabited (akE 251) := ⟨⟨_, U251⟩⟩
instance : Inhabited (akE 252) := ⟨⟨_, U252⟩⟩
instance : Inhabited (akE 327) := ⟨⟨_, U327⟩⟩
instance : Inhabited (asM 3) := ⟨⟨_, Z3⟩⟩
instance : Inhabited (asM 4) := ⟨⟨_, Z4⟩⟩
instance : Inhabited (asM 5) := ⟨⟨_, Z5⟩⟩
instance : Inhabited (asM 9) := ⟨⟨_, Z9⟩⟩
instance : Inhabited (asM 22) := ⟨⟨_, Z22⟩⟩
instance : Inhabited (asM 24) := ⟨⟨_, Z24⟩⟩
instance : Inhabited (asM 27) := ⟨⟨_, Z27⟩⟩
instance : Inhabited (asM 29) := ⟨⟨_, Z29⟩⟩
instance : Inhabited (asM 31) := ⟨⟨_, Z31⟩⟩
instance : Inhabited (asM 58) := ⟨⟨_, Z58⟩⟩
instance : Inhabited (asM 76) := ⟨⟨_, Z76⟩⟩
instance : Inhabited (asM 79) := ⟨⟨_, Z79⟩⟩
instance : Inhabited (asM 120) := ⟨⟨_, sizeOf120⟩⟩
instance : Inhabited (asM 130) := ⟨⟨_, sizeOf130⟩⟩
instance : Inhabited (asM 149) := ⟨⟨_, Z149⟩⟩
instance : Inhabited (asM 184) := ⟨⟨_, Z184⟩⟩
instance : Inhabited (asM 208) := ⟨⟨_, Z208⟩⟩
instance : Inhabited (asM 239) := ⟨⟨_, Z239⟩⟩
instance : Inhabited (asM 247) := ⟨⟨_, Z247⟩⟩
instance : Inhabited (asM 251) := ⟨⟨_, Z251⟩⟩
instance : Inhabited (asM 252) := ⟨⟨_, sizeOf252⟩⟩
instance : Inhabited (atH 3) := ⟨⟨_, G3⟩⟩
instance : Inhabited (atH 4) := ⟨⟨_, G4⟩⟩
instance : Inhabited (atH 5) := ⟨⟨_, G5⟩⟩
instance : Inhabited (atH 9) := ⟨⟨_, G9⟩⟩
instance : Inhabited (atH 22) := ⟨⟨_, G22⟩⟩
instance : Inhabited (atH 24) := ⟨⟨_, G24⟩⟩
instance : Inhabited (atH 27) := ⟨⟨_, isAgg27⟩⟩
instance : Inhabited (atH 29) := ⟨⟨_, G29⟩⟩
instance : Inhabited (atH 31) := ⟨⟨_, isAgg31⟩⟩
instance : Inhabited (atH 58) := ⟨⟨_, isAgg58⟩⟩
instance : Inhabited (atH 76) := ⟨⟨_, isAgg76⟩⟩
instance : Inhabited (atH 79) := ⟨⟨_, isAgg79⟩⟩
instance : Inhabited (atH 120) := ⟨⟨_, isAgg120⟩⟩
instance : Inhabited (atH 130) := ⟨⟨_, isAgg130⟩⟩
instance : Inhabited (atH 149) := ⟨⟨_, isAgg149⟩⟩
instance : Inhabited (atH 166) := ⟨⟨_, G166⟩⟩
instance : Inhabited (atH 184) := ⟨⟨_, isAgg184⟩⟩
instance : Inhabited (atH 208) := ⟨⟨_, isAgg208⟩⟩
instance : Inhabited (atH 239) := ⟨⟨_, isAgg239⟩⟩
instance : Inhabited (atH 247) := ⟨⟨_, isAgg247⟩⟩
instance : Inhabited (asM 71) := ⟨⟨_, sizeOf71⟩⟩
theorem EX {o : Operand} (h : Ev env o x := by first | exact tm rfl | exact zH | exact yH | exact zR rfl) : Ev env o x := h
theorem AP {o : Oper} (h : APure P o env x := by first
  | ((with_reducible apply zG); exact EX)
  | ((with_reducible apply zM); exact EX)
  | ((with_reducible apply zW); exact EX; rfl)
  | ((with_reducible apply zY); exact agg; exact EX)
  | ((with_reducible apply zA); exact und; rfl; exact szo; exact EX)
  | ((with_reducible apply qD); exact EX; (first | rfl | assumption); exact EX)
  | ((with_reducible apply yM); exact EX; (first | rfl | assumption); exact EX)
  | ((with_reducible apply zC); exact und; rfl; exact szo; exact EX)
  | ((with_reducible apply yO); exact EX; exact EX)
  | ((with_reducible apply agV); exact agg; exact szo; exact EX; exact lB rfl)
  | ((with_reducible apply acF); exact EX; exact EX; omega)
  | ((with_reducible apply ajH); exact EX; exact EX)
  | ((with_reducible apply acW); exact EX; exact EX; omega)
  | ((with_reducible apply alP); exact und; exact EX)
  | ((with_reducible apply aaB); exact EX)
  | ((with_reducible apply qW); exact EX; exact EX)
  | ((with_reducible apply aqW); exact und; exact EX)
  | ((with_reducible apply abT); exact EX; exact EX)
  | ((with_reducible apply beH); exact EX; exact EX)
  | ((with_reducible apply acE); exact EX; exact EX)
  | ((with_reducible apply awX); exact EX)
  | ((with_reducible apply qX); exact und; exact und; exact EX; exact wrapN64 aA)
  | ((with_reducible apply zG); exact aiB (sz := 1) (tl := .full))
  | ((with_reducible apply bhO); exact EX; exact EX)
  | ((with_reducible apply beE); exact EX; exact EX)
  | ((with_reducible apply bhN); exact EX; omega)
  | ((with_reducible apply yR); exact EX; exact EX; omega)
  | ((with_reducible apply aaT); exact und; exact EX; exact EX; omega; omega)
  | ((with_reducible apply akB); exact und; exact EX; exact EX; omega; omega)
  | ((with_reducible apply baA); exact EX; exact EX)
  | ((with_reducible apply adX); exact und; exact EX; exact EX; omega; omega)
  | ((with_reducible apply abQ); exact EX)
  | ((with_reducible apply auK); exact EX; exact EX)
  | ((with_reducible apply yQ); exact EX; exact EX; (first | rfl | assumption))
  | ((with_reducible apply qX); exact und; exact und; exact EX; exact wrapNI64 aA)
  | ((with_reducible apply bwA); exact EX; exact EX; omega)
  | ((with_reducible apply azZ); exact EX; exact EX)
  | ((with_reducible apply abD); exact EX; exact EX; (first | rfl | assumption); omega)
  | ((with_reducible apply alM); exact und; exact EX; exact EX; exact EX; omega; omega; omega)
  | ((with_reducible apply qT); exact und; exact szo; exact EX; exact EX; omega; omega)
  | ((with_reducible apply bqG); exact und; exact EX)
  | ((with_reducible apply aqY); exact und; exact szo; exact EX; exact EX; omega; omega)
  | ((with_reducible apply beG); exact und; exact szo; exact EX; exact EX; omega; omega)
  | ((with_reducible apply aaX); exact EX; exact EX; omega)
  | ((with_reducible apply yR); exact EX; exact EX; (first | rfl | assumption))
  | ((with_reducible apply aeU); exact EX; exact EX; (first | rfl | assumption); omega)
  | ((with_reducible apply aeV); exact und; exact und; rfl; exact EX)
  | ((with_reducible apply alQ); exact und; exact EX)
  | ((with_reducible apply akP); exact EX; exact EX; omega)
  ) : APure P o env x := h
theorem AWP.cx {Q : Exit → Env → Heap → Prop} {t : Tmp} {a b : Code} {c : Bool} {p q : Prop} (hc : Env.get? env t = some (.bool c)) (ht : p → AWP P n a Q env H) (hf : q → AWP P n b Q env H)
  (hp : c = true → p := by intro h; (try simp only [aK] at h); exact h)
  (hq : c = false → q := by intro h; (try simp only [aK] at h); exact h) : AWP P n (.cond (.tmp t) a b) Q env H :=
 AWP.cond (tm hc) (fun h => ht (hp h)) (fun h => hf (hq h))
theorem sX {e f : Env} (h : Env.sub e f := by repeat first | exact yJ | refine zJ rfl ?_) : Env.sub e f := h
section
variable {P : Program} {R : AV → Heap → Prop} {env : Env} {H : Heap} {t u v : Tmp} {x y z : AV} {T : TypeId} {k : Nat} {cs : List AV}
theorem rgo1 (h : Env.get? env t = some x) (q : R (yE [x]) H) : Ret.q P [.tmp t] R .ret env H := Ret.go (.cons (.tmp _ _ h) .nil) _ (hRa _) q
theorem rgo2 (h : Env.get? env t = some x) (h2 : Env.get? env u = some y) (q : R (yE [x, y]) H) : Ret.q P [.tmp t, .tmp u] R .ret env H := Ret.go (.cons (.tmp _ _ h) (.cons (.tmp _ _ h2) .nil)) _ (hRa _) q
theorem rgo3 (h : Env.get? env t = some x) (h2 : Env.get? env u = some y) (h3 : Env.get? env v = some z) (q : R (yE [x, y, z]) H) : Ret.q P [.tmp t, .tmp u, .tmp v] R .ret env H := Ret.go (.cons (.tmp _ _ h) (.cons (.tmp _ _ h2) (.cons (.tmp _ _ h3) .nil))) _ (hRa _) q
theorem rgc1 (h : Env.get? env t = some (.iptr cs)) (ha : ∀ w, (isAgg T).run P w = .ok true w) (hs : ∀ w, (sizeOf T).run P w = .ok k w) (hk : Nat.ble k cs.length = true) (q : R (yE [.agg (cs.take k)]) H) : Ret.q P [.cell t T] R .ret env H := Ret.go (.cons (.cellI _ _ _ _ h ha hs hk) .nil) _ (hRa _) q
theorem rgc2 (h : Env.get? env t = some (.iptr cs)) (ha : ∀ w, (isAgg T).run P w = .ok true w) (hs : ∀ w, (sizeOf T).run P w = .ok k w) (hk : Nat.ble k cs.length = true) (h2 : Env.get? env u = some y) (q : R (yE [.agg (cs.take k), y]) H) : Ret.q P [.cell t T, .tmp u] R .ret env H := Ret.go (.cons (.cellI _ _ _ _ h ha hs hk) (.cons (.tmp _ _ h2) .nil)) _ (hRa _) q
theorem rgc3 (h : Env.get? env t = some (.iptr cs)) (ha : ∀ w, (isAgg T).run P w = .ok true w) (hs : ∀ w, (sizeOf T).run P w = .ok k w) (hk : Nat.ble k cs.length = true) (h2 : Env.get? env u = some y) (h3 : Env.get? env v = some z) (q : R (yE [.agg (cs.take k), y, z]) H) : Ret.q P [.cell t T, .tmp u, .tmp v] R .ret env H := Ret.go (.cons (.cellI _ _ _ _ h ha hs hk) (.cons (.tmp _ _ h2) (.cons (.tmp _ _ h3) .nil))) _ (hRa _) q
end
section
variable {P : Program} {n : Nat} {ops : Array Oper} {Q : Exit → Env → Heap → Prop} {env : Env} {H : Heap} {l : List Oper} {ty : TypeId} {pos : String} {af : Array Edge}
theorem AList.stS {S : TypeId} {p x : Operand} {b o k : Nat} {cs : List AV} {y : AV} (hs : ∀ w, (sizeOf T).run P w = .ok k w) (hp : Ev env p (.ptr (some ⟨b, o, none⟩))) (hx : Ev env x y)
  (hy : y.cells.all AV.one = true) (hyk : y.cells.length = k) (hy1 : y.one = true ∨ ∃ cs, y = .agg cs) (hk : o + k ≤ cs.length) (q : AList P n ops Q l env (H.set b (.box S (putRow cs o y.cells)))) : AList P n ops Q (⟨none, .store T p x, ty, pos, af, none⟩ :: l) env (H.set b (.box S cs)) :=
 AList.e0 (zP hs hp hx hy hyk hy1 (oS _ _ _) hk) (by rw [sS]; exact q)
theorem AList.stU {S : TypeId} {p x : Operand} {b c o k : Nat} {cs : List AV} {y : AV} {z : AObj} (hbc : b ≠ c) (hs : ∀ w, (sizeOf T).run P w = .ok k w) (hp : Ev env p (.ptr (some ⟨b, o, none⟩))) (hx : Ev env x y)
  (hy : y.cells.all AV.one = true) (hyk : y.cells.length = k) (hy1 : y.one = true ∨ ∃ cs, y = .agg cs) (hk : o + k ≤ cs.length) (q : AList P n ops Q l env ((H.set b (.box S (putRow cs o y.cells))).set c z)) : AList P n ops Q (⟨none, .store T p x, ty, pos, af, none⟩ :: l) env ((H.set b (.box S cs)).set c z) :=
 AList.e0 (zP hs hp hx hy hyk hy1 ((oN _ _ hbc).trans (oS _ _ _)) hk) (by rw [sU hbc]; exact q)
end
theorem evN {k : IntKind} : Ev env (.const (.int k (OfNat.ofNat n))) (.int k ((OfNat.ofNat n : Nat) : Int)) := zI n
theorem EN {o : Operand} (h : Ev env o x := by first | exact tm rfl | exact evN) : Ev env o x := h
theorem APN {o : Oper} (h : APure P o env x := by first
  | ((with_reducible apply zG); exact EN)
  | ((with_reducible apply yO); exact EN; exact EN)
  | ((with_reducible apply qW); exact EN; exact EN)
  | ((with_reducible apply yQ); exact EN; exact EN; (first | rfl | assumption))
  | ((with_reducible apply zG); exact aiB (sz := 1) (tl := .shared))
  | ((with_reducible apply acE); exact EN; exact EN)
  | ((with_reducible apply abP); exact EN; exact EN; omega)
  | ((with_reducible apply afK); exact EN; exact EN; omega; omega)
  | ((with_reducible apply acF); exact EN; exact EN; omega)
  | ((with_reducible apply yQ); exact EN; exact EN; omega)
  | ((with_reducible apply yR); exact EN; exact EN; omega)
  | ((with_reducible apply akR); exact EN; exact EN; omega)
  | ((with_reducible apply abE); exact EN; exact EN; omega; omega)
  | ((with_reducible apply abE); exact EN; exact EN; (first | rfl | assumption); omega)
  | ((with_reducible apply acW); exact EN; exact EN; omega)
  | ((with_reducible apply ajH); exact EN; exact EN)
  | ((with_reducible apply aaX); exact EN; exact EN; omega)
  | ((with_reducible apply abD); exact EN; exact EN; omega; omega)
  ) : APure P o env x := h
theorem AXh (h : a → b := by first
  | ((with_reducible apply AList.p); rfl; exact AP)
  | ((with_reducible apply AList.gn); rfl; rfl; rfl; (first | rfl | assumption))
  | ((with_reducible exact AList.nil))
  | ((with_reducible exact Next.go))
  | ((with_reducible exact AWP.seq))
  | ((with_reducible exact AWP.region))
  | ((with_reducible exact AWP.skip))
  | ((with_reducible apply AList.gp); rfl; rfl; rfl; (first | rfl | assumption); exact AP)
  | ((with_reducible exact AWP.ret))
  | ((with_reducible apply rgo1); rfl)
  | ((with_reducible apply rgo2); rfl; rfl)
  | ((with_reducible apply rgo3); rfl; rfl; rfl)
  | ((with_reducible apply rgc1); rfl; exact agg; exact szo; rfl)
  | ((with_reducible apply rgc2); rfl; exact agg; exact szo; rfl; rfl)
  | ((with_reducible apply rgc3); rfl; exact agg; exact szo; rfl; rfl; rfl)
  | ((with_reducible apply AList.stS); exact szo; exact tm rfl; (first | exact tm rfl | exact zH | exact yH | exact zR rfl); rfl; rfl; (first | exact .inl rfl | exact .inr ⟨_, rfl⟩); exact lB rfl)
  | ((with_reducible apply AList.stU); assumption; exact szo; exact tm rfl; (first | exact tm rfl | exact zH | exact yH | exact zR rfl); rfl; rfl; (first | exact .inl rfl | exact .inr ⟨_, rfl⟩); exact lB rfl)
  | ((with_reducible apply AList.e); rfl; exact abO agg szo (tm rfl) (by first | assumption | exact oS _ _ _ | exact (oN _ _ aB).trans (oS _ _ _) | exact (by assumption : Heap.le _ _).objs _ _ aB) (lB rfl))
  | ((with_reducible apply AList.e); rfl; exact yD agg (tm rfl) (by first | assumption | exact oS _ _ _ | exact (oN _ _ aB).trans (oS _ _ _) | exact (by assumption : Heap.le _ _).objs _ _ aB) rfl)
  | ((with_reducible apply AList.e); rfl; exact qG (tm rfl) (by first | exact .inl rfl | exact .inr ⟨_, rfl⟩))
  | ((with_reducible exact Next.rt))
  | ((with_reducible exact Next.ex))
  | ((with_reducible exact Block.rt))
  | ((with_reducible exact Block.hit))
  | ((with_reducible exact Block.go))
  | ((with_reducible apply Block.miss); rfl)
  | ((with_reducible exact AWP.block))
  | ((with_reducible exact AWP.exit))
  | ((with_reducible exact AWP.label))
  | ((with_reducible apply AList.gdead); rfl; rfl; rfl)
  | ((with_reducible apply APlan.p); rfl; rfl; exact AP)
  | ((with_reducible apply APlan.gn); rfl; rfl; rfl; rfl; (first | rfl | assumption))
  | ((with_reducible exact APlan.nil))
  | ((with_reducible apply APlan.gp); rfl; rfl; rfl; rfl; (first | rfl | assumption); exact AP)
  | ((with_reducible apply APlan.gdead); rfl; rfl; rfl; rfl)
  | ((with_reducible apply APlanI.p); rfl; rfl; exact AP)
  | ((with_reducible apply APlanI.gn); rfl; rfl; rfl; rfl; (first | rfl | assumption))
  | ((with_reducible exact APlanI.nil))
  | ((with_reducible apply APlanI.gp); rfl; rfl; rfl; rfl; (first | rfl | assumption); exact AP)
  | ((with_reducible apply APlanI.gdead); rfl; rfl; rfl; rfl)
  ) : a → b := h
theorem AX (k : a) (h : a → b := by exact AXh) : b := h k
theorem AMh (h : a → b := by first
  | ((with_reducible apply AList.p); rfl; exact APN)
  | ((with_reducible apply AList.gp); rfl; rfl; rfl; (first | rfl | assumption); exact APN)
  | ((with_reducible apply APlan.p); rfl; rfl; exact APN)
  | ((with_reducible apply APlan.gp); rfl; rfl; rfl; rfl; (first | rfl | assumption); exact APN)
  | ((with_reducible apply APlanI.p); rfl; rfl; exact APN)
  | ((with_reducible apply APlanI.gp); rfl; rfl; rfl; rfl; (first | rfl | assumption); exact APN)
  | exact AXh) : a → b := h
theorem AM (k : a) (h : a → b := by exact AMh) : b := h k
set_option maxRecDepth 100000
def ZR (T : TypeId) (cs : List AV) : Prop := ∃ z : Value, (∀ w, (zeroValue T).run prog w = .ok z w) ∧ ∀ g, RelCells g cs z.cells
theorem ZRi {cs : List AV} {z : Value} (hz : ∀ w, (zeroValue T).run prog w = .ok z w) {vs : List Value} (e : z.cells = vs.toArray := by rfl)
  (h : ∀ g, RelL g cs vs := by intro g; repeat first | exact .nil | refine .cons (.int _ _) ?_ | refine .cons (.bool _) ?_ | refine .cons (.ptr _) ?_ | refine .cons (.str [] (Nat.zero_le _)) ?_ | refine .cons (.nilSlice _ _) ?_) : ZR T cs := ⟨z, hz, fun g => e ▸ RelL.cells (h g)⟩
def SzL : List Field → List (Nat × Nat) → Prop
 | [], [] => True
 | f :: fs, p :: ps => f.offset = p.1 ∧ (∀ w, (sizeOf f.type).run prog w = .ok p.2 w) ∧ SzL fs ps
 | _, _ => False
theorem SzL.off : ∀ {fs : List Field} {ps : List (Nat × Nat)}, SzL fs ps → fs.map (·.offset) = ps.map (·.1)
 | [], [], _ => rfl
 | f :: fs, p :: ps, h => by rw [eN, eN, h.1, SzL.off h.2.2]
 | [], _ :: _, h => h.elim
 | _ :: _, [], h => h.elim
theorem SzL.sz : ∀ {fs : List Field} {ps : List (Nat × Nat)}, SzL fs ps → ∀ (i : Nat) f p, fs[i]? = some f → ps[i]? = some p → ∀ w, (sizeOf f.type).run prog w = .ok p.2 w
 | [], _, _, i, f, p, hf, _ => by simp at hf
 | _ :: _, [], h, _, _, _, _, _ => h.elim
 | f :: fs, p :: ps, h, 0, _, _, hf, hp => by cases hf; cases hp; exact h.2.1
 | f :: fs, p :: ps, h, i + 1, _, _, hf, hp => SzL.sz h.2.2 i _ _ hf hp
def PL (T : TypeId) (ps : List (Nat × Nat)) : Prop := ∃ fs : Array Field, prog.underlying T = some (.struct fs) ∧ SzL fs.toList ps
theorem PLi {fs : Array Field} {ps : List (Nat × Nat)} (hu : prog.underlying T = some (.struct fs)) (h : SzL fs.toList ps := by repeat first | exact True.intro | refine ⟨rfl, szo, ?_⟩) : PL T ps := ⟨fs, hu, h⟩
theorem yB {cs : List AV} {places : List (Nat × Nat)} (hz : ZR T zs) (hp : PL T places)
  (hq : Parts env ops qs) (hf : aiD (places[·]?) zs qs = some cs := by rfl) : APure prog ⟨dst, .build T ops.toArray, ty, pos, af, gd⟩ env (.agg cs) :=
 let ⟨_, hz, hc⟩ := hz; let ⟨_, hu, hs⟩ := hp
 amZ places hu hz hc hs.off (fun i f p hf => hs.sz i f p (by rw [eA]; exact hf)) hq hf
theorem ahP {cs : List AV} {places : List (Nat × Nat)} (hz : ZR T zs) (hp : PL T places)
  (hq : Parts env ops qs) (hf : aiN places 0 0 qs = some cs := by rfl) (hl : Nat.beq cs.length zs.length = true := by rfl) : APure prog ⟨dst, .build T ops.toArray, ty, pos, af, gd⟩ env (.agg cs) :=
 let ⟨_, hz, hc⟩ := hz; let ⟨_, hu, hs⟩ := hp
 beI places hu hz hc hs.off (fun i f p hf => hs.sz i f p (by rw [eA]; exact hf)) hq hf hl
theorem AList.al {ops : Array Oper} {Q : Exit → Env → Heap → Prop} {l : List Oper} {d : Tmp} {cs : List AV} (hz : ZR T cs) (k : ∀ b, H.objs b = none → AList prog n ops Q l ((d, .ptr (some ⟨b, 0, none⟩)) :: env) (H.set b (.box T cs))) (hd : Nat.blt d n = true := by rfl) : AList prog n ops Q (⟨some d, .alloc T, ty, pos, af, none⟩ :: l) env H :=
 let ⟨_, hz, hc⟩ := hz
 AList.s hd (atU hz hc) fun _ _ ⟨b, hb, e1, e2⟩ => by subst e1; subst e2; exact k b hb

theorem agJ {cs : List AV} (hz : ZR T cs) : AStep prog ⟨dst, .alloc T, ty, pos, af, gd⟩ env H (fun y H' => ∃ b, H.objs b = none ∧ y = .ptr (some ⟨b, 0, none⟩) ∧ H' = H.set b (.box T cs)) :=
 let ⟨_, hz, hc⟩ := hz; atU hz hc
theorem adK {E : TypeId} {N sz : Nat} {cs : List AV} (hu : prog.underlying T = some (.array N E)) (hE : ∀ w, (sizeOf E).run prog w = .ok sz w) (hz : ZR T zs)
  (hq : Parts env ops qs) (hf : aiD (fun i => some (i * sz, sz)) zs qs = some cs := by rfl) : APure prog ⟨dst, .build T ops.toArray, ty, pos, af, gd⟩ env (.agg cs) :=
 let ⟨_, hz, hc⟩ := hz; beJ hu hE hz hc hq hf
structure Im (a b : Prop) : Prop where
 go : a → b
theorem AXi (h : a → b := by exact AXh) : Im a b := ⟨h⟩
theorem AC {c : Prop} (h : Im a b) (g : Im b c) : Im a c := ⟨fun x => g.go (h.go x)⟩
theorem AI : Im a a := ⟨id⟩
theorem AY (k : a) (h : Im a b := by (repeat (apply AC _ AXi; rotate_left)); exact AI) : b := h.go k
end Go.Proofs.YtmmgbnolccpjoaaGreatDoor
