import Derived.Test.YtmmgbnolccpjoaaGreatDoorSsk
import Derived.Test.YtmmgbnolccpjoaaGreatDoorS6
namespace Go.Proofs.YtmmgbnolccpjoaaGreatDoor
open Go Go.RowKit

variable {T t ty : TypeId} {env : Env} {H : Heap} {dst : Option Tmp} {pos : String} {af : Array Edge} {gd : Option (Nat × Bool)} {ops : List (Nat × Operand)} {qs : List (Nat × AV)} {zs : List AV}
def aiO (t : TypeId) : Type := { d : TypeDesc // Tryz.prog.underlying t = some d }
def apQ (t : TypeId) : Type := { k : Nat // ∀ w, (sizeOf t).run Tryz.prog w = .ok k w }
def aqB (t : TypeId) : Type := { b : Bool // ∀ w, (isAgg t).run Tryz.prog w = .ok b w }
theorem und [i : Inhabited (aiO t)] : Tryz.prog.underlying t = some i.default.1 := i.default.2
theorem szo [i : Inhabited (apQ t)] : ∀ w, (sizeOf t).run Tryz.prog w = .ok i.default.1 w := i.default.2
theorem agg [i : Inhabited (aqB t)] : ∀ w, (isAgg t).run Tryz.prog w = .ok i.default.1 w := i.default.2
instance : Inhabited (aiO 3) := ⟨⟨_, U3⟩⟩
instance : Inhabited (aiO 4) := ⟨⟨_, U4⟩⟩
instance : Inhabited (aiO 5) := ⟨⟨_, U5⟩⟩
instance : Inhabited (aiO 9) := ⟨⟨_, U9⟩⟩
instance : Inhabited (aiO 22) := ⟨⟨_, U22⟩⟩
instance : Inhabited (aiO 24) := ⟨⟨_, U24⟩⟩
instance : Inhabited (aiO 27) := ⟨⟨_, U27⟩⟩
instance : Inhabited (aiO 29) := ⟨⟨_, U29⟩⟩
instance : Inhabited (aiO 31) := ⟨⟨_, U31⟩⟩
instance : Inhabited (aiO 51) := ⟨⟨_, U51⟩⟩
instance : Inhabited (aiO 58) := ⟨⟨_, U58⟩⟩
instance : Inhabited (aiO 69) := ⟨⟨_, U69⟩⟩
instance : Inhabited (aiO 74) := ⟨⟨_, U74⟩⟩
instance : Inhabited (aiO 76) := ⟨⟨_, U76⟩⟩
instance : Inhabited (aiO 79) := ⟨⟨_, Tryz.underlying79⟩⟩
instance : Inhabited (aiO 102) := ⟨⟨_, U102⟩⟩
instance : Inhabited (aiO 107) := ⟨⟨_, U107⟩⟩
instance : Inhabited (aiO 118) := ⟨⟨_, U118⟩⟩
instance : Inhabited (aiO 123) := ⟨⟨_, U123⟩⟩
instance : Inhabited (aiO 130) := ⟨⟨_, U130⟩⟩
instance : Inhabited (aiO 139) := ⟨⟨_, Tryz.underlying139⟩⟩
instance : Inhabited (aiO 142) := ⟨⟨_, U142⟩⟩
instance : Inhabited (aiO 149) := ⟨⟨_, U149⟩⟩
instance : Inhabited (aiO 166) := ⟨⟨_, U166⟩⟩
instance : Inhabited (aiO 184) := ⟨⟨_, U184⟩⟩
instance : Inhabited (aiO 208) := ⟨⟨_, U208⟩⟩
instance : Inhabited (aiO 239) := ⟨⟨_, U239⟩⟩
instance : Inhabited (aiO 247) := ⟨⟨_, U247⟩⟩
instance : Inhabited (aiO 251) := ⟨⟨_, U251⟩⟩
instance : Inhabited (aiO 252) := ⟨⟨_, U252⟩⟩
instance : Inhabited (aiO 327) := ⟨⟨_, U327⟩⟩
instance : Inhabited (apQ 3) := ⟨⟨_, Z3⟩⟩
instance : Inhabited (apQ 4) := ⟨⟨_, Z4⟩⟩
instance : Inhabited (apQ 5) := ⟨⟨_, Z5⟩⟩
instance : Inhabited (apQ 9) := ⟨⟨_, Z9⟩⟩
instance : Inhabited (apQ 22) := ⟨⟨_, Z22⟩⟩
instance : Inhabited (apQ 24) := ⟨⟨_, Z24⟩⟩
instance : Inhabited (apQ 27) := ⟨⟨_, Z27⟩⟩
instance : Inhabited (apQ 29) := ⟨⟨_, Z29⟩⟩
instance : Inhabited (apQ 31) := ⟨⟨_, Z31⟩⟩
instance : Inhabited (apQ 58) := ⟨⟨_, Z58⟩⟩
instance : Inhabited (apQ 76) := ⟨⟨_, Z76⟩⟩
instance : Inhabited (apQ 79) := ⟨⟨_, Tryz.sizeOf79⟩⟩
instance : Inhabited (apQ 120) := ⟨⟨_, Tryz.sizeOf120⟩⟩
instance : Inhabited (apQ 130) := ⟨⟨_, Z130⟩⟩
instance : Inhabited (apQ 149) := ⟨⟨_, Z149⟩⟩
instance : Inhabited (apQ 184) := ⟨⟨_, Z184⟩⟩
instance : Inhabited (apQ 208) := ⟨⟨_, Z208⟩⟩
instance : Inhabited (apQ 239) := ⟨⟨_, Z239⟩⟩
instance : Inhabited (apQ 247) := ⟨⟨_, Z247⟩⟩
instance : Inhabited (apQ 251) := ⟨⟨_, Z251⟩⟩
instance : Inhabited (apQ 252) := ⟨⟨_, Z252⟩⟩
instance : Inhabited (aqB 3) := ⟨⟨_, G3⟩⟩
instance : Inhabited (aqB 4) := ⟨⟨_, G4⟩⟩
instance : Inhabited (aqB 5) := ⟨⟨_, G5⟩⟩
instance : Inhabited (aqB 9) := ⟨⟨_, G9⟩⟩
instance : Inhabited (aqB 22) := ⟨⟨_, G22⟩⟩
instance : Inhabited (aqB 24) := ⟨⟨_, G24⟩⟩
instance : Inhabited (aqB 27) := ⟨⟨_, G27⟩⟩
instance : Inhabited (aqB 29) := ⟨⟨_, G29⟩⟩
instance : Inhabited (aqB 31) := ⟨⟨_, G31⟩⟩
instance : Inhabited (aqB 58) := ⟨⟨_, G58⟩⟩
instance : Inhabited (aqB 76) := ⟨⟨_, G76⟩⟩
instance : Inhabited (aqB 79) := ⟨⟨_, Tryz.isAgg79⟩⟩
instance : Inhabited (aqB 120) := ⟨⟨_, Tryz.isAgg120⟩⟩
instance : Inhabited (aqB 130) := ⟨⟨_, G130⟩⟩
instance : Inhabited (aqB 149) := ⟨⟨_, G149⟩⟩
instance : Inhabited (aqB 166) := ⟨⟨_, G166⟩⟩
instance : Inhabited (aqB 184) := ⟨⟨_, Tryz.isAgg184⟩⟩
instance : Inhabited (aqB 208) := ⟨⟨_, G208⟩⟩
instance : Inhabited (aqB 239) := ⟨⟨_, Tryz.isAgg239⟩⟩
instance : Inhabited (aqB 247) := ⟨⟨_, G247⟩⟩
theorem EX {o : Operand} {x : AV} (h : Ev env o x := by first | exact tm rfl | exact zE | exact zM | exact zS rfl) : Ev env o x := h
theorem AP {P : Program} {o : Oper} {x : AV} (h : APure P o env x := by first
  | ((with_reducible apply zA); exact EX)
  | ((with_reducible apply zJ); exact EX)
  | ((with_reducible apply zB); exact EX; rfl)
  | ((with_reducible apply zH); exact agg; exact EX)
  | ((with_reducible apply zD); exact und; rfl; exact szo; exact EX)
  | ((with_reducible apply zN); exact EX; (first | rfl | assumption); exact EX)
  | ((with_reducible apply zO); exact EX; (first | rfl | assumption); exact EX)
  | ((with_reducible apply zV); exact und; rfl; exact szo; exact EX)
  | ((with_reducible apply zR); exact EX; exact EX)
  | ((with_reducible apply zQ); exact agg; exact szo; exact EX; exact lB rfl)
  | ((with_reducible apply yT); exact EX; exact EX; omega)
  | ((with_reducible apply yN); exact EX; exact EX)
  | ((with_reducible apply yG); exact EX; exact EX; omega)
  | ((with_reducible apply abD); exact und; exact EX)
  | ((with_reducible apply qT); exact EX)
  | ((with_reducible apply yC); exact EX; exact EX)
  | ((with_reducible apply yQ); exact und; exact EX)
  | ((with_reducible apply qA); exact EX; exact EX)
  | ((with_reducible apply yM); exact EX; exact EX)
  | ((with_reducible apply yS); exact EX; exact EX)
  | ((with_reducible apply aaB); exact EX)
  | ((with_reducible apply qM); exact und; exact und; exact EX; exact wrapN64 (by omega))
  | ((with_reducible apply zA); exact qK (sz := 1) (tl := .full))
  | ((with_reducible apply abJ); exact EX; exact EX)
  | ((with_reducible apply qO); exact EX; exact EX)
  | ((with_reducible apply abR); exact EX; omega)
  | ((with_reducible apply yR); exact EX; exact EX; omega)
  | ((with_reducible apply abK); exact und; exact EX; exact EX; omega; omega)
  | ((with_reducible apply abN); exact und; exact EX; exact EX; omega; omega)
  | ((with_reducible apply aeS); exact EX; exact EX)
  | ((with_reducible apply abM); exact und; exact EX; exact EX; omega; omega)
  | ((with_reducible apply yZ); exact EX)
  | ((with_reducible apply arA); exact EX; exact EX)
  | ((with_reducible apply yF); exact EX; exact EX; (first | rfl | assumption))
  | ((with_reducible apply qM); exact und; exact und; exact EX; exact wrapNI64 (by omega))
  | ((with_reducible apply amD); exact EX; exact EX; omega)
  | ((with_reducible apply ahL); exact EX; exact EX)
  | ((with_reducible apply abC); exact EX; exact EX; (first | rfl | assumption); omega)
  | ((with_reducible apply asV); exact und; exact EX; exact EX; exact EX; omega; omega; omega)
  | ((with_reducible apply aaD); exact und; exact szo; exact EX; exact EX; omega; omega)
  | ((with_reducible apply anZ); exact und; exact EX)
  | ((with_reducible apply agO); exact und; exact szo; exact EX; exact EX; omega; omega)
  | ((with_reducible apply aeT); exact und; exact szo; exact EX; exact EX; omega; omega)
  | ((with_reducible apply aaR); exact EX; exact EX; omega)
  | ((with_reducible apply yR); exact EX; exact EX; (first | rfl | assumption))
  | ((with_reducible apply adE); exact EX; exact EX; (first | rfl | assumption); omega)
  | ((with_reducible apply adF); exact und; exact und; rfl; exact EX)
  | ((with_reducible apply ahM); exact und; exact EX)
  | ((with_reducible apply aiX); exact EX; exact EX; omega)
  ) : APure P o env x := h
theorem AWP.cx {P : Program} {n : Nat} {Q : Exit → Env → Heap → Prop} {t : Tmp} {a b : Code} {c : Bool} {p q : Prop} (hc : Env.get? env t = some (.bool c)) (ht : p → AWP P n a Q env H) (hf : q → AWP P n b Q env H)
  (hp : c = true → p := by intro h; (try simp only [aK] at h); exact h)
  (hq : c = false → q := by intro h; (try simp only [aK] at h); exact h) : AWP P n (.cond (.tmp t) a b) Q env H :=
 AWP.cond (tm hc) (fun h => ht (hp h)) (fun h => hf (hq h))
theorem sX {e f : Env} (h : Env.sub e f := by repeat first | exact zU | refine zC rfl ?_) : Env.sub e f := h
section
variable {P : Program} {R : AV → Heap → Prop} {env : Env} {H : Heap} {t u v : Tmp} {x y z : AV} {T : TypeId} {k : Nat} {cs : List AV}
theorem rgo1 (h : Env.get? env t = some x) (q : R (yI [x]) H) : Ret.q P [.tmp t] R .ret env H := Ret.go (.cons (.tmp _ _ h) .nil) _ (hRa _) q
theorem rgo2 (h : Env.get? env t = some x) (h2 : Env.get? env u = some y) (q : R (yI [x, y]) H) : Ret.q P [.tmp t, .tmp u] R .ret env H := Ret.go (.cons (.tmp _ _ h) (.cons (.tmp _ _ h2) .nil)) _ (hRa _) q
theorem rgo3 (h : Env.get? env t = some x) (h2 : Env.get? env u = some y) (h3 : Env.get? env v = some z) (q : R (yI [x, y, z]) H) : Ret.q P [.tmp t, .tmp u, .tmp v] R .ret env H := Ret.go (.cons (.tmp _ _ h) (.cons (.tmp _ _ h2) (.cons (.tmp _ _ h3) .nil))) _ (hRa _) q
theorem rgc1 (h : Env.get? env t = some (.iptr cs)) (ha : ∀ w, (isAgg T).run P w = .ok true w) (hs : ∀ w, (sizeOf T).run P w = .ok k w) (hk : Nat.ble k cs.length = true) (q : R (yI [.agg (cs.take k)]) H) : Ret.q P [.cell t T] R .ret env H := Ret.go (.cons (.cellI _ _ _ _ h ha hs hk) .nil) _ (hRa _) q
theorem rgc2 (h : Env.get? env t = some (.iptr cs)) (ha : ∀ w, (isAgg T).run P w = .ok true w) (hs : ∀ w, (sizeOf T).run P w = .ok k w) (hk : Nat.ble k cs.length = true) (h2 : Env.get? env u = some y) (q : R (yI [.agg (cs.take k), y]) H) : Ret.q P [.cell t T, .tmp u] R .ret env H := Ret.go (.cons (.cellI _ _ _ _ h ha hs hk) (.cons (.tmp _ _ h2) .nil)) _ (hRa _) q
theorem rgc3 (h : Env.get? env t = some (.iptr cs)) (ha : ∀ w, (isAgg T).run P w = .ok true w) (hs : ∀ w, (sizeOf T).run P w = .ok k w) (hk : Nat.ble k cs.length = true) (h2 : Env.get? env u = some y) (h3 : Env.get? env v = some z) (q : R (yI [.agg (cs.take k), y, z]) H) : Ret.q P [.cell t T, .tmp u, .tmp v] R .ret env H := Ret.go (.cons (.cellI _ _ _ _ h ha hs hk) (.cons (.tmp _ _ h2) (.cons (.tmp _ _ h3) .nil))) _ (hRa _) q
end
section
variable {P : Program} {n : Nat} {ops : Array Oper} {Q : Exit → Env → Heap → Prop} {env : Env} {H : Heap} {l : List Oper} {ty : TypeId} {pos : String} {af : Array Edge}
theorem AList.stS {S : TypeId} {p x : Operand} {b o k : Nat} {cs : List AV} {y : AV} (hs : ∀ w, (sizeOf T).run P w = .ok k w) (hp : Ev env p (.ptr (some ⟨b, o, none⟩))) (hx : Ev env x y)
  (hy : y.cells.all AV.one = true) (hyk : y.cells.length = k) (hy1 : y.one = true ∨ ∃ cs, y = .agg cs) (hk : o + k ≤ cs.length) (q : AList P n ops Q l env (H.set b (.box S (putRow cs o y.cells)))) : AList P n ops Q (⟨none, .store T p x, ty, pos, af, none⟩ :: l) env (H.set b (.box S cs)) :=
 AList.e0 (zG hs hp hx hy hyk hy1 (oS _ _ _) hk) (by rw [sS]; exact q)
theorem AList.stU {S : TypeId} {p x : Operand} {b c o k : Nat} {cs : List AV} {y : AV} {z : AObj} (hbc : b ≠ c) (hs : ∀ w, (sizeOf T).run P w = .ok k w) (hp : Ev env p (.ptr (some ⟨b, o, none⟩))) (hx : Ev env x y)
  (hy : y.cells.all AV.one = true) (hyk : y.cells.length = k) (hy1 : y.one = true ∨ ∃ cs, y = .agg cs) (hk : o + k ≤ cs.length) (q : AList P n ops Q l env ((H.set b (.box S (putRow cs o y.cells))).set c z)) : AList P n ops Q (⟨none, .store T p x, ty, pos, af, none⟩ :: l) env ((H.set b (.box S cs)).set c z) :=
 AList.e0 (zG hs hp hx hy hyk hy1 ((oN _ _ hbc).trans (oS _ _ _)) hk) (by rw [sU hbc]; exact q)
end
theorem AXh {a b : Prop} (h : a → b := by first
  | ((with_reducible apply AList.p); rfl; exact AP)
  | ((with_reducible apply AList.gn); rfl; rfl; rfl; (first | rfl | assumption))
  | ((with_reducible exact AList.nil))
  | ((with_reducible exact Next.go))
  | ((with_reducible exact AWP.seq))
  | ((with_reducible exact AWP.region))
  | ((with_reducible exact AWP.skip))
  | ((with_reducible apply AList.gp); rfl; rfl; rfl; (first | rfl | assumption); exact AP)
  | ((with_reducible exact AWP.ret))
  | ((with_reducible apply rgo1); rfl)
  | ((with_reducible apply rgo2); rfl; rfl)
  | ((with_reducible apply rgo3); rfl; rfl; rfl)
  | ((with_reducible apply rgc1); rfl; exact agg; exact szo; rfl)
  | ((with_reducible apply rgc2); rfl; exact agg; exact szo; rfl; rfl)
  | ((with_reducible apply rgc3); rfl; exact agg; exact szo; rfl; rfl; rfl)
  | ((with_reducible apply AList.stS); exact szo; exact tm rfl; (first | exact tm rfl | exact zE | exact zM | exact zS rfl); rfl; rfl; (first | exact .inl rfl | exact .inr ⟨_, rfl⟩); exact lB rfl)
  | ((with_reducible apply AList.stU); assumption; exact szo; exact tm rfl; (first | exact tm rfl | exact zE | exact zM | exact zS rfl); rfl; rfl; (first | exact .inl rfl | exact .inr ⟨_, rfl⟩); exact lB rfl)
  | ((with_reducible apply AList.e); rfl; exact yW agg szo (tm rfl) (by first | assumption | exact oS _ _ _ | exact (oN _ _ (by assumption)).trans (oS _ _ _) | exact (by assumption : Heap.le _ _).objs _ _ (by assumption)) (lB rfl))
  | ((with_reducible apply AList.e); rfl; exact yE agg (tm rfl) (by first | assumption | exact oS _ _ _ | exact (oN _ _ (by assumption)).trans (oS _ _ _) | exact (by assumption : Heap.le _ _).objs _ _ (by assumption)) rfl)
  | ((with_reducible apply AList.e); rfl; exact zZ (tm rfl) (by first | exact .inl rfl | exact .inr ⟨_, rfl⟩))
  | ((with_reducible exact Next.rt))
  | ((with_reducible exact Next.ex))
  | ((with_reducible exact Block.rt))
  | ((with_reducible exact Block.hit))
  | ((with_reducible exact Block.go))
  | ((with_reducible apply Block.miss); rfl)
  | ((with_reducible exact AWP.block))
  | ((with_reducible exact AWP.exit))
  | ((with_reducible exact AWP.label))
  | ((with_reducible apply AList.gdead); rfl; rfl; rfl)
  | ((with_reducible apply APlan.p); rfl; rfl; exact AP)
  | ((with_reducible apply APlan.gn); rfl; rfl; rfl; rfl; (first | rfl | assumption))
  | ((with_reducible exact APlan.nil))
  | ((with_reducible apply APlan.gp); rfl; rfl; rfl; rfl; (first | rfl | assumption); exact AP)
  | ((with_reducible apply APlan.gdead); rfl; rfl; rfl; rfl)
  | ((with_reducible apply APlanI.p); rfl; rfl; exact AP)
  | ((with_reducible apply APlanI.gn); rfl; rfl; rfl; rfl; (first | rfl | assumption))
  | ((with_reducible exact APlanI.nil))
  | ((with_reducible apply APlanI.gp); rfl; rfl; rfl; rfl; (first | rfl | assumption); exact AP)
  | ((with_reducible apply APlanI.gdead); rfl; rfl; rfl; rfl)
  ) : a → b := h
theorem AX {a b : Prop} (k : a) (h : a → b := by exact AXh) : b := h k
set_option maxRecDepth 100000
def ZR (T : TypeId) (cs : List AV) : Prop := ∃ z : Value, (∀ w, (zeroValue T).run Tryz.prog w = .ok z w) ∧ ∀ g, RelCells g cs z.cells
theorem ZRi {cs : List AV} {z : Value} (hz : ∀ w, (zeroValue T).run Tryz.prog w = .ok z w) {vs : List Value} (e : z.cells = vs.toArray := by rfl)
  (h : ∀ g, RelL g cs vs := by intro g; repeat first | exact .nil | refine .cons (.int _ _) ?_ | refine .cons (.bool _) ?_ | refine .cons (.ptr _) ?_ | refine .cons (.str [] (Nat.zero_le _)) ?_) : ZR T cs := ⟨z, hz, fun g => e ▸ RelL.cells (h g)⟩
def SzL : List Field → List (Nat × Nat) → Prop
 | [], [] => True
 | f :: fs, p :: ps => f.offset = p.1 ∧ (∀ w, (sizeOf f.type).run Tryz.prog w = .ok p.2 w) ∧ SzL fs ps
 | _, _ => False
theorem SzL.off : ∀ {fs : List Field} {ps : List (Nat × Nat)}, SzL fs ps → fs.map (·.offset) = ps.map (·.1)
 | [], [], _ => rfl
 | f :: fs, p :: ps, h => by rw [eM, eM, h.1, SzL.off h.2.2]
 | [], _ :: _, h => h.elim
 | _ :: _, [], h => h.elim
theorem SzL.sz : ∀ {fs : List Field} {ps : List (Nat × Nat)}, SzL fs ps → ∀ (i : Nat) f p, fs[i]? = some f → ps[i]? = some p → ∀ w, (sizeOf f.type).run Tryz.prog w = .ok p.2 w
 | [], _, _, i, f, p, hf, _ => by simp at hf
 | _ :: _, [], h, _, _, _, _, _ => h.elim
 | f :: fs, p :: ps, h, 0, _, _, hf, hp => by cases hf; cases hp; exact h.2.1
 | f :: fs, p :: ps, h, i + 1, _, _, hf, hp => SzL.sz h.2.2 i _ _ hf hp
def PL (T : TypeId) (ps : List (Nat × Nat)) : Prop := ∃ fs : Array Field, Tryz.prog.underlying T = some (.struct fs) ∧ SzL fs.toList ps
theorem PLi {fs : Array Field} {ps : List (Nat × Nat)} (hu : Tryz.prog.underlying T = some (.struct fs)) (h : SzL fs.toList ps := by repeat first | exact True.intro | refine ⟨rfl, szo, ?_⟩) : PL T ps := ⟨fs, hu, h⟩
theorem yK {cs : List AV} {places : List (Nat × Nat)} (hz : ZR T zs) (hp : PL T places)
  (hq : Parts env ops qs) (hf : ahC (places[·]?) zs qs = some cs := by rfl) : APure Tryz.prog ⟨dst, .build T ops.toArray, ty, pos, af, gd⟩ env (.agg cs) :=
 let ⟨_, hz, hc⟩ := hz; let ⟨_, hu, hs⟩ := hp
 akP places hu hz hc hs.off (fun i f p hf => hs.sz i f p (by rw [dV]; exact hf)) hq hf
theorem agP {cs : List AV} {places : List (Nat × Nat)} (hz : ZR T zs) (hp : PL T places)
  (hq : Parts env ops qs) (hf : ahI places 0 0 qs = some cs := by rfl) (hl : Nat.beq cs.length zs.length = true := by rfl) : APure Tryz.prog ⟨dst, .build T ops.toArray, ty, pos, af, gd⟩ env (.agg cs) :=
 let ⟨_, hz, hc⟩ := hz; let ⟨_, hu, hs⟩ := hp
 azD places hu hz hc hs.off (fun i f p hf => hs.sz i f p (by rw [dV]; exact hf)) hq hf hl
theorem AList.al {n : Nat} {ops : Array Oper} {Q : Exit → Env → Heap → Prop} {l : List Oper} {d : Tmp} {cs : List AV} (hz : ZR T cs) (k : ∀ b, H.objs b = none → AList Tryz.prog n ops Q l ((d, .ptr (some ⟨b, 0, none⟩)) :: env) (H.set b (.box T cs))) (hd : Nat.blt d n = true := by rfl) : AList Tryz.prog n ops Q (⟨some d, .alloc T, ty, pos, af, none⟩ :: l) env H :=
 let ⟨_, hz, hc⟩ := hz
 AList.s hd (aqL hz hc) fun _ _ ⟨b, hb, e1, e2⟩ => by subst e1; subst e2; exact k b hb

theorem agJ {cs : List AV} (hz : ZR T cs) : AStep Tryz.prog ⟨dst, .alloc T, ty, pos, af, gd⟩ env H (fun y H' => ∃ b, H.objs b = none ∧ y = .ptr (some ⟨b, 0, none⟩) ∧ H' = H.set b (.box T cs)) :=
 let ⟨_, hz, hc⟩ := hz; aqL hz hc
theorem acU {E : TypeId} {N sz : Nat} {cs : List AV} (hu : Tryz.prog.underlying T = some (.array N E)) (hE : ∀ w, (sizeOf E).run Tryz.prog w = .ok sz w) (hz : ZR T zs)
  (hq : Parts env ops qs) (hf : ahC (fun i => some (i * sz, sz)) zs qs = some cs := by rfl) : APure Tryz.prog ⟨dst, .build T ops.toArray, ty, pos, af, gd⟩ env (.agg cs) :=
 let ⟨_, hz, hc⟩ := hz; azE hu hE hz hc hq hf
end Go.Proofs.YtmmgbnolccpjoaaGreatDoor
