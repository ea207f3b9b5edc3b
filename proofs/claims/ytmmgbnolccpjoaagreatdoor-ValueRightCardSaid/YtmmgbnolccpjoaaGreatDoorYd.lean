import Derived.Test.YtmmgbnolccpjoaaGreatDoorSsk
import Derived.Test.YtmmgbnolccpjoaaGreatDoorS2
import Derived.Test.YtmmgbnolccpjoaaGreatDoorS5
import Derived.Test.YtmmgbnolccpjoaaGreatDoorS6
import Derived.Test.YtmmgbnolccpjoaaGreatDoorS4
import Derived.Test.YtmmgbnolccpjoaaGreatDoorS3
namespace Go.Proofs.YtmmgbnolccpjoaaGreatDoor
open Go Go.RowKit

def ahQ (t : TypeId) : Type := { d : TypeDesc // Tryz.prog.underlying t = some d }
def aoQ (t : TypeId) : Type := { k : Nat // ∀ w, (sizeOf t).run Tryz.prog w = .ok k w }
def aqR (t : TypeId) : Type := { b : Bool // ∀ w, (isAgg t).run Tryz.prog w = .ok b w }
theorem und {t : TypeId} [i : Inhabited (ahQ t)] : Tryz.prog.underlying t = some i.default.1 := i.default.2
theorem szo {t : TypeId} [i : Inhabited (aoQ t)] : ∀ w, (sizeOf t).run Tryz.prog w = .ok i.default.1 w := i.default.2
theorem agg {t : TypeId} [i : Inhabited (aqR t)] : ∀ w, (isAgg t).run Tryz.prog w = .ok i.default.1 w := i.default.2
instance : Inhabited (ahQ 3) := ⟨⟨_, Tryz.underlying3⟩⟩
instance : Inhabited (ahQ 4) := ⟨⟨_, Tryz.underlying4⟩⟩
instance : Inhabited (ahQ 5) := ⟨⟨_, Tryz.underlying5⟩⟩
instance : Inhabited (ahQ 9) := ⟨⟨_, Tryz.underlying9⟩⟩
instance : Inhabited (ahQ 22) := ⟨⟨_, Tryz.underlying22⟩⟩
instance : Inhabited (ahQ 24) := ⟨⟨_, Tryz.underlying24⟩⟩
instance : Inhabited (ahQ 27) := ⟨⟨_, Tryz.underlying27⟩⟩
instance : Inhabited (ahQ 29) := ⟨⟨_, Tryz.underlying29⟩⟩
instance : Inhabited (ahQ 31) := ⟨⟨_, Tryz.underlying31⟩⟩
instance : Inhabited (ahQ 51) := ⟨⟨_, Tryz.underlying51⟩⟩
instance : Inhabited (ahQ 58) := ⟨⟨_, Tryz.underlying58⟩⟩
instance : Inhabited (ahQ 69) := ⟨⟨_, Tryz.underlying69⟩⟩
instance : Inhabited (ahQ 74) := ⟨⟨_, Tryz.underlying74⟩⟩
instance : Inhabited (ahQ 76) := ⟨⟨_, Tryz.underlying76⟩⟩
instance : Inhabited (ahQ 102) := ⟨⟨_, Tryz.underlying102⟩⟩
instance : Inhabited (ahQ 118) := ⟨⟨_, Tryz.underlying118⟩⟩
instance : Inhabited (ahQ 123) := ⟨⟨_, Tryz.underlying123⟩⟩
instance : Inhabited (ahQ 130) := ⟨⟨_, Tryz.underlying130⟩⟩
instance : Inhabited (ahQ 142) := ⟨⟨_, Tryz.underlying142⟩⟩
instance : Inhabited (ahQ 149) := ⟨⟨_, Tryz.underlying149⟩⟩
instance : Inhabited (ahQ 166) := ⟨⟨_, Tryz.underlying166⟩⟩
instance : Inhabited (ahQ 184) := ⟨⟨_, Tryz.underlying184⟩⟩
instance : Inhabited (ahQ 208) := ⟨⟨_, Tryz.underlying208⟩⟩
instance : Inhabited (ahQ 239) := ⟨⟨_, Tryz.underlying239⟩⟩
instance : Inhabited (ahQ 247) := ⟨⟨_, Tryz.underlying247⟩⟩
instance : Inhabited (ahQ 251) := ⟨⟨_, Tryz.underlying251⟩⟩
instance : Inhabited (ahQ 252) := ⟨⟨_, Tryz.underlying252⟩⟩
instance : Inhabited (ahQ 327) := ⟨⟨_, Tryz.underlying327⟩⟩
instance : Inhabited (aoQ 3) := ⟨⟨_, Tryz.sizeOf3⟩⟩
instance : Inhabited (aoQ 4) := ⟨⟨_, Tryz.sizeOf4⟩⟩
instance : Inhabited (aoQ 5) := ⟨⟨_, Tryz.sizeOf5⟩⟩
instance : Inhabited (aoQ 9) := ⟨⟨_, Tryz.sizeOf9⟩⟩
instance : Inhabited (aoQ 22) := ⟨⟨_, Tryz.sizeOf22⟩⟩
instance : Inhabited (aoQ 24) := ⟨⟨_, Tryz.sizeOf24⟩⟩
instance : Inhabited (aoQ 27) := ⟨⟨_, Tryz.sizeOf27⟩⟩
instance : Inhabited (aoQ 29) := ⟨⟨_, Tryz.sizeOf29⟩⟩
instance : Inhabited (aoQ 31) := ⟨⟨_, Tryz.sizeOf31⟩⟩
instance : Inhabited (aoQ 58) := ⟨⟨_, Tryz.sizeOf58⟩⟩
instance : Inhabited (aoQ 76) := ⟨⟨_, Tryz.sizeOf76⟩⟩
instance : Inhabited (aoQ 120) := ⟨⟨_, Tryz.sizeOf120⟩⟩
instance : Inhabited (aoQ 130) := ⟨⟨_, Tryz.sizeOf130⟩⟩
instance : Inhabited (aoQ 149) := ⟨⟨_, Tryz.sizeOf149⟩⟩
instance : Inhabited (aoQ 184) := ⟨⟨_, Tryz.sizeOf184⟩⟩
instance : Inhabited (aoQ 208) := ⟨⟨_, Tryz.sizeOf208⟩⟩
instance : Inhabited (aoQ 239) := ⟨⟨_, Tryz.sizeOf239⟩⟩
instance : Inhabited (aoQ 247) := ⟨⟨_, Tryz.sizeOf247⟩⟩
instance : Inhabited (aoQ 251) := ⟨⟨_, Tryz.sizeOf251⟩⟩
instance : Inhabited (aqR 3) := ⟨⟨_, Tryz.isAgg3⟩⟩
instance : Inhabited (aqR 4) := ⟨⟨_, Tryz.isAgg4⟩⟩
instance : Inhabited (aqR 9) := ⟨⟨_, Tryz.isAgg9⟩⟩
instance : Inhabited (aqR 22) := ⟨⟨_, Tryz.isAgg22⟩⟩
instance : Inhabited (aqR 24) := ⟨⟨_, Tryz.isAgg24⟩⟩
instance : Inhabited (aqR 27) := ⟨⟨_, Tryz.isAgg27⟩⟩
instance : Inhabited (aqR 29) := ⟨⟨_, Tryz.isAgg29⟩⟩
instance : Inhabited (aqR 31) := ⟨⟨_, Tryz.isAgg31⟩⟩
instance : Inhabited (aqR 58) := ⟨⟨_, Tryz.isAgg58⟩⟩
instance : Inhabited (aqR 76) := ⟨⟨_, Tryz.isAgg76⟩⟩
instance : Inhabited (aqR 120) := ⟨⟨_, Tryz.isAgg120⟩⟩
instance : Inhabited (aqR 130) := ⟨⟨_, Tryz.isAgg130⟩⟩
instance : Inhabited (aqR 149) := ⟨⟨_, Tryz.isAgg149⟩⟩
instance : Inhabited (aqR 166) := ⟨⟨_, Tryz.isAgg166⟩⟩
instance : Inhabited (aqR 184) := ⟨⟨_, Tryz.isAgg184⟩⟩
instance : Inhabited (aqR 208) := ⟨⟨_, Tryz.isAgg208⟩⟩
instance : Inhabited (aqR 239) := ⟨⟨_, Tryz.isAgg239⟩⟩
instance : Inhabited (aqR 247) := ⟨⟨_, Tryz.isAgg247⟩⟩
theorem EX {env : Env} {o : Operand} {x : AV} (h : Ev env o x := by first | exact tm rfl | exact zI | exact yF | exact zM rfl) : Ev env o x := h
theorem AP {P : Program} {o : Oper} {env : Env} {x : AV} (h : APure P o env x := by first
  | ((with_reducible apply zD); exact EX)
  | ((with_reducible apply zT); exact EX)
  | ((with_reducible apply acD); exact EX; rfl)
  | ((with_reducible apply aaM); exact agg; exact EX)
  | ((with_reducible apply zA); exact und; rfl; exact szo; exact EX)
  | ((with_reducible apply aiE); exact EX; (first | rfl | assumption); exact EX)
  | ((with_reducible apply adY); exact EX; (first | rfl | assumption); exact EX)
  | ((with_reducible apply anS); exact agg; exact szo; exact EX; exact Nat.le_of_ble_eq_true rfl)
  | ((with_reducible apply qH); exact EX; exact EX)
  | ((with_reducible apply aeP); exact EX; exact EX; omega)
  | ((with_reducible apply adM); exact EX; exact EX; omega)
  | ((with_reducible apply adN); exact EX; exact EX)
  | ((with_reducible apply zJ); exact und; rfl; exact szo; exact EX)
  | ((with_reducible apply afB); exact und; exact EX)
  | ((with_reducible apply yQ); exact EX; exact EX)
  | ((with_reducible apply apL); exact EX; exact EX)
  | ((with_reducible apply avB); exact EX; exact EX)
  | ((with_reducible apply qP); exact und; exact und; exact EX; exact wrapN64 (by omega))
  | ((with_reducible apply alB); exact und; exact EX)
  | ((with_reducible apply pure_not); exact EX)
  | ((with_reducible apply abC); exact EX; exact EX)
  | ((with_reducible apply ajR); exact EX; exact EX)
  | ((with_reducible apply akZ); exact EX; exact EX)
  | ((with_reducible apply pure_neg); exact EX; omega)
  | ((with_reducible apply qB); exact EX; exact EX; omega)
  | ((with_reducible apply beB); exact EX; exact EX)
  | ((with_reducible apply aaL); exact EX)
  | ((with_reducible apply amU); exact und; exact EX; exact EX; omega; omega)
  | ((with_reducible apply anR); exact EX; exact EX)
  | ((with_reducible apply zW); exact EX; exact EX; (first | rfl | assumption))
  | ((with_reducible apply abQ); exact EX)
  | ((with_reducible apply arU); exact EX; exact EX)
  | ((with_reducible apply amT); exact und; exact EX; exact EX; omega; omega)
  | ((with_reducible apply qW); exact EX; exact EX; (first | rfl | assumption); omega)
  | ((with_reducible apply qA); exact und; exact szo; exact EX; exact EX; omega; omega)
  | ((with_reducible apply alD); exact und; exact szo; exact EX; exact EX; omega; omega)
  | ((with_reducible apply avA); exact und; exact szo; exact EX; exact EX; omega; omega)
  | ((with_reducible apply qP); exact und; exact und; exact EX; exact wrapNI64 (by omega))
  | ((with_reducible apply beC); exact und; exact EX)
  | ((with_reducible apply adX); exact EX; exact EX; (first | rfl | assumption); omega)
  | ((with_reducible apply azT); exact und; exact und; rfl; exact EX)
  | ((with_reducible apply afC); exact und; exact EX)
  | ((with_reducible apply agM); exact EX; exact EX; omega)
  ) : APure P o env x := h
theorem AWP.cx {P : Program} {n : Nat} {Q : Exit → Env → Heap → Prop} {env : Env} {H : Heap} {t : Tmp} {a b : Code} {c : Bool} {p q : Prop} (hc : Env.get? env t = some (.bool c)) (ht : p → AWP P n a Q env H) (hf : q → AWP P n b Q env H)
  (hp : c = true → p := by intro h; (try simp only [decide_eq_true_eq, decide_eq_false_iff_not, Bool.not_eq_true', Bool.not_eq_false', Int.not_lt, Int.not_le, ne_eq, Decidable.not_not] at h); exact h)
  (hq : c = false → q := by intro h; (try simp only [decide_eq_true_eq, decide_eq_false_iff_not, Bool.not_eq_true', Bool.not_eq_false', Int.not_lt, Int.not_le, ne_eq, Decidable.not_not] at h); exact h) : AWP P n (.cond (.tmp t) a b) Q env H :=
 AWP.cond (tm hc) (fun h => ht (hp h)) (fun h => hf (hq h))
theorem sX {e f : Env} (h : Env.sub e f := by repeat first | exact qM | refine zP rfl ?_) : Env.sub e f := h
theorem AX {a b : Prop} (k : a) (h : a → b := by first
  | ((with_reducible apply AList.p); rfl; exact AP)
  | ((with_reducible apply AList.gn); rfl; rfl; rfl; (first | rfl | assumption))
  | ((with_reducible exact AList.nil))
  | ((with_reducible exact Next.go))
  | ((with_reducible exact AWP.seq))
  | ((with_reducible exact AWP.region))
  | ((with_reducible exact AWP.skip))
  | ((with_reducible apply AList.gp); rfl; rfl; rfl; (first | rfl | assumption); exact AP)
  | ((with_reducible exact AWP.ret))
  | ((with_reducible exact fun k => Ret.go (by repeat first | exact .nil | refine .cons (.tmp _ _ rfl) ?_ | refine .cons (.cellI _ _ _ _ rfl agg szo rfl) ?_) _ (Heap.le.refl _) k))
  | ((with_reducible exact Next.rt))
  | ((with_reducible exact Next.ex))
  | ((with_reducible exact Block.rt))
  | ((with_reducible exact Block.hit))
  | ((with_reducible exact Block.go))
  | ((with_reducible apply Block.miss); rfl)
  | ((with_reducible exact AWP.block))
  | ((with_reducible exact AWP.exit))
  | ((with_reducible exact AWP.label))
  | ((with_reducible apply AList.gdead); rfl; rfl; rfl)
  | ((with_reducible apply APlan.p); rfl; rfl; exact AP)
  | ((with_reducible apply APlan.gn); rfl; rfl; rfl; rfl; (first | rfl | assumption))
  | ((with_reducible exact APlan.nil))
  | ((with_reducible apply APlan.gp); rfl; rfl; rfl; rfl; (first | rfl | assumption); exact AP)
  | ((with_reducible apply APlan.gdead); rfl; rfl; rfl; rfl)
  ) : b := h k
end Go.Proofs.YtmmgbnolccpjoaaGreatDoor
