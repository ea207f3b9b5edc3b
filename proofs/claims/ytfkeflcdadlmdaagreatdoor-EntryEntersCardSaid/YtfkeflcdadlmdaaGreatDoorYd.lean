import Derived.Test.YtfkeflcdadlmdaaGreatDoorSsk
import Derived.Test.YtfkeflcdadlmdaaGreatDoorS6
import Derived.Test.YtfkeflcdadlmdaaGreatDoorS5
import Derived.Test.YtfkeflcdadlmdaaGreatDoorS2
namespace Go.Proofs.YtfkeflcdadlmdaaGreatDoor
open Go Go.RowKit

def ayW (t : TypeId) : Type := { d : TypeDesc // Tryz.prog.underlying t = some d }
def bbL (t : TypeId) : Type := { k : Nat // ∀ w, (sizeOf t).run Tryz.prog w = .ok k w }
def avX (t : TypeId) : Type := { b : Bool // ∀ w, (isAgg t).run Tryz.prog w = .ok b w }
theorem und {t : TypeId} [i : Inhabited (ayW t)] : Tryz.prog.underlying t = some i.default.1 := i.default.2
theorem szo {t : TypeId} [i : Inhabited (bbL t)] : ∀ w, (sizeOf t).run Tryz.prog w = .ok i.default.1 w := i.default.2
theorem agg {t : TypeId} [i : Inhabited (avX t)] : ∀ w, (isAgg t).run Tryz.prog w = .ok i.default.1 w := i.default.2
instance : Inhabited (ayW 9) := ⟨⟨_, Tryz.underlying9⟩⟩
instance : Inhabited (ayW 25) := ⟨⟨_, Tryz.underlying25⟩⟩
instance : Inhabited (ayW 27) := ⟨⟨_, Tryz.underlying27⟩⟩
instance : Inhabited (ayW 32) := ⟨⟨_, Tryz.underlying32⟩⟩
instance : Inhabited (ayW 38) := ⟨⟨_, Tryz.underlying38⟩⟩
instance : Inhabited (ayW 48) := ⟨⟨_, Tryz.underlying48⟩⟩
instance : Inhabited (ayW 68) := ⟨⟨_, Tryz.underlying68⟩⟩
instance : Inhabited (ayW 75) := ⟨⟨_, Tryz.underlying75⟩⟩
instance : Inhabited (ayW 84) := ⟨⟨_, Tryz.underlying84⟩⟩
instance : Inhabited (ayW 94) := ⟨⟨_, Tryz.underlying94⟩⟩
instance : Inhabited (ayW 122) := ⟨⟨_, Tryz.underlying122⟩⟩
instance : Inhabited (ayW 124) := ⟨⟨_, Tryz.underlying124⟩⟩
instance : Inhabited (ayW 170) := ⟨⟨_, Tryz.underlying170⟩⟩
instance : Inhabited (ayW 192) := ⟨⟨_, Tryz.underlying192⟩⟩
instance : Inhabited (bbL 3) := ⟨⟨_, Tryz.sizeOf3⟩⟩
instance : Inhabited (bbL 4) := ⟨⟨_, Tryz.sizeOf4⟩⟩
instance : Inhabited (bbL 9) := ⟨⟨_, Tryz.sizeOf9⟩⟩
instance : Inhabited (bbL 23) := ⟨⟨_, Tryz.sizeOf23⟩⟩
instance : Inhabited (bbL 25) := ⟨⟨_, Tryz.sizeOf25⟩⟩
instance : Inhabited (bbL 27) := ⟨⟨_, Tryz.sizeOf27⟩⟩
instance : Inhabited (bbL 30) := ⟨⟨_, Tryz.sizeOf30⟩⟩
instance : Inhabited (bbL 32) := ⟨⟨_, Tryz.sizeOf32⟩⟩
instance : Inhabited (bbL 38) := ⟨⟨_, Tryz.sizeOf38⟩⟩
instance : Inhabited (bbL 48) := ⟨⟨_, Tryz.sizeOf48⟩⟩
instance : Inhabited (bbL 65) := ⟨⟨_, Tryz.sizeOf65⟩⟩
instance : Inhabited (bbL 122) := ⟨⟨_, Tryz.sizeOf122⟩⟩
instance : Inhabited (bbL 192) := ⟨⟨_, Tryz.sizeOf192⟩⟩
instance : Inhabited (avX 3) := ⟨⟨_, Tryz.isAgg3⟩⟩
instance : Inhabited (avX 4) := ⟨⟨_, Tryz.isAgg4⟩⟩
instance : Inhabited (avX 9) := ⟨⟨_, Tryz.isAgg9⟩⟩
instance : Inhabited (avX 23) := ⟨⟨_, Tryz.isAgg23⟩⟩
instance : Inhabited (avX 25) := ⟨⟨_, Tryz.isAgg25⟩⟩
instance : Inhabited (avX 27) := ⟨⟨_, Tryz.isAgg27⟩⟩
instance : Inhabited (avX 30) := ⟨⟨_, Tryz.isAgg30⟩⟩
instance : Inhabited (avX 32) := ⟨⟨_, Tryz.isAgg32⟩⟩
instance : Inhabited (avX 38) := ⟨⟨_, Tryz.isAgg38⟩⟩
instance : Inhabited (avX 48) := ⟨⟨_, Tryz.isAgg48⟩⟩
instance : Inhabited (avX 65) := ⟨⟨_, Tryz.isAgg65⟩⟩
instance : Inhabited (avX 112) := ⟨⟨_, Tryz.isAgg112⟩⟩
instance : Inhabited (avX 122) := ⟨⟨_, Tryz.isAgg122⟩⟩
instance : Inhabited (avX 170) := ⟨⟨_, Tryz.isAgg170⟩⟩
instance : Inhabited (avX 192) := ⟨⟨_, Tryz.isAgg192⟩⟩
theorem AP {P : Program} {o : Oper} {env : Env} {x : AV} (h : APure P o env x := by first
  | ((with_reducible apply qH); (first | exact tm rfl | exact zF | exact yN | exact zR rfl))
  | ((with_reducible apply zA); exact und; rfl; exact szo; exact tm rfl)
  | ((with_reducible apply qJ); exact agg; exact tm rfl)
  | ((with_reducible apply zC); (first | exact tm rfl | exact zF | exact yN | exact zR rfl))
  | ((with_reducible apply zD); exact und; rfl; exact szo; exact tm rfl)
  | ((with_reducible apply atU); exact tm rfl; rfl)
  | ((with_reducible apply abO); exact tm rfl)
  | ((with_reducible apply qO); exact tm rfl)
  | ((with_reducible apply adK); exact tm rfl; (first | rfl | assumption); (first | exact tm rfl | exact yN))
  | ((with_reducible apply agO); exact tm rfl; (first | rfl | assumption); (first | exact tm rfl | exact yN))
  | ((with_reducible apply apI); exact agg; exact szo; exact tm rfl; exact Nat.le_of_ble_eq_true rfl)
  | ((with_reducible apply ahS); exact und; exact tm rfl)
  | ((with_reducible apply aiM); exact und; exact tm rfl)
  | ((with_reducible apply akY); exact tm rfl; (first | exact tm rfl | exact zF))
  | ((with_reducible apply yR); exact tm rfl; (first | exact tm rfl | exact zF))
  | ((with_reducible apply qK); exact tm rfl; (first | exact tm rfl | exact zF))
  | ((with_reducible apply acT); exact tm rfl; (first | exact tm rfl | exact zF))
  | ((with_reducible apply arE); exact tm rfl; (first | exact tm rfl | exact zF))
  | ((with_reducible apply akX); exact tm rfl; (first | exact tm rfl | exact zF))
  | ((with_reducible apply azT); exact tm rfl)
  | ((with_reducible apply amR); exact tm rfl; (first | exact tm rfl | exact zR rfl))
  | ((with_reducible apply axE); exact tm rfl; (first | exact tm rfl | exact zR rfl))
  ) : APure P o env x := h
theorem AWP.cx {P : Program} {n : Nat} {Q : Exit → Env → Heap → Prop} {env : Env} {H : Heap} {t : Tmp} {a b : Code} {c : Bool} {p q : Prop} (hc : Env.get? env t = some (.bool c)) (ht : p → AWP P n a Q env H) (hf : q → AWP P n b Q env H)
  (hp : c = true → p := by intro h; (try simp only [decide_eq_true_eq, decide_eq_false_iff_not, Bool.not_eq_true', Bool.not_eq_false', Int.not_lt, Int.not_le, ne_eq, Decidable.not_not] at h); exact h)
  (hq : c = false → q := by intro h; (try simp only [decide_eq_true_eq, decide_eq_false_iff_not, Bool.not_eq_true', Bool.not_eq_false', Int.not_lt, Int.not_le, ne_eq, Decidable.not_not] at h); exact h) : AWP P n (.cond (.tmp t) a b) Q env H :=
 AWP.cond (tm hc) (fun h => ht (hp h)) (fun h => hf (hq h))
theorem sX {e f : Env} (h : Env.sub e f := by repeat first | exact yX | refine yC rfl ?_) : Env.sub e f := h
theorem AX {a b : Prop} (k : a) (h : a → b := by first
  | ((with_reducible apply AList.p); rfl; exact AP)
  | ((with_reducible apply AList.gn); rfl; rfl; rfl; (first | rfl | assumption))
  | ((with_reducible exact AList.nil))
  | ((with_reducible exact Next.go))
  | ((with_reducible exact AWP.seq))
  | ((with_reducible exact AWP.region))
  | ((with_reducible exact AWP.skip))
  | ((with_reducible apply AList.gp); rfl; rfl; rfl; (first | rfl | assumption); exact AP)
  | ((with_reducible exact AWP.ret))
  | ((with_reducible exact Next.rt))
  | ((with_reducible exact Next.ex))
  | ((with_reducible exact Block.rt))
  | ((with_reducible exact Block.hit))
  | ((with_reducible exact Block.go))
  | ((with_reducible apply Block.miss); rfl)
  | ((with_reducible exact AWP.block))
  | ((with_reducible exact AWP.exit))
  | ((with_reducible exact AWP.label))
  | ((with_reducible apply AList.gdead); rfl; rfl; rfl)
  | ((with_reducible apply APlan.p); rfl; rfl; exact AP)
  | ((with_reducible apply APlan.gn); rfl; rfl; rfl; rfl; (first | rfl | assumption))
  | ((with_reducible exact APlan.nil))
  | ((with_reducible apply APlan.gp); rfl; rfl; rfl; rfl; (first | rfl | assumption); exact AP)
  | ((with_reducible apply APlan.gdead); rfl; rfl; rfl; rfl)
  | ((with_reducible apply APlanI.p); rfl; rfl; exact AP)
  | ((with_reducible apply APlanI.gn); rfl; rfl; rfl; rfl; (first | rfl | assumption))
  | ((with_reducible exact APlanI.nil))
  | ((with_reducible apply APlanI.gp); rfl; rfl; rfl; rfl; (first | rfl | assumption); exact AP)
  | ((with_reducible apply APlanI.gdead); rfl; rfl; rfl; rfl)
  ) : b := h k
end Go.Proofs.YtfkeflcdadlmdaaGreatDoor
