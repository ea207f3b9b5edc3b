/-
  Formulas as trees: their size, depth, which nodes are right, what they need; as data of the program.
-/
import Derived.Test.YthhcdmmihjhipaaGreatDoorS6
import Derived.Test.YthhcdmmihjhipaaGreatDoorL0
import Derived.Shelf.Strings.SlTrimAscii
import Derived.Test.YthhcdmmihjhipaaGreatDoorS5
namespace Go.Proofs.YthhcdmmihjhipaaGreatDoor
open Go Go.RowKit

structure Pt where
  c : Int
  r : Int
  ac : Bool
  ar : Bool
instance : DecidableEq Pt := fun x y =>
  if h : x.c = y.c ∧ x.r = y.r ∧ x.ac = y.ac ∧ x.ar = y.ar then .isTrue (by cases x; cases y; simp_all) else .isFalse (by rintro rfl; exact h ⟨rfl, rfl, rfl, rfl⟩)
def Pt.cs (p : Pt) : List AV := [.int .i64 p.c, .int .i64 p.r, .bool p.ac, .bool p.ar]
def Pt.av (p : Pt) : AV := .agg p.cs
def Pt.z : Pt := ⟨0, 0, false, false⟩
structure Ar where
  a : Pt
  b : Pt
instance : DecidableEq Ar := fun x y =>
  if h : x.a = y.a ∧ x.b = y.b then .isTrue (by cases x; cases y; simp_all) else .isFalse (by rintro rfl; exact h ⟨rfl, rfl⟩)
def Ar.cs (x : Ar) : List AV := [.int .i64 x.a.c, .int .i64 x.a.r, .bool x.a.ac, .bool x.a.ar, .int .i64 x.b.c, .int .i64 x.b.r, .bool x.b.ac, .bool x.b.ar]
def Ar.av (x : Ar) : AV := .agg x.cs

structure Nd where
  k : Int
  b : Int
  t : List UInt8
  i : Bool
  f : Int
  p : Pt
  q : Pt
  s : List AV
def Nd.cs (n : Nd) : List AV := [.int .i64 n.k, .int .u64 n.b, .str n.t, .bool n.i, .int .i64 n.f, .int .i64 n.p.c, .int .i64 n.p.r, .bool n.p.ac, .bool n.p.ar, .int .i64 n.q.c, .int .i64 n.q.r, .bool n.q.ac, .bool n.q.ar, .slice 14 n.s .shared]
def Nd.av (n : Nd) : AV := .agg n.cs

inductive Ex where
  | node (k : Int) (b : Int) (t : List UInt8) (i : Bool) (f : Int) (p q : Pt) (ks : List Ex)

mutual
def Ex.nd : Ex → Nd
  | .node k b t i f p q ks => ⟨k, b, t, i, f, p, q, Ex.avs ks⟩
def Ex.avs : List Ex → List AV
  | [] => []
  | e :: es => e.nd.av :: Ex.avs es
end
def Ex.av (e : Ex) : AV := e.nd.av
theorem avs_map : ∀ l : List Ex, Ex.avs l = l.map Ex.av
  | [] => rfl
  | e :: es => by rw [Ex.avs, avs_map es]; rfl
def ndv (k b : Int) (t : List UInt8) (i : Bool) (f : Int) (p q : Pt) (ks : List Ex) : AV := Nd.av ⟨k, b, t, i, f, p, q, ks.map Ex.av⟩
theorem Ex.av_node (k b : Int) (t : List UInt8) (i : Bool) (f : Int) (p q : Pt) (ks : List Ex) : (Ex.node k b t i f p q ks).av = ndv k b t i f p q ks := by
  unfold Ex.av Ex.nd ndv
  rw [avs_map]
theorem row_kids (ks : List Ex) : ∀ x, x ∈ ks.map Ex.av → x.row 14 := fun x hx => by
  obtain ⟨i, _, rfl⟩ := List.mem_map.1 hx
  exact ⟨rfl, rfl⟩
theorem row_areas (l : List Ar) : ∀ x, x ∈ l.map Ar.av → x.row 8 := fun x hx => by
  obtain ⟨i, _, rfl⟩ := List.mem_map.1 hx
  exact ⟨rfl, rfl⟩

theorem Ex.ind {p : Ex → Prop} (h : ∀ k b t i f a q ks, (∀ x, x ∈ ks → p x) → p (.node k b t i f a q ks)) : ∀ e, p e := by
  have key : ∀ n, (∀ e : Ex, SizeOf.sizeOf e ≤ n → p e) := by
    intro n
    induction n with
    | zero => intro e he; cases e; simp at he
    | succ n ih =>
      intro e he
      cases e with
      | node k b t i f a q ks =>
        refine h k b t i f a q ks fun x hx => ih x ?_
        have := List.sizeOf_lt_of_mem hx
        simp at he
        omega
  exact fun e => key _ e (Nat.le_refl _)

mutual
def Ex.fits : Ex → Prop
  | .node _ _ t _ _ _ _ ks => t.length ≤ maxLen ∧ ks.length ≤ maxLen ∧ Ex.fitsL ks
def Ex.fitsL : List Ex → Prop
  | [] => True
  | e :: es => e.fits ∧ Ex.fitsL es
end
theorem fitsL_mem : ∀ {l : List Ex}, Ex.fitsL l → ∀ x, x ∈ l → x.fits
  | e :: es, h, x, hx => by
    rcases List.mem_cons.1 hx with rfl | hx
    · exact h.1
    · exact fitsL_mem h.2 x hx
theorem fitsL_of : ∀ {l : List Ex}, (∀ x, x ∈ l → x.fits) → Ex.fitsL l
  | [], _ => trivial
  | e :: es, h => ⟨h e (by simp), fitsL_of fun x hx => h x (by simp [hx])⟩
mutual
def Ex.tot : Ex → Nat
  | .node _ _ _ _ _ _ _ ks => 1 + Ex.totL ks
def Ex.totL : List Ex → Nat
  | [] => 0
  | e :: es => e.tot + Ex.totL es
end
mutual
def Ex.dep : Ex → Nat
  | .node _ _ _ _ _ _ _ ks => Ex.depL ks + 1
def Ex.depL : List Ex → Nat
  | [] => 0
  | e :: es => max e.dep (Ex.depL es)
end
theorem totL_app : ∀ l m : List Ex, Ex.totL (l ++ m) = Ex.totL l + Ex.totL m
  | [], m => by simp [Ex.totL]
  | e :: es, m => by rw [List.cons_append, Ex.totL, Ex.totL, totL_app es m]; omega
theorem depL_app : ∀ l m : List Ex, Ex.depL (l ++ m) = max (Ex.depL l) (Ex.depL m)
  | [], m => by simp [Ex.depL]
  | e :: es, m => by rw [List.cons_append, Ex.depL, Ex.depL, depL_app es m]; omega
theorem totL_take {l : List Ex} {i : Nat} (h : i < l.length) : Ex.totL (l.take (i + 1)) = Ex.totL (l.take i) + l[i].tot := by
  rw [List.take_succ_eq_append_getElem h, totL_app]; simp [Ex.totL]
theorem depL_take {l : List Ex} {i : Nat} (h : i < l.length) : Ex.depL (l.take (i + 1)) = max (Ex.depL (l.take i)) l[i].dep := by
  rw [List.take_succ_eq_append_getElem h, depL_app]; simp [Ex.depL]
theorem totL_le {l : List Ex} (i : Nat) : Ex.totL (l.take i) ≤ Ex.totL l := by
  have := totL_app (l.take i) (l.drop i)
  rw [List.take_append_drop] at this
  omega
theorem tot_pos : ∀ e : Ex, 1 ≤ e.tot
  | .node _ _ _ _ _ _ _ ks => by rw [Ex.tot]; omega
theorem len_totL : ∀ l : List Ex, l.length ≤ Ex.totL l
  | [] => Nat.le_refl _
  | e :: es => by have := len_totL es; have := tot_pos e; rw [Ex.totL, List.length_cons]; omega
theorem tot_mem {l : List Ex} {x : Ex} (h : x ∈ l) : x.tot ≤ Ex.totL l := by
  obtain ⟨i, hi, rfl⟩ := List.getElem_of_mem h
  have h1 := totL_take hi
  have h2 := totL_le (l := l) (i + 1)
  omega
theorem dep_tot : ∀ e : Ex, e.dep ≤ e.tot := by
  refine Ex.ind fun k b t i f p q ks ih => ?_
  rw [Ex.dep, Ex.tot]
  have : ∀ l : List Ex, (∀ x, x ∈ l → x.dep ≤ x.tot) → Ex.depL l ≤ Ex.totL l := by
    intro l
    induction l with
    | nil => intro _; exact Nat.le_refl _
    | cons x l il =>
      intro h
      have h1 := h x (by simp)
      have h2 := il fun y hy => h y (by simp [hy])
      rw [Ex.depL, Ex.totL]
      omega
  have := this ks ih
  omega

def lev (t : List UInt8) : Int :=
  if t = [61] ∨ t = [60, 62] ∨ t = [60] ∨ t = [60, 61] ∨ t = [62] ∨ t = [62, 61] then 1
  else if t = [38] then 2
  else if t = [43] ∨ t = [45] then 3
  else if t = [42] ∨ t = [47] then 4
  else if t = [94] then 5
  else 0
def okc (c : UInt8) : Bool := decide ((65 ≤ c.toNat ∧ c.toNat ≤ 90) ∨ (48 ≤ c.toNat ∧ c.toNat ≤ 57) ∨ c.toNat = 46 ∨ c.toNat = 95)
def fname (t : List UInt8) : Bool := decide (t ≠ [] ∧ t.length ≤ 40 ∧ 65 ≤ (t.getD 0 0).toNat ∧ (t.getD 0 0).toNat ≤ 90) && t.all okc
def cellR (p : Pt) : Bool := decide (0 ≤ p.c ∧ p.c < 64 ∧ 0 ≤ p.r ∧ p.r < 1000)
def nodeOK (k b : Int) (t : List UInt8) (i : Bool) (f : Int) (p q : Pt) (n : Nat) : Bool :=
  if k = 1 then decide (n = 0 ∧ b < 9218868437227405312 ∧ t = [] ∧ i = false ∧ f = 0 ∧ p = Pt.z ∧ q = Pt.z)
  else if k = 2 then decide (n = 0 ∧ t.length ≤ 1000 ∧ b = 0 ∧ i = false ∧ f = 0 ∧ p = Pt.z ∧ q = Pt.z)
  else if k = 3 then decide (n = 0 ∧ t = [] ∧ b = 0 ∧ f = 0 ∧ p = Pt.z ∧ q = Pt.z)
  else if k = 4 then decide (n = 0 ∧ 1 ≤ f ∧ f ≤ 8 ∧ t = [] ∧ b = 0 ∧ i = false ∧ p = Pt.z ∧ q = Pt.z)
  else if k = 5 then cellR p && decide (n = 0 ∧ t = [] ∧ b = 0 ∧ i = false ∧ f = 0 ∧ q = Pt.z)
  else if k = 6 then cellR p && (cellR q && decide (n = 0 ∧ t = [] ∧ b = 0 ∧ i = false ∧ f = 0))
  else if k = 7 then decide (n = 1 ∧ (t = [45] ∨ t = [43]) ∧ b = 0 ∧ i = false ∧ f = 0 ∧ p = Pt.z ∧ q = Pt.z)
  else if k = 8 then decide (n = 2 ∧ 0 < lev t ∧ b = 0 ∧ i = false ∧ f = 0 ∧ p = Pt.z ∧ q = Pt.z)
  else if k = 9 then decide (n = 1 ∧ t = [37] ∧ b = 0 ∧ i = false ∧ f = 0 ∧ p = Pt.z ∧ q = Pt.z)
  else if k = 10 then fname t && decide (n ≤ 30 ∧ b = 0 ∧ i = false ∧ f = 0 ∧ p = Pt.z ∧ q = Pt.z)
  else false
mutual
def Ex.ok : Ex → Bool
  | .node k b t i f p q ks => nodeOK k b t i f p q ks.length && Ex.okL ks
def Ex.okL : List Ex → Bool
  | [] => true
  | e :: es => e.ok && Ex.okL es
end
theorem okL_all : ∀ l : List Ex, Ex.okL l = l.all Ex.ok
  | [] => rfl
  | e :: es => by rw [Ex.okL, List.all_cons, okL_all es]
def Ex.right (e : Ex) : Bool := decide (e.tot ≤ 500) && (decide (e.dep ≤ 100) && e.ok)
mutual
def Ex.short : Ex → Bool
  | .node _ _ t _ _ _ _ ks => decide (t.length ≤ 2000) && (decide (ks.length ≤ 600) && Ex.shortL ks)
def Ex.shortL : List Ex → Bool
  | [] => true
  | e :: es => e.short && Ex.shortL es
end
theorem shortL_all : ∀ l : List Ex, Ex.shortL l = l.all Ex.short
  | [] => rfl
  | e :: es => by rw [Ex.shortL, List.all_cons, shortL_all es]

def areaOf (k : Int) (p q : Pt) : Ar :=
  let s := if k = 5 then p else q
  ⟨⟨imin p.c s.c, imin p.r s.r, false, false⟩, ⟨imax p.c s.c, imax p.r s.r, false, false⟩⟩
def addA (l : List Ar) (x : Ar) : List Ar := if x ∈ l then l else l ++ [x]
mutual
def Ex.need : Ex → List Ar → List Ar
  | .node k _ _ _ _ p q ks, l => if k = 5 ∨ k = 6 then addA l (areaOf k p q) else Ex.needL ks l
def Ex.needL : List Ex → List Ar → List Ar
  | [], l => l
  | e :: es, l => Ex.needL es (e.need l)
end
theorem needL_app : ∀ (a b : List Ex) (l : List Ar), Ex.needL (a ++ b) l = Ex.needL b (Ex.needL a l)
  | [], b, l => by simp [Ex.needL]
  | e :: es, b, l => by rw [List.cons_append, Ex.needL, Ex.needL, needL_app es b]
theorem needL_take {ks : List Ex} {i : Nat} (h : i < ks.length) (l : List Ar) : Ex.needL (ks.take (i + 1)) l = ks[i].need (Ex.needL (ks.take i) l) := by
  rw [List.take_succ_eq_append_getElem h, needL_app]; simp [Ex.needL]
theorem addA_len (l : List Ar) (x : Ar) : l.length ≤ (addA l x).length ∧ (addA l x).length ≤ l.length + 1 := by
  unfold addA
  split
  · omega
  · rw [List.length_append]; simp
theorem need_len : ∀ (e : Ex) (l : List Ar), (e.need l).length ≤ l.length + e.tot := by
  refine Ex.ind fun k b t i f p q ks ih l => ?_
  rw [Ex.need, Ex.tot]
  split
  · have := addA_len l (areaOf k p q); omega
  · have : ∀ (xs : List Ex) (l : List Ar), (∀ x, x ∈ xs → ∀ l, (x.need l).length ≤ l.length + x.tot) → (Ex.needL xs l).length ≤ l.length + Ex.totL xs := by
      intro xs
      induction xs with
      | nil => intro l _; rw [Ex.needL, Ex.totL]; omega
      | cons x xs il =>
        intro l h
        have h1 := h x (by simp) l
        have h2 := il (x.need l) fun y hy => h y (by simp [hy])
        rw [Ex.needL, Ex.totL]
        omega
    have := this ks l ih
    omega
theorem needL_len (xs : List Ex) (l : List Ar) : (Ex.needL xs l).length ≤ l.length + Ex.totL xs := by
  induction xs generalizing l with
  | nil => rw [Ex.needL, Ex.totL]; omega
  | cons x xs il =>
    have h1 := need_len x l
    have h2 := il (x.need l)
    rw [Ex.needL, Ex.totL]
    omega

end Go.Proofs.YthhcdmmihjhipaaGreatDoor

namespace Go.Proofs.YthhcdmmihjhipaaGreatDoor
open Go Go.RowKit

def lz (c : Bool) (x : AV) : AV := cond c x (.raw undef)
section
variable {P : Program} {n : Fr} {Q : Exit → Env → Heap → Prop} {ops : Array Oper} {env : Env} {H : Heap} {l : List Oper} {op : Op} {ty : TypeId} {pos : String} {af : Array Edge} {x : AV}
theorem Ev.lz {t : Nat} {c : Bool} {x : AV} (h : env.get? t = some (lz c x)) (hc : c = true) : Ev env (.tmp t) x := by
  subst hc; exact .tmp _ _ h
theorem AList.ls1 {d : Tmp} {e : Tmp} {j : Nat} {want b : Bool} (hd : Nat.blt d n.size = true) (hg : (ops[j]?).bind (·.dst) = some e) (hb : env.get? e = some (.bool b))
    (h : (b == want) = true → AStep P ⟨some d, op, ty, pos, af, some (j, want)⟩ env H (fun y H' => y = x ∧ H' = H))
    (k : AList P n ops Q l ((d, lz (b == want) x) :: env) H) : AList P n ops Q (⟨some d, op, ty, pos, af, some (j, want)⟩ :: l) env H := by
  cases hw : (b == want) with
  | true =>
    rw [hw] at k
    exact AList.gs hd hg hb (by simpa using hw) (h hw) fun y H' ⟨e1, e2⟩ => by subst e1; subst e2; exact k
  | false =>
    rw [hw] at k
    exact AList.gn hd hg hb (by cases b <;> cases want <;> simp_all) k
theorem AList.ls2 {d : Tmp} {e : Tmp} {j : Nat} {want b c : Bool} (hd : Nat.blt d n.size = true) (hg : (ops[j]?).bind (·.dst) = some e) (hb : env.get? e = some (lz c (.bool b)))
    (h : (c && (b == want)) = true → AStep P ⟨some d, op, ty, pos, af, some (j, want)⟩ env H (fun y H' => y = x ∧ H' = H))
    (k : AList P n ops Q l ((d, lz (c && (b == want)) x) :: env) H) : AList P n ops Q (⟨some d, op, ty, pos, af, some (j, want)⟩ :: l) env H := by
  cases c with
  | true => exact AList.ls1 hd hg hb h k
  | false => exact AList.gdead hd hg hb k
theorem AList.lz1 {d : Tmp} {e : Tmp} {j : Nat} {want b : Bool} (hd : Nat.blt d n.size = true) (hg : (ops[j]?).bind (·.dst) = some e) (hb : env.get? e = some (.bool b))
    (h : (b == want) = true → APure P ⟨some d, op, ty, pos, af, some (j, want)⟩ env x)
    (k : AList P n ops Q l ((d, lz (b == want) x) :: env) H) : AList P n ops Q (⟨some d, op, ty, pos, af, some (j, want)⟩ :: l) env H :=
  AList.ls1 hd hg hb (fun e => (h e).step H) k
theorem AList.lz2 {d : Tmp} {e : Tmp} {j : Nat} {want b c : Bool} (hd : Nat.blt d n.size = true) (hg : (ops[j]?).bind (·.dst) = some e) (hb : env.get? e = some (lz c (.bool b)))
    (h : (c && (b == want)) = true → APure P ⟨some d, op, ty, pos, af, some (j, want)⟩ env x)
    (k : AList P n ops Q l ((d, lz (c && (b == want)) x) :: env) H) : AList P n ops Q (⟨some d, op, ty, pos, af, some (j, want)⟩ :: l) env H :=
  AList.ls2 hd hg hb (fun e => (h e).step H) k
variable {dst : Option Tmp} {gd : Option (Nat × Bool)}
theorem pure_pickA {a : Operand} {u : Nat} {p q : Bool} (ha : Ev env a (.bool p)) (hx : env.get? u = some (lz (p == true) (.bool q))) : APure P ⟨dst, .pick a (.tmp u) (.const (.bool false)), ty, pos, af, gd⟩ env (.bool (p && q)) :=
  pure_pick ha (fun e => by subst e; exact .tmp _ _ hx) (fun e => by subst e; exact ev_bool)
theorem pure_pickO {a : Operand} {u : Nat} {p q : Bool} (ha : Ev env a (.bool p)) (hx : env.get? u = some (lz (p == false) (.bool q))) : APure P ⟨dst, .pick a (.const (.bool true)) (.tmp u), ty, pos, af, gd⟩ env (.bool (p || q)) :=
  pure_pick ha (fun e => by subst e; exact ev_bool) (fun e => by subst e; exact .tmp _ _ hx)
theorem pure_pickA2 {a : Operand} {u : Nat} {c p q : Bool} (hc : c = true) (ha : Ev env a (.bool p)) (hx : env.get? u = some (lz (c && (p == true)) (.bool q))) : APure P ⟨dst, .pick a (.tmp u) (.const (.bool false)), ty, pos, af, gd⟩ env (.bool (p && q)) := by
  subst hc; exact pure_pickA ha hx
theorem pure_pickO2 {a : Operand} {u : Nat} {c p q : Bool} (hc : c = true) (ha : Ev env a (.bool p)) (hx : env.get? u = some (lz (c && (p == false)) (.bool q))) : APure P ⟨dst, .pick a (.const (.bool true)) (.tmp u), ty, pos, af, gd⟩ env (.bool (p || q)) := by
  subst hc; exact pure_pickO ha hx
end
end Go.Proofs.YthhcdmmihjhipaaGreatDoor

namespace Go.Proofs.YthhcdmmihjhipaaGreatDoor
open Go Go.RowKit Go.Shelf

theorem relvs2 {g : G} {x y : AV} {vs : List Value} (h : RelVs g [x, y] vs) : ∃ v u, vs = [v, u] ∧ RelV g x v ∧ RelV g y u := by
  obtain ⟨hl, hr⟩ := h
  match vs, hl with
  | [v, u], _ => exact ⟨v, u, rfl, hr 0 _ _ rfl rfl, hr 1 _ _ rfl rfl⟩
theorem ACall.lib {P : Program} {f : FuncId} {xs : List AV} {H : Heap} (y : AV) (h : ∀ g vs w, RelVs g xs vs → Sat g H w → Calls P f vs.toArray w (fun e w' => ∃ v, e = .returned v ∧ RelV g y v ∧ Below w.heap.size w w')) : ACall P f xs H (fun x H' => x = y ∧ H' = H) :=
  fun g vs w k s => (h g vs w k s).mono fun _ _ ⟨v, he, hr, hb⟩ => ⟨v, he, g, y, H, .id, hr, s.grow hb, rfl, rfl⟩
theorem trimSetA (cs : List UInt8) (hc : ∀ b, b ∈ cs → b.toNat < 128) (hcl : cs.length < 1000) (s : List UInt8) (H : Heap) : ACall Tryz.prog 146 [.str s, .str cs] H (fun y H' => y = .str (Lib.trimS s cs) ∧ H' = H) := by
  refine ACall.lib _ fun g vs w k st => ?_
  obtain ⟨v, u, rfl, hv, hu⟩ := relvs2 k
  cases hv with | str _ hs => ?_
  cases hu
  refine (Any.strings_Trim_laid Tryz.lays160 (by kernel_rfl) ⟨s.toArray⟩ ⟨cs.toArray⟩ w (by show s.toArray.size ≤ _; rw [maxLen_eq] at hs; simpa using hs) (by show cs.toArray.size < _; rw [List.size_toArray]; omega) (fun j b h => hc b (List.mem_of_getElem? (by simpa using h)))).mono ?_
  rintro e w' ⟨rfl, hb⟩
  refine ⟨_, rfl, .str _ (Nat.le_trans ?_ hs), hb⟩
  show ((s.reverse.dropWhile (cs.contains ·)).reverse.dropWhile (cs.contains ·)).length ≤ s.length
  have h1 := (List.dropWhile_sublist (l := (s.reverse.dropWhile (cs.contains ·)).reverse) (cs.contains ·)).length_le
  have h2 := (List.dropWhile_sublist (l := s.reverse) (cs.contains ·)).length_le
  rw [List.length_reverse] at h1 h2
  omega
theorem dropWhile_nil {α : Type} {p : α → Bool} : ∀ {l : List α}, l.dropWhile p = [] ↔ l.all p = true
  | [] => by simp
  | x :: l => by
    rw [List.dropWhile_cons, List.all_cons]
    cases h : p x with
    | true => simp [dropWhile_nil (l := l)]
    | false => simp
theorem trimS_nil (s cs : List UInt8) : Lib.trimS s cs = [] ↔ s.all (fun c => cs.contains c) = true := by
  show (s.reverse.dropWhile (cs.contains ·)).reverse.dropWhile (cs.contains ·) = [] ↔ _
  rw [dropWhile_nil, List.all_reverse]
  constructor
  · intro h
    have h2 : ∀ l : List UInt8, (l.dropWhile (cs.contains ·)).all (cs.contains ·) = true → l.all (cs.contains ·) = true := by
      intro l
      induction l with
      | nil => intro _; rfl
      | cons x l ih =>
        intro h
        rw [List.dropWhile_cons] at h
        rw [List.all_cons]
        cases hp : cs.contains x with
        | true => rw [hp, if_pos rfl] at h; rw [ih h]; rfl
        | false => rw [hp, if_neg (by simp)] at h; rw [List.all_cons, hp] at h; exact absurd h (by simp)
    have := h2 _ h
    rwa [List.all_reverse] at this
  · intro h
    refine List.all_eq_true.2 fun x hx => ?_
    have := List.mem_reverse.1 ((List.dropWhile_sublist _).subset hx)
    exact List.all_eq_true.1 h x this

theorem info27 : (match Tryz.prog.info? 27 with | some i => i.size == 14 && (i.bytes == 120 && (match i.zero with | some z => z.cells.size == 14 | none => false)) | none => false) = true := by kernel_rfl
theorem info27_spec : ∃ i z, Tryz.prog.info? 27 = some i ∧ i.zero = some z ∧ i.size = 14 ∧ i.bytes = 120 ∧ z.cells.size = 14 := by
  have h := info27
  split at h
  · rename_i i hi
    simp only [Bool.and_eq_true, beq_iff_eq] at h
    obtain ⟨h1, h2, h3⟩ := h
    split at h3
    · rename_i z hz
      exact ⟨i, z, hi, hz, h1, h2, by simpa using h3⟩
    · cases h3
  · cases h
theorem growA (n : Nat) (hn : n * 120 ≤ 140737488355328) (H : Heap) : ACall Tryz.prog 34 [.slice 14 [] .full, .int .i64 (n : Int)] H (fun y H' => ∃ t, H.toks t = false ∧ y = .slice 14 [] (.own t) ∧ H' = H.live t) := by
  intro g vs w k s
  obtain ⟨v, u, rfl, hv, hu⟩ := relvs2 k
  cases hu
  have hfresh : H.toks g.ntok = false := by
    cases e : H.toks g.ntok with
    | false => rfl
    | true => have := s.tokLt _ e; omega
  obtain ⟨i0, z, hi, hz, hs, hby, hzs⟩ := info27_spec
  have key : ∃ p, v = .slice p 0 0 ∧ (∀ a, p = some a → ∃ b o, a = ⟨b, o, none⟩) := by
    cases hv with
    | nilSlice => exact ⟨none, rfl, fun a h => by cases h⟩
    | slice sz xs tl b off cap vs h1 h2 h3 h4 h5 h6 =>
      have h0 : (cap - 0) * 14 = 0 := h6
      obtain rfl : cap = 0 := by omega
      exact ⟨_, rfl, fun a h => by cases h; exact ⟨_, _, rfl⟩⟩
  obtain ⟨p, rfl, hp⟩ := key
  rcases Nat.eq_zero_or_pos n with rfl | hpos
  · refine (Any8.slices_Grow_room Tryz.growL p 0 0 0 w (Nat.le_refl _) (by omega) (by omega) (Nat.le_refl _)).mono ?_
    rintro e w' ⟨rfl, rfl⟩
    refine ⟨_, rfl, g.addTok none, .slice 14 [] (.own g.ntok), _, G.le_addTok _ _, ?_, s.retag, g.ntok, hfresh, rfl, rfl⟩
    cases p with
    | none => exact .nilSlice _ _
    | some a =>
      obtain ⟨b, o, rfl⟩ := hp a rfl
      exact .slice 14 [] (.own g.ntok) b o 0 (fun _ => undef) (fun x hx => by cases hx) (fun i hi => by simp at hi) (fun i j x c hx => by simp at hx) (Nat.le_refl _) (Nat.zero_le _) ⟨Nat.lt_succ_self _, .inl rfl⟩
  · refine (Any8.slices_Grow_grow Tryz.growL i0 z hi hz (by omega) p 0 0 n [] w (Nat.le_refl _) (by omega) (by rw [hby]; omega) (by omega) (by simp) (fun _ => rfl) (fun a _ j v hj => by simp at hj)).mono ?_
    rintro e w' ⟨rfl, rfl⟩
    obtain ⟨nc, hnc⟩ : ∃ nc, nc = grownCap w (0 + n) 0 (Tryz.grow_ren.t 25) := ⟨_, rfl⟩
    have hcap : nc ≤ maxLen := by
      have := grownCap_le_maxLen w (0 + n) 0 (Tryz.grow_ren.t 25) (by unfold maxLen; omega)
      rwa [← hnc] at this
    have hge : 0 + n ≤ nc := by rw [hnc]; exact grownCap_ge w _ _ _
    rw [← hnc]
    obtain ⟨row, hrow⟩ : ∃ row, row = ([] : List Value).toArray ++ Builtin.zeroCells z.cells (0 + n - 0) ++ Builtin.zeroCells z.cells (nc - (0 + n)) := ⟨_, rfl⟩
    have hsz : row.size = nc * 14 := by
      rw [hrow]
      simp only [Array.size_append, Builtin.zeroCells, Array.size_map, Array.size_range, hzs, List.size_toArray, List.length_nil]
      omega
    rw [← hrow]
    obtain ⟨g', hle, hnt, htok, _, s2⟩ := s.drew.new_row row (Tryz.grow_ren.t 25) 0 (Nat.zero_le _)
    refine ⟨_, rfl, g', .slice 14 [] (.own g.ntok), _, hle, ?_, s2, g.ntok, hfresh, rfl, rfl⟩
    refine .slice 14 [] (.own g.ntok) _ 0 nc (fun _ => undef) (fun x hx => by cases hx) (fun i hi => by simp at hi) (fun i j x c hx => by simp at hx) (Nat.zero_le _) hcap ⟨by omega, .inr ?_⟩
    rw [htok, hsz]
    simp

end Go.Proofs.YthhcdmmihjhipaaGreatDoor

namespace Go.Proofs.YthhcdmmihjhipaaGreatDoor
open Go Go.RowKit

theorem zr24 : ∀ g, RelCells g [.int .i64 0, .int .i64 0, .bool false, .bool false] (Value.cells (Go.Value.agg #[Go.Value.int Go.IntKind.i64 0, Go.Value.int Go.IntKind.i64 0, Go.Value.bool false, Go.Value.bool false])) := fun _ => RelL.cells (.cons (.int _ _) (.cons (.int _ _) (.cons (.bool _) (.cons (.bool _) .nil))))
theorem pl24 (fs : Array Field) (hfs : Tryz.prog.underlying 24 = some (.struct fs)) : ∀ (i : Nat) f p, fs[i]? = some f → [(0, 1), (1, 1), (2, 1), (3, 1)][i]? = some p → ∀ w, (sizeOf f.type).run Tryz.prog w = .ok p.2 w := by
  have e := (Option.some.inj (hfs.symm.trans Tryz.underlying24))
  cases e
  intro i f p hf hp w
  match i with
  | 0 => cases hf; cases hp; exact Tryz.sizeOf3 w
  | 1 => cases hf; cases hp; exact Tryz.sizeOf3 w
  | 2 => cases hf; cases hp; exact Tryz.sizeOf4 w
  | 3 => cases hf; cases hp; exact Tryz.sizeOf4 w
  | i + 4 => simp at hp
theorem zr27 : ∀ g, RelCells g [.int .i64 0, .int .u64 0, .str [], .bool false, .int .i64 0, .int .i64 0, .int .i64 0, .bool false, .bool false, .int .i64 0, .int .i64 0, .bool false, .bool false, .slice 14 [] .full] (Value.cells (Go.Value.agg #[Go.Value.int Go.IntKind.i64 0, Go.Value.int Go.IntKind.u64 0, Go.Value.string { data := #[] }, Go.Value.bool false, Go.Value.int Go.IntKind.i64 0, Go.Value.int Go.IntKind.i64 0, Go.Value.int Go.IntKind.i64 0, Go.Value.bool false, Go.Value.bool false, Go.Value.int Go.IntKind.i64 0, Go.Value.int Go.IntKind.i64 0, Go.Value.bool false, Go.Value.bool false, Go.Value.slice none 0 0])) := fun _ => RelL.cells (.cons (.int _ _) (.cons (.int _ _) (.cons ((.str [] (Nat.zero_le _))) (.cons (.bool _) (.cons (.int _ _) (.cons (.int _ _) (.cons (.int _ _) (.cons (.bool _) (.cons (.bool _) (.cons (.int _ _) (.cons (.int _ _) (.cons (.bool _) (.cons (.bool _) (.cons (.nilSlice _ _) .nil))))))))))))))
theorem pl27 (fs : Array Field) (hfs : Tryz.prog.underlying 27 = some (.struct fs)) : ∀ (i : Nat) f p, fs[i]? = some f → [(0, 1), (1, 1), (2, 1), (3, 1), (4, 1), (5, 4), (9, 4), (13, 1)][i]? = some p → ∀ w, (sizeOf f.type).run Tryz.prog w = .ok p.2 w := by
  have e := (Option.some.inj (hfs.symm.trans Tryz.underlying27))
  cases e
  intro i f p hf hp w
  match i with
  | 0 => cases hf; cases hp; exact Tryz.sizeOf3 w
  | 1 => cases hf; cases hp; exact Tryz.sizeOf22 w
  | 2 => cases hf; cases hp; exact Tryz.sizeOf9 w
  | 3 => cases hf; cases hp; exact Tryz.sizeOf4 w
  | 4 => cases hf; cases hp; exact Tryz.sizeOf3 w
  | 5 => cases hf; cases hp; exact Tryz.sizeOf24 w
  | 6 => cases hf; cases hp; exact Tryz.sizeOf24 w
  | 7 => cases hf; cases hp; exact Tryz.sizeOf25 w
  | i + 8 => simp at hp
theorem zr35 : ∀ g, RelCells g [.int .i64 0, .int .i64 0, .bool false, .bool false, .int .i64 0, .int .i64 0, .bool false, .bool false] (Value.cells (Go.Value.agg #[Go.Value.int Go.IntKind.i64 0, Go.Value.int Go.IntKind.i64 0, Go.Value.bool false, Go.Value.bool false, Go.Value.int Go.IntKind.i64 0, Go.Value.int Go.IntKind.i64 0, Go.Value.bool false, Go.Value.bool false])) := fun _ => RelL.cells (.cons (.int _ _) (.cons (.int _ _) (.cons (.bool _) (.cons (.bool _) (.cons (.int _ _) (.cons (.int _ _) (.cons (.bool _) (.cons (.bool _) .nil))))))))
theorem pl35 (fs : Array Field) (hfs : Tryz.prog.underlying 35 = some (.struct fs)) : ∀ (i : Nat) f p, fs[i]? = some f → [(0, 4), (4, 4)][i]? = some p → ∀ w, (sizeOf f.type).run Tryz.prog w = .ok p.2 w := by
  have e := (Option.some.inj (hfs.symm.trans Tryz.underlying35))
  cases e
  intro i f p hf hp w
  match i with
  | 0 => cases hf; cases hp; exact Tryz.sizeOf24 w
  | 1 => cases hf; cases hp; exact Tryz.sizeOf24 w
  | i + 2 => simp at hp
theorem zr36 : ∀ g, RelCells g [.int .i64 0, .int .i64 0, .bool false, .bool false, .int .i64 0, .int .i64 0, .bool false, .bool false] (Value.cells (Go.Value.agg #[Go.Value.int Go.IntKind.i64 0, Go.Value.int Go.IntKind.i64 0, Go.Value.bool false, Go.Value.bool false, Go.Value.int Go.IntKind.i64 0, Go.Value.int Go.IntKind.i64 0, Go.Value.bool false, Go.Value.bool false])) := fun _ => RelL.cells (.cons (.int _ _) (.cons (.int _ _) (.cons (.bool _) (.cons (.bool _) (.cons (.int _ _) (.cons (.int _ _) (.cons (.bool _) (.cons (.bool _) .nil))))))))
theorem pl36 (fs : Array Field) (hfs : Tryz.prog.underlying 36 = some (.struct fs)) : ∀ (i : Nat) f p, fs[i]? = some f → [(0, 4), (4, 4)][i]? = some p → ∀ w, (sizeOf f.type).run Tryz.prog w = .ok p.2 w := by
  have e := (Option.some.inj (hfs.symm.trans Tryz.underlying36))
  cases e
  intro i f p hf hp w
  match i with
  | 0 => cases hf; cases hp; exact Tryz.sizeOf24 w
  | 1 => cases hf; cases hp; exact Tryz.sizeOf24 w
  | i + 2 => simp at hp

def Pt.vals (p : Pt) : List Value := [.int .i64 p.c, .int .i64 p.r, .bool p.ac, .bool p.ar]
def Ar.vals (x : Ar) : List Value := [.int .i64 x.a.c, .int .i64 x.a.r, .bool x.a.ac, .bool x.a.ar, .int .i64 x.b.c, .int .i64 x.b.r, .bool x.b.ac, .bool x.b.ar]
theorem eqInP (d : Nat) (p q : Pt) (w : World) : (Op.equalIn (d + 2) 24 (.agg p.vals.toArray) (.agg q.vals.toArray)).run Tryz.prog w = .ok (decide (p = q)) w := by
  have u3 := Tryz.underlying3
  have a3 := Tryz.isAgg3
  have z3 := Tryz.sizeOf3
  have u4 := Tryz.underlying4
  have a4 := Tryz.isAgg4
  have z4 := Tryz.sizeOf4
  have hS : Tryz.prog.underlying 24 = some (.struct (Tryz.prog.fieldsOf 24)) := by kernel_rfl
  have hp : Tryz.prog.stoodInHeld 24 = false := by kernel_rfl
  rw [run_equalIn_agg w (d + 1) 24 _ _ hS hp]
  simp only [Program.fieldsOf, Tryz.underlying24, Pt.vals]
  go_simp
  obtain ⟨a, b, c, e⟩ := p
  obtain ⟨a', b', c', e'⟩ := q
  by_cases h1 : a = a' <;> by_cases h2 : b = b' <;> by_cases h3 : c = c' <;> by_cases h4 : e = e' <;> simp [h1, h2, h3, h4]
theorem eqPt (p q : Pt) : EqCells Tryz.prog 24 p.cs q.cs (decide (p = q)) := fun g xs ys w h k => by
  rw [h.plain p.vals rfl, k.plain q.vals rfl]; exact eqInP 9998 p q w

theorem eqInA35 (d : Nat) (p q : Ar) (w : World) : (Op.equalIn (d + 3) 35 (.agg p.vals.toArray) (.agg q.vals.toArray)).run Tryz.prog w = .ok (decide (p = q)) w := by
  have u24 := Tryz.underlying24
  have a24 := Tryz.isAgg24
  have z24 := Tryz.sizeOf24
  have hS : Tryz.prog.underlying 35 = some (.struct (Tryz.prog.fieldsOf 35)) := by kernel_rfl
  have hp : Tryz.prog.stoodInHeld 35 = false := by kernel_rfl
  rw [run_equalIn_agg w (d + 2) 35 _ _ hS hp]
  simp only [Program.fieldsOf, Tryz.underlying35, Ar.vals]
  go_simp
  obtain ⟨⟨a1, a2, a3, a4⟩, ⟨b1, b2, b3, b4⟩⟩ := p
  obtain ⟨⟨c1, c2, c3, c4⟩, ⟨d1, d2, d3, d4⟩⟩ := q
  by_cases h1 : a1 = c1
  rotate_left; · simp [h1]
  by_cases h2 : a2 = c2
  rotate_left; · simp [h1, h2]
  by_cases h3 : a3 = c3
  rotate_left; · simp [h1, h2, h3]
  by_cases h4 : a4 = c4
  rotate_left; · simp [h1, h2, h3, h4]
  by_cases h5 : b1 = d1
  rotate_left; · simp [h1, h2, h3, h4, h5]
  by_cases h6 : b2 = d2
  rotate_left; · simp [h1, h2, h3, h4, h5, h6]
  by_cases h7 : b3 = d3
  rotate_left; · simp [h1, h2, h3, h4, h5, h6, h7]
  by_cases h8 : b4 = d4 <;> simp [h1, h2, h3, h4, h5, h6, h7, h8]
theorem eqAr35 (p q : Ar) : EqCells Tryz.prog 35 p.cs q.cs (decide (p = q)) := fun g xs ys w h k => by
  rw [h.plain p.vals rfl, k.plain q.vals rfl]; exact eqInA35 9997 p q w

theorem eqInA36 (d : Nat) (p q : Ar) (w : World) : (Op.equalIn (d + 3) 36 (.agg p.vals.toArray) (.agg q.vals.toArray)).run Tryz.prog w = .ok (decide (p = q)) w := by
  have u24 := Tryz.underlying24
  have a24 := Tryz.isAgg24
  have z24 := Tryz.sizeOf24
  have hS : Tryz.prog.underlying 36 = some (.struct (Tryz.prog.fieldsOf 36)) := by kernel_rfl
  have hp : Tryz.prog.stoodInHeld 36 = false := by kernel_rfl
  rw [run_equalIn_agg w (d + 2) 36 _ _ hS hp]
  simp only [Program.fieldsOf, Tryz.underlying36, Ar.vals]
  go_simp
  obtain ⟨⟨a1, a2, a3, a4⟩, ⟨b1, b2, b3, b4⟩⟩ := p
  obtain ⟨⟨c1, c2, c3, c4⟩, ⟨d1, d2, d3, d4⟩⟩ := q
  by_cases h1 : a1 = c1
  rotate_left; · simp [h1]
  by_cases h2 : a2 = c2
  rotate_left; · simp [h1, h2]
  by_cases h3 : a3 = c3
  rotate_left; · simp [h1, h2, h3]
  by_cases h4 : a4 = c4
  rotate_left; · simp [h1, h2, h3, h4]
  by_cases h5 : b1 = d1
  rotate_left; · simp [h1, h2, h3, h4, h5]
  by_cases h6 : b2 = d2
  rotate_left; · simp [h1, h2, h3, h4, h5, h6]
  by_cases h7 : b3 = d3
  rotate_left; · simp [h1, h2, h3, h4, h5, h6, h7]
  by_cases h8 : b4 = d4 <;> simp [h1, h2, h3, h4, h5, h6, h7, h8]
theorem eqAr36 (p q : Ar) : EqCells Tryz.prog 36 p.cs q.cs (decide (p = q)) := fun g xs ys w h k => by
  rw [h.plain p.vals rfl, k.plain q.vals rfl]; exact eqInA36 9997 p q w

end Go.Proofs.YthhcdmmihjhipaaGreatDoor
