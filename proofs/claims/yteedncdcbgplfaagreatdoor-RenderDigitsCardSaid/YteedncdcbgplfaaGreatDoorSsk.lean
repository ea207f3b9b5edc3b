import Derived.Test.YteedncdcbgplfaaGreatDoorS4
namespace Go.Proofs.YteedncdcbgplfaaGreatDoor
open Go.Proofs.Tryz
open Go Go.RowKit
variable{a d t:Tmp}
section
variable{P:Program}{n:Fr}{ops:Array Oper}{Q:Exit→Env→Heap→Prop}{env:Env}{H:Heap}{l:List Oper}{op:Op}{ty:TypeId}{pos:String}{af:Array Edge}{x:AV}
theorem tm(h:Env.get? env t=some x):Ev env (.tmp t) x:=.tmp _ _ h
theorem evs1{x:AV}(h:Env.get? env a=some x):Evs env [.tmp a] [x]:=.cons (tm h) .nil
theorem evs2{b:Tmp}{x y:AV}(h:Env.get? env a=some x)(k:Env.get? env b=some y):Evs env [.tmp a,.tmp b] [x,y]:=.cons (tm h) (evs1 k)
theorem evs3{b c:Tmp}{x y z:AV}(h:Env.get? env a=some x)(k:Env.get? env b=some y)(m:Env.get? env c=some z):Evs env [.tmp a,.tmp b,.tmp c] [x,y,z]:=.cons (tm h) (evs2 k m)
theorem AList.mv(hd:Nat.blt d n.size=true)(h:Env.get? env t=some x)(k:AList P n ops Q l ((d,x)::env) H):AList P n ops Q (⟨some d,.move (.tmp t),ty,pos,af,none⟩::l) env H:=
 AList.p hd (zG (tm h)) k
theorem AList.as(hd:Nat.blt d n.size=true)(h:Env.get? env t=some x)(k:AList P n ops Q l ((d,x)::env) H):AList P n ops Q (⟨some d,.assign (.tmp t),ty,pos,af,none⟩::l) env H:=
 AList.p hd (zE (tm h)) k
theorem AList.e{H':Heap}(hd:Nat.blt d n.size=true)(h:AStep P ⟨some d,op,ty,pos,af,none⟩ env H (λy K=>y=x∧K=H'))(k:AList P n ops Q l ((d,x)::env) H'):AList P n ops Q (⟨some d,op,ty,pos,af,none⟩::l) env H:=
 AList.s hd h λ_ _ ⟨e1,e2⟩=>by subst e1;subst e2;exact k
theorem AList.e0{H':Heap}(h:AStep P ⟨none,op,ty,pos,af,none⟩ env H (λy K=>y=x∧K=H'))(k:AList P n ops Q l env H'):AList P n ops Q (⟨none,op,ty,pos,af,none⟩::l) env H:=
 AList.s0 h λ_ _ ⟨e1,e2⟩=>by subst e1;subst e2;exact k
theorem AList.cl{f:FuncId}{os:Array Operand}{xs:List AV}{ts:Array TypeId}(hd:Nat.blt d n.size=true)(hent:∀args w,(callFunc f args).run P w= .ok (.enter f args) w)(ha:Evs env os.toList xs)(h:ACall P f xs H (λy K=>y=x∧K=H))
  (k:AList P n ops Q l ((d,x)::env) H):AList P n ops Q (⟨some d,.call {callee:=.value (.func f),args:=os,argTypes:=ts},ty,pos,af,none⟩::l) env H:=
 AList.e hd (zB hent ha h) k
theorem AWP.sr{id:Nat}{y:Code}(h:AList P n l.toArray (Next.q (AWP P n y Q) Q) l env H):AWP P n (.seq (.region id l.toArray false) y) Q env H:=AWP.seq (AWP.region h)
theorem AList.ng{N:Env→Heap→Prop}(h:N env H):AList P n ops (Next.q N Q) [] env H:=AList.nil (Next.go h)
theorem AList.nr{id:Nat}{Q':Exit→Env→Heap→Prop}{l':List Oper}{y:Code}(h:AList P n l'.toArray (Next.q (AWP P n y Q') Q') l' env H):AList P n ops (Next.q (AWP P n (.seq (.region id l'.toArray false) y) Q') Q) [] env H:=AList.ng (AWP.sr h)
theorem AWP.cd{a b:Code}{p:Prop}[Decidable p](hc:Env.get? env t=some (.bool (decide p)))(ht:p→AWP P n a Q env H)(hf:¬p→AWP P n b Q env H):AWP P n (.cond (.tmp t) a b) Q env H:=
 AWP.cond (tm hc) (λh=>ht (of_decide_eq_true h)) (λh=>hf (of_decide_eq_false h))
end
end Go.Proofs.YteedncdcbgplfaaGreatDoor
