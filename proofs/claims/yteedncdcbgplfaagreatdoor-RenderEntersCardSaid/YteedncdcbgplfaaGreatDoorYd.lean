import Derived.Test.YteedncdcbgplfaaGreatDoorS7
namespace Go.Proofs.YteedncdcbgplfaaGreatDoor
open Go.Proofs.Tryz
open Go Go.RowKit
variable{T t ty:TypeId}{env:Env}{x:AV}{P:Program}{H:Heap}{a b:Prop}{dst:Option Tmp}{pos:String}{af:Array Edge}{gd:Option (Nat×Bool)}{ops:List (Nat×Operand)}{qs:List (Nat×AV)}{zs:List AV}
def agC(t:TypeId):Type:={d:TypeDesc//prog.underlying t=some d}
def aiU(t:TypeId):Type:={k:Nat//∀w,(sizeOf t).run prog w= .ok k w}
def alB(t:TypeId):Type:={b:Bool//∀w,(isAgg t).run prog w= .ok b w}
theorem und [i:Inhabited (agC t)]:prog.underlying t=some i.default.1:=i.default.2
theorem szo [i:Inhabited (aiU t)]:∀w,(sizeOf t).run prog w= .ok i.default.1 w:=i.default.2
theorem agg [i:Inhabited (alB t)]:∀w,(isAgg t).run prog w= .ok i.default.1 w:=i.default.2
instance:Inhabited (agC 3):=⟨⟨_,U3⟩⟩
instance:Inhabited (agC 5):=⟨⟨_,U5⟩⟩
instance:Inhabited (agC 9):=⟨⟨_,U9⟩⟩
instance:Inhabited (agC 22):=⟨⟨_,U22⟩⟩
instance:Inhabited (agC 24):=⟨⟨_,U24⟩⟩
instance:Inhabited (agC 25):=⟨⟨_,U25⟩⟩
instance:Inhabited (agC 27):=⟨⟨_,underlying27⟩⟩
instance:Inhabited (agC 30):=⟨⟨_,U30⟩⟩
instance:Inhabited (agC 32):=⟨⟨_,U32⟩⟩
instance:Inhabited (agC 34):=⟨⟨_,U34⟩⟩
instance:Inhabited (agC 46):=⟨⟨_,underlying46⟩⟩
instance:Inhabited (agC 48):=⟨⟨_,underlying48⟩⟩
instance:Inhabited (agC 50):=⟨⟨_,U50⟩⟩
instance:Inhabited (agC 52):=⟨⟨_,U52⟩⟩
instance:Inhabited (agC 57):=⟨⟨_,U57⟩⟩
instance:Inhabited (agC 61):=⟨⟨_,U61⟩⟩
instance:Inhabited (agC 78):=⟨⟨_,underlying78⟩⟩
instance:Inhabited (agC 79):=⟨⟨_,underlying79⟩⟩
instance:Inhabited (agC 87):=⟨⟨_,U87⟩⟩
instance:Inhabited (agC 89):=⟨⟨_,U89⟩⟩
instance:Inhabited (agC 96):=⟨⟨_,underlying96⟩⟩
instance:Inhabited (agC 106):=⟨⟨_,U106⟩⟩
instance:Inhabited (agC 112):=⟨⟨_,U112⟩⟩
instance:Inhabited (agC 135):=⟨⟨_,U135⟩⟩
instance:Inhabited (agC 145):=⟨⟨_,U145⟩⟩
instance:Inhabited (agC 148):=⟨⟨_,U148⟩⟩
instance:Inhabited (agC 159):=⟨⟨_,U159⟩⟩
instance:Inhabited (agC 174):=⟨⟨_,U174⟩⟩
instance:Inhabited (agC 183):=⟨⟨_,U183⟩⟩
instance:Inhabited (agC 184):=⟨⟨_,U184⟩⟩
instance:Inhabited (agC 186):=⟨⟨_,underlying186⟩⟩
instance:Inhabited (agC 191):=⟨⟨_,underlying191⟩⟩
instance:Inhabited (agC 210):=⟨⟨_,U210⟩⟩
instance:Inhabited (agC 252):=⟨⟨_,U252⟩⟩
instance:Inhabited (agC 256):=⟨⟨_,U256⟩⟩
instance:Inhabited (agC 314):=⟨⟨_,U314⟩⟩
instance:Inhabited (aiU 3):=⟨⟨_,Z3⟩⟩
instance:Inhabited (aiU 4):=⟨⟨_,Z4⟩⟩
instance:Inhabited (aiU 9):=⟨⟨_,Z9⟩⟩
instance:Inhabited (aiU 22):=⟨⟨_,Z22⟩⟩
instance:Inhabited (aiU 24):=⟨⟨_,Z24⟩⟩
instance:Inhabited (aiU 30):=⟨⟨_,Z30⟩⟩
instance:Inhabited (aiU 32):=⟨⟨_,Z32⟩⟩
instance:Inhabited (aiU 34):=⟨⟨_,Z34⟩⟩
instance:Inhabited (aiU 37):=⟨⟨_,sizeOf37⟩⟩
instance:Inhabited (aiU 46):=⟨⟨_,sizeOf46⟩⟩
instance:Inhabited (aiU 48):=⟨⟨_,sizeOf48⟩⟩
instance:Inhabited (aiU 50):=⟨⟨_,Z50⟩⟩
instance:Inhabited (aiU 52):=⟨⟨_,Z52⟩⟩
instance:Inhabited (aiU 57):=⟨⟨_,Z57⟩⟩
instance:Inhabited (aiU 61):=⟨⟨_,Z61⟩⟩
instance:Inhabited (aiU 78):=⟨⟨_,sizeOf78⟩⟩
instance:Inhabited (aiU 87):=⟨⟨_,Z87⟩⟩
instance:Inhabited (aiU 145):=⟨⟨_,sizeOf145⟩⟩
instance:Inhabited (aiU 147):=⟨⟨_,Z147⟩⟩
instance:Inhabited (aiU 148):=⟨⟨_,Z148⟩⟩
instance:Inhabited (aiU 159):=⟨⟨_,Z159⟩⟩
instance:Inhabited (aiU 174):=⟨⟨_,Z174⟩⟩
instance:Inhabited (aiU 183):=⟨⟨_,sizeOf183⟩⟩
instance:Inhabited (aiU 184):=⟨⟨_,sizeOf184⟩⟩
instance:Inhabited (aiU 191):=⟨⟨_,sizeOf191⟩⟩
instance:Inhabited (aiU 256):=⟨⟨_,Z256⟩⟩
instance:Inhabited (alB 3):=⟨⟨_,G3⟩⟩
instance:Inhabited (alB 4):=⟨⟨_,isAgg4⟩⟩
instance:Inhabited (alB 5):=⟨⟨_,G5⟩⟩
instance:Inhabited (alB 9):=⟨⟨_,G9⟩⟩
instance:Inhabited (alB 22):=⟨⟨_,G22⟩⟩
instance:Inhabited (alB 24):=⟨⟨_,isAgg24⟩⟩
instance:Inhabited (alB 30):=⟨⟨_,G30⟩⟩
instance:Inhabited (alB 32):=⟨⟨_,G32⟩⟩
instance:Inhabited (alB 34):=⟨⟨_,isAgg34⟩⟩
instance:Inhabited (alB 46):=⟨⟨_,isAgg46⟩⟩
instance:Inhabited (alB 48):=⟨⟨_,isAgg48⟩⟩
instance:Inhabited (alB 50):=⟨⟨_,G50⟩⟩
instance:Inhabited (alB 52):=⟨⟨_,isAgg52⟩⟩
instance:Inhabited (alB 57):=⟨⟨_,isAgg57⟩⟩
instance:Inhabited (alB 61):=⟨⟨_,G61⟩⟩
instance:Inhabited (alB 78):=⟨⟨_,isAgg78⟩⟩
instance:Inhabited (alB 87):=⟨⟨_,isAgg87⟩⟩
instance:Inhabited (alB 148):=⟨⟨_,G148⟩⟩
instance:Inhabited (alB 159):=⟨⟨_,isAgg159⟩⟩
instance:Inhabited (alB 174):=⟨⟨_,isAgg174⟩⟩
instance:Inhabited (alB 184):=⟨⟨_,isAgg184⟩⟩
instance:Inhabited (alB 191):=⟨⟨_,isAgg191⟩⟩
instance:Inhabited (alB 210):=⟨⟨_,G210⟩⟩
instance:Inhabited (alB 256):=⟨⟨_,isAgg256⟩⟩
instance:Inhabited (agC 69):=⟨⟨_,U69⟩⟩
instance:Inhabited (agC 120):=⟨⟨_,U120⟩⟩
instance:Inhabited (agC 127):=⟨⟨_,U127⟩⟩
instance:Inhabited (agC 220):=⟨⟨_,U220⟩⟩
instance:Inhabited (agC 222):=⟨⟨_,U222⟩⟩
instance:Inhabited (agC 324):=⟨⟨_,U324⟩⟩
instance:Inhabited (agC 353):=⟨⟨_,U353⟩⟩
instance:Inhabited (agC 354):=⟨⟨_,underlying354⟩⟩
instance:Inhabited (aiU 25):=⟨⟨_,Z25⟩⟩
instance:Inhabited (aiU 69):=⟨⟨_,sizeOf69⟩⟩
instance:Inhabited (aiU 117):=⟨⟨_,sizeOf117⟩⟩
instance:Inhabited (aiU 127):=⟨⟨_,sizeOf127⟩⟩
instance:Inhabited (aiU 220):=⟨⟨_,Z220⟩⟩
instance:Inhabited (aiU 222):=⟨⟨_,Z222⟩⟩
instance:Inhabited (aiU 324):=⟨⟨_,Z324⟩⟩
instance:Inhabited (aiU 353):=⟨⟨_,sizeOf353⟩⟩
instance:Inhabited (aiU 354):=⟨⟨_,sizeOf354⟩⟩
instance:Inhabited (alB 25):=⟨⟨_,G25⟩⟩
instance:Inhabited (alB 69):=⟨⟨_,isAgg69⟩⟩
instance:Inhabited (alB 117):=⟨⟨_,isAgg117⟩⟩
instance:Inhabited (alB 127):=⟨⟨_,isAgg127⟩⟩
instance:Inhabited (alB 220):=⟨⟨_,isAgg220⟩⟩
instance:Inhabited (alB 222):=⟨⟨_,isAgg222⟩⟩
instance:Inhabited (alB 324):=⟨⟨_,isAgg324⟩⟩
theorem EX{o:Operand}(h:Ev env o x:=by first|exact tm rfl|exact zJ|exact zT|exact zO rfl):Ev env o x:=h
theorem AP{o:Oper}(h:APure P o env x:=by first
  |((with_reducible apply zG);exact EX)
  |((with_reducible apply zE);exact EX)
  |((with_reducible apply zW);exact agg;exact EX)
  |((with_reducible apply zA);exact und;rfl;exact szo;exact EX)
  |((with_reducible apply yR);exact EX;(first|rfl|assumption);exact EX)
  |((with_reducible apply yI);exact EX;(first|rfl|assumption);exact EX)
  |((with_reducible apply aaW);exact EX;rfl)
  |((with_reducible apply yZ);exact EX;exact EX;omega)
  |((with_reducible apply acE);exact EX;exact EX)
  |((with_reducible apply aaH);exact EX;exact EX)
  |((with_reducible apply afE);exact agg;exact szo;exact EX;exact lB rfl)
  |((with_reducible apply zC);exact und;rfl;exact szo;exact EX)
  |((with_reducible apply abH);exact EX;exact EX)
  |((with_reducible apply bbL);exact und;exact EX)
  |((with_reducible apply abG);exact EX)
  |((with_reducible apply qK);exact EX;exact EX;omega)
  |((with_reducible apply acK);exact EX)
  |((with_reducible apply qB);exact und;exact EX)
  |((with_reducible apply aaP);exact und;exact EX)
  |((with_reducible apply alJ);exact und;exact szo;exact EX;exact EX;omega;omega)
  |((with_reducible apply ajS);exact EX;exact EX)
  |((with_reducible apply alK);exact EX;exact EX)
  |((with_reducible apply agL);exact EX)
  |((with_reducible apply qD);exact und;exact und;exact EX;exact wrapN64 aA)
  |((with_reducible apply zE);exact aeH (sz:=1) (tl:=.full))
  |((with_reducible apply bfK);exact und;exact szo;exact EX;exact EX;omega;omega)
  |((with_reducible apply apP);exact EX;exact EX)
  |((with_reducible apply biX);exact EX;omega)
  |((with_reducible apply apQ);exact EX;exact EX)
  |((with_reducible apply qQ);exact und;exact EX;exact EX;omega;omega)
  |((with_reducible apply bfH);exact EX;exact EX)
  |((with_reducible apply aaT);exact und;rfl;exact EX)
  |((with_reducible apply agO);exact und;exact EX;exact EX;omega;omega)
  |((with_reducible apply aaJ);exact und;exact EX;exact EX;exact EX;omega;omega;omega)
  |((with_reducible apply arP);exact EX;exact EX)
  |((with_reducible apply agP);exact und;exact EX;exact EX;omega;omega)
  |((with_reducible apply qF);exact EX;exact EX;omega)
  |((with_reducible apply qD);exact und;exact und;exact EX;exact wrapNI64 aA)
  |((with_reducible apply bsU);exact EX;exact EX)
  |((with_reducible apply qS);exact und;exact szo;exact EX;exact EX;omega;omega)
  |((with_reducible apply axX);exact EX;exact EX;omega)
  |((with_reducible apply amI);exact und;exact szo;exact EX;exact EX;omega;omega)
  |((with_reducible apply amH);exact und;exact szo;exact EX;exact EX;omega;omega)
  |((with_reducible apply bmZ);exact EX)
  |((with_reducible apply qF);exact EX;exact EX;(first|rfl|assumption))
  |((with_reducible apply amJ);exact EX;exact EX;omega)
  |((with_reducible apply qL);exact und;exact szo;exact EX;exact EX;omega;omega)
  |((with_reducible apply acX);exact und;exact und;rfl;exact EX)
  |((with_reducible apply aiZ);exact und;exact EX)
  |((with_reducible apply bmU);exact EX;exact EX)
  |((with_reducible apply aaM);exact EX;exact EX;(first|rfl|assumption))
  |((with_reducible apply abK);exact EX;exact EX;(first|rfl|assumption);omega)
  |((with_reducible apply adP);exact EX;exact EX;omega)
  ):APure P o env x:=h
theorem AWP.cx{n:Fr}{Q:Exit→Env→Heap→Prop}{t:Tmp}{a b:Code}{c:Bool}{p q:Prop}(hc:Env.get? env t=some (.bool c))(ht:p→AWP P n a Q env H)(hf:q→AWP P n b Q env H)
  (hp:c=true→p:=by intro h;(try simp only[aL]at h);exact h)
  (hq:c=false→q:=by intro h;(try simp only[aL]at h);exact h):AWP P n (.cond (.tmp t) a b) Q env H:=
 AWP.cond (tm hc) (λh=>ht (hp h)) (λh=>hf (hq h))
theorem sX{e f:Env}(h:Env.sub e f:=by repeat first|exact yF|refine zK rfl ?_):Env.sub e f:=h
section
variable{P:Program}{R:AV→Heap→Prop}{env:Env}{H:Heap}{t u v:Tmp}{x y z:AV}{T:TypeId}{k:Nat}{cs:List AV}
theorem rgo1(h:Env.get? env t=some x)(q:R (yT [x]) H):Ret.q P [.tmp t] R .ret env H:=Ret.go (.cons (.tmp _ _ h) .nil) _ (hRa _) q
theorem rgo2(h:Env.get? env t=some x)(h2:Env.get? env u=some y)(q:R (yT [x,y]) H):Ret.q P [.tmp t,.tmp u] R .ret env H:=Ret.go (.cons (.tmp _ _ h) (.cons (.tmp _ _ h2) .nil)) _ (hRa _) q
theorem rgo3(h:Env.get? env t=some x)(h2:Env.get? env u=some y)(h3:Env.get? env v=some z)(q:R (yT [x,y,z]) H):Ret.q P [.tmp t,.tmp u,.tmp v] R .ret env H:=Ret.go (.cons (.tmp _ _ h) (.cons (.tmp _ _ h2) (.cons (.tmp _ _ h3) .nil))) _ (hRa _) q
theorem rgc1(h:Env.get? env t=some (.iptr cs))(ha:∀w,(isAgg T).run P w= .ok true w)(hs:∀w,(sizeOf T).run P w= .ok k w)(hk:Nat.ble k cs.length=true)(q:R (yT [.agg (cs.take k)]) H):Ret.q P [.cell t T] R .ret env H:=Ret.go (.cons (.cellI _ _ _ _ h ha hs hk) .nil) _ (hRa _) q
theorem rgc2(h:Env.get? env t=some (.iptr cs))(ha:∀w,(isAgg T).run P w= .ok true w)(hs:∀w,(sizeOf T).run P w= .ok k w)(hk:Nat.ble k cs.length=true)(h2:Env.get? env u=some y)(q:R (yT [.agg (cs.take k),y]) H):Ret.q P [.cell t T,.tmp u] R .ret env H:=Ret.go (.cons (.cellI _ _ _ _ h ha hs hk) (.cons (.tmp _ _ h2) .nil)) _ (hRa _) q
theorem rgc3(h:Env.get? env t=some (.iptr cs))(ha:∀w,(isAgg T).run P w= .ok true w)(hs:∀w,(sizeOf T).run P w= .ok k w)(hk:Nat.ble k cs.length=true)(h2:Env.get? env u=some y)(h3:Env.get? env v=some z)(q:R (yT [.agg (cs.take k),y,z]) H):Ret.q P [.cell t T,.tmp u,.tmp v] R .ret env H:=Ret.go (.cons (.cellI _ _ _ _ h ha hs hk) (.cons (.tmp _ _ h2) (.cons (.tmp _ _ h3) .nil))) _ (hRa _) q
end
section
variable{P:Program}{n:Fr}{ops:Array Oper}{Q:Exit→Env→Heap→Prop}{env:Env}{H:Heap}{l:List Oper}{ty:TypeId}{pos:String}{af:Array Edge}
theorem AList.stS{S:TypeId}{p x:Operand}{b o k:Nat}{cs:List AV}{y:AV}(hs:∀w,(sizeOf T).run P w= .ok k w)(hp:Ev env p (.ptr (some ⟨b,o,none⟩)))(hx:Ev env x y)
  (hy:y.cells.all AV.one=true)(hyk:y.cells.length=k)(hy1:y.one=true∨∃cs,y= .agg cs)(hk:o+k≤cs.length)(q:AList P n ops Q l env (H.set b (.box S (putRow cs o y.cells)))):AList P n ops Q (⟨none,.store T p x,ty,pos,af,none⟩::l) env (H.set b (.box S cs)):=
 AList.e0 (zL hs hp hx hy hyk hy1 (oS _ _ _) hk) (by rw[sS];exact q)
theorem AList.stU{S:TypeId}{p x:Operand}{b c o k:Nat}{cs:List AV}{y:AV}{z:AObj}(hbc:b≠c)(hs:∀w,(sizeOf T).run P w= .ok k w)(hp:Ev env p (.ptr (some ⟨b,o,none⟩)))(hx:Ev env x y)
  (hy:y.cells.all AV.one=true)(hyk:y.cells.length=k)(hy1:y.one=true∨∃cs,y= .agg cs)(hk:o+k≤cs.length)(q:AList P n ops Q l env ((H.set b (.box S (putRow cs o y.cells))).set c z)):AList P n ops Q (⟨none,.store T p x,ty,pos,af,none⟩::l) env ((H.set b (.box S cs)).set c z):=
 AList.e0 (zL hs hp hx hy hyk hy1 ((oN _ _ hbc).trans (oS _ _ _)) hk) (by rw[sU hbc];exact q)
end
theorem evN{k:IntKind}{n:Nat}:Ev env (.const (.int k (OfNat.ofNat n))) (.int k ((OfNat.ofNat n:Nat):Int)):=yB n
theorem EN{o:Operand}(h:Ev env o x:=by first|exact tm rfl|exact evN):Ev env o x:=h
theorem APN{o:Oper}(h:APure P o env x:=by first
  |((with_reducible apply zE);exact EN)
  |((with_reducible apply acE);exact EN;exact EN)
  |((with_reducible apply zE);exact aeH (sz:=1) (tl:=.shared))
  |((with_reducible apply anV);exact EN;exact EN;omega)
  |((with_reducible apply aaM);exact EN;exact EN;(first|rfl|assumption))
  |((with_reducible apply bfG);exact EN;exact EN;omega;omega)
  |((with_reducible apply abH);exact EN;exact EN)
  |((with_reducible apply yZ);exact EN;exact EN;omega)
  |((with_reducible apply ajS);exact EN;exact EN)
  |((with_reducible apply alI);exact EN;exact EN;omega)
  |((with_reducible apply qK);exact EN;exact EN;omega)
  |((with_reducible apply aaH);exact EN;exact EN)
  |((with_reducible apply apP);exact EN;exact EN)
  |((with_reducible apply qF);exact EN;exact EN;omega)
  |((with_reducible apply adQ);exact EN;exact EN;omega;omega)
  |((with_reducible apply aaM);exact EN;exact EN;omega)
  |((with_reducible apply adQ);exact EN;exact EN;(first|rfl|assumption);omega)
  ):APure P o env x:=h
theorem AXh(h:a→b:=by first
  |((with_reducible apply AList.p);rfl;exact AP)
  |((with_reducible apply AList.gn);rfl;rfl;rfl;(first|rfl|assumption))
  |((with_reducible exact AList.nil))
  |((with_reducible exact Next.go))
  |((with_reducible exact AWP.seq))
  |((with_reducible exact AWP.region))
  |((with_reducible exact AWP.skip))
  |((with_reducible apply AList.gp);rfl;rfl;rfl;(first|rfl|assumption);exact AP)
  |((with_reducible exact AWP.ret))
  |((with_reducible apply rgo1);rfl)
  |((with_reducible apply rgo2);rfl;rfl)
  |((with_reducible apply rgo3);rfl;rfl;rfl)
  |((with_reducible apply rgc1);rfl;exact agg;exact szo;rfl)
  |((with_reducible apply rgc2);rfl;exact agg;exact szo;rfl;rfl)
  |((with_reducible apply rgc3);rfl;exact agg;exact szo;rfl;rfl;rfl)
  |((with_reducible apply AList.stS);exact szo;exact tm rfl;(first|exact tm rfl|exact zJ|exact zT|exact zO rfl);rfl;rfl;(first|exact .inl rfl|exact .inr ⟨_,rfl⟩);exact lB rfl)
  |((with_reducible apply AList.stU);assumption;exact szo;exact tm rfl;(first|exact tm rfl|exact zJ|exact zT|exact zO rfl);rfl;rfl;(first|exact .inl rfl|exact .inr ⟨_,rfl⟩);exact lB rfl)
  |((with_reducible apply AList.e);rfl;exact qA agg szo (tm rfl) (by first|assumption|exact oS _ _ _|exact(oN _ _ aB).trans (oS _ _ _)|exact(by assumption:Heap.le _ _).objs _ _ aB) (lB rfl))
  |((with_reducible apply AList.e);rfl;exact zM agg (tm rfl) (by first|assumption|exact oS _ _ _|exact(oN _ _ aB).trans (oS _ _ _)|exact(by assumption:Heap.le _ _).objs _ _ aB) rfl)
  |((with_reducible apply AList.e);rfl;exact acJ (tm rfl) (by first|exact .inl rfl|exact .inr ⟨_,rfl⟩))
  |((with_reducible exact Next.rt))
  |((with_reducible exact Next.ex))
  |((with_reducible exact Block.rt))
  |((with_reducible exact Block.hit))
  |((with_reducible exact Block.go))
  |((with_reducible apply Block.miss);rfl)
  |((with_reducible exact AWP.block))
  |((with_reducible exact AWP.exit))
  |((with_reducible exact AWP.label))
  |((with_reducible apply AList.gdead);rfl;rfl;rfl)
  |((with_reducible apply APlan.p);rfl;rfl;exact AP)
  |((with_reducible apply APlan.gn);rfl;rfl;rfl;rfl;(first|rfl|assumption))
  |((with_reducible exact APlan.nil))
  |((with_reducible apply APlan.gp);rfl;rfl;rfl;rfl;(first|rfl|assumption);exact AP)
  |((with_reducible apply APlan.gdead);rfl;rfl;rfl;rfl)
  |((with_reducible apply APlanI.p);rfl;rfl;exact AP)
  |((with_reducible apply APlanI.gn);rfl;rfl;rfl;rfl;(first|rfl|assumption))
  |((with_reducible exact APlanI.nil))
  |((with_reducible apply APlanI.gp);rfl;rfl;rfl;rfl;(first|rfl|assumption);exact AP)
  |((with_reducible apply APlanI.gdead);rfl;rfl;rfl;rfl)
  ):a→b:=h
theorem AX(k:a)(h:a→b:=by exact AXh):b:=h k
theorem AMh(h:a→b:=by first
  |((with_reducible apply AList.p);rfl;exact APN)
  |((with_reducible apply AList.gp);rfl;rfl;rfl;(first|rfl|assumption);exact APN)
  |((with_reducible apply APlan.p);rfl;rfl;exact APN)
  |((with_reducible apply APlan.gp);rfl;rfl;rfl;rfl;(first|rfl|assumption);exact APN)
  |((with_reducible apply APlanI.p);rfl;rfl;exact APN)
  |((with_reducible apply APlanI.gp);rfl;rfl;rfl;rfl;(first|rfl|assumption);exact APN)
  |exact AXh):a→b:=h
theorem AM(k:a)(h:a→b:=by exact AMh):b:=h k
set_option maxRecDepth 100000
def ZR(T:TypeId)(cs:List AV):Prop:=∃z:Value,(∀w,(zeroValue T).run prog w= .ok z w)∧∀g,RelCells g cs z.cells
theorem ZRi{cs:List AV}{z:Value}(hz:∀w,(zeroValue T).run prog w= .ok z w){vs:List Value}(e:z.cells=vs.toArray:=by rfl)
  (h:∀g,RelL g cs vs:=by intro g;repeat first|exact .nil|refine .cons (.int _ _) ?_ |refine .cons (.bool _) ?_ |refine .cons (.ptr _) ?_ |refine .cons (.str [] (Nat.zero_le _)) ?_ |refine .cons (.nilSlice _ _) ?_):ZR T cs:=⟨z,hz,λg=>e▸RelL.cells (h g)⟩
def SzL:List Field→List (Nat×Nat)→Prop
 | [],[]=>True
 |f::fs,p::ps=>f.offset=p.1∧(∀w,(sizeOf f.type).run prog w= .ok p.2 w)∧SzL fs ps
 |_,_=>False
theorem SzL.off:∀{fs:List Field}{ps:List (Nat×Nat)},SzL fs ps→fs.map (·.offset)=ps.map (·.1)
 | [],[],_=>rfl
 |f::fs,p::ps,h=>by rw[dX,dX,h.1,SzL.off h.2.2]
 | [],_::_,h=>h.elim
 |_::_,[],h=>h.elim
theorem SzL.sz:∀{fs:List Field}{ps:List (Nat×Nat)},SzL fs ps→∀(i:Nat) f p,fs[i]?=some f→ps[i]?=some p→∀w,(sizeOf f.type).run prog w= .ok p.2 w
 | [],_,_,i,f,p,hf,_=>by simp at hf
 |_::_,[],h,_,_,_,_,_=>h.elim
 |f::fs,p::ps,h,0,_,_,hf,hp=>by cases hf;cases hp;exact h.2.1
 |f::fs,p::ps,h,i+1,_,_,hf,hp=>SzL.sz h.2.2 i _ _ hf hp
def PL(T:TypeId)(ps:List (Nat×Nat)):Prop:=∃fs:Array Field,prog.underlying T=some (.struct fs)∧SzL fs.toList ps
theorem PLi{fs:Array Field}{ps:List (Nat×Nat)}(hu:prog.underlying T=some (.struct fs))(h:SzL fs.toList ps:=by repeat first|exact True.intro|refine⟨rfl,szo,?_⟩):PL T ps:=⟨fs,hu,h⟩
theorem yU{cs:List AV}{places:List (Nat×Nat)}(hz:ZR T zs)(hp:PL T places)
  (hq:Parts env ops qs)(hf:aiR (places[·]?) zs qs=some cs:=by rfl):APure prog ⟨dst,.build T ops.toArray,ty,pos,af,gd⟩ env (.agg cs):=
 let⟨_,hz,hc⟩:=hz;let⟨_,hu,hs⟩:=hp
 yY places hu hz hc hs.off (λi f p hf=>hs.sz i f p (by rw[eR];exact hf)) hq hf
theorem aiC{cs:List AV}{places:List (Nat×Nat)}(hz:ZR T zs)(hp:PL T places)
  (hq:Parts env ops qs)(hf:aiX places 0 0 qs=some cs:=by rfl)(hl:Nat.beq cs.length zs.length=true:=by rfl):APure prog ⟨dst,.build T ops.toArray,ty,pos,af,gd⟩ env (.agg cs):=
 let⟨_,hz,hc⟩:=hz;let⟨_,hu,hs⟩:=hp
 bfL places hu hz hc hs.off (λi f p hf=>hs.sz i f p (by rw[eR];exact hf)) hq hf hl
theorem AList.al{n:Fr}{ops:Array Oper}{Q:Exit→Env→Heap→Prop}{l:List Oper}{d:Tmp}{cs:List AV}(hz:ZR T cs)(k:∀b,H.objs b=none→AList prog n ops Q l ((d,.ptr (some ⟨b,0,none⟩))::env) (H.set b (.box T cs)))(hd:Nat.blt d n.size=true:=by rfl):AList prog n ops Q (⟨some d,.alloc T,ty,pos,af,none⟩::l) env H:=
 let⟨_,hz,hc⟩:=hz
 AList.s hd (adK hz hc) λ_ _ ⟨b,hb,e1,e2⟩=>by subst e1;subst e2;exact k b hb
theorem adL{cs:List AV}(hz:ZR T cs):AStep prog ⟨dst,.alloc T,ty,pos,af,gd⟩ env H (λy H'=>∃b,H.objs b=none∧y= .ptr (some ⟨b,0,none⟩)∧H'=H.set b (.box T cs)):=
 let⟨_,hz,hc⟩:=hz;adK hz hc
theorem ajT{E:TypeId}{N sz:Nat}{cs:List AV}(hu:prog.underlying T=some (.array N E))(hE:∀w,(sizeOf E).run prog w= .ok sz w)(hz:ZR T zs)
  (hq:Parts env ops qs)(hf:aiR (λi=>some (i*sz,sz)) zs qs=some cs:=by rfl):APure prog ⟨dst,.build T ops.toArray,ty,pos,af,gd⟩ env (.agg cs):=
 let⟨_,hz,hc⟩:=hz;bfM hu hE hz hc hq hf
end Go.Proofs.YteedncdcbgplfaaGreatDoor
