import Derived.Test.YtmmgbnolccpjoaaGreatDoorSsk
import Derived.Test.YtmmgbnolccpjoaaGreatDoorS6
namespace Go.Proofs.YtmmgbnolccpjoaaGreatDoor
open Go.Proofs.Tryz
open Go Go.RowKit
variable{T t ty:TypeId}{env:Env}{x:AV}{P:Program}{n:Nat}{Q:Exit→Env→Heap→Prop}{H:Heap}{a b:Prop}{dst:Option Tmp}{pos:String}{af:Array Edge}{gd:Option (Nat×Bool)}{ops:List (Nat×Operand)}{qs:List (Nat×AV)}{zs:List AV}
def alQ(t:TypeId):Type:={d:TypeDesc//prog.underlying t=some d}
def arM(t:TypeId):Type:={k:Nat//∀w,(sizeOf t).run prog w= .ok k w}
def awB(t:TypeId):Type:={b:Bool//∀w,(isAgg t).run prog w= .ok b w}
theorem und [i:Inhabited (alQ t)]:prog.underlying t=some i.default.1:=i.default.2
theorem szo [i:Inhabited (arM t)]:∀w,(sizeOf t).run prog w= .ok i.default.1 w:=i.default.2
theorem agg [i:Inhabited (awB t)]:∀w,(isAgg t).run prog w= .ok i.default.1 w:=i.default.2
instance:Inhabited (alQ 3):=⟨⟨_,U3⟩⟩
instance:Inhabited (alQ 4):=⟨⟨_,U4⟩⟩
instance:Inhabited (alQ 5):=⟨⟨_,U5⟩⟩
instance:Inhabited (alQ 9):=⟨⟨_,U9⟩⟩
instance:Inhabited (alQ 22):=⟨⟨_,U22⟩⟩
instance:Inhabited (alQ 24):=⟨⟨_,U24⟩⟩
instance:Inhabited (alQ 27):=⟨⟨_,U27⟩⟩
instance:Inhabited (alQ 29):=⟨⟨_,U29⟩⟩
instance:Inhabited (alQ 31):=⟨⟨_,U31⟩⟩
instance:Inhabited (alQ 51):=⟨⟨_,U51⟩⟩
instance:Inhabited (alQ 58):=⟨⟨_,U58⟩⟩
instance:Inhabited (alQ 69):=⟨⟨_,underlying69⟩⟩
instance:Inhabited (alQ 74):=⟨⟨_,U74⟩⟩
instance:Inhabited (alQ 76):=⟨⟨_,U76⟩⟩
instance:Inhabited (alQ 79):=⟨⟨_,U79⟩⟩
instance:Inhabited (alQ 102):=⟨⟨_,underlying102⟩⟩
instance:Inhabited (alQ 107):=⟨⟨_,U107⟩⟩
instance:Inhabited (alQ 118):=⟨⟨_,U118⟩⟩
instance:Inhabited (alQ 123):=⟨⟨_,U123⟩⟩
instance:Inhabited (alQ 130):=⟨⟨_,U130⟩⟩
instance:Inhabited (alQ 139):=⟨⟨_,U139⟩⟩
instance:Inhabited (alQ 142):=⟨⟨_,U142⟩⟩
instance:Inhabited (alQ 149):=⟨⟨_,U149⟩⟩
instance:Inhabited (alQ 166):=⟨⟨_,U166⟩⟩
instance:Inhabited (alQ 184):=⟨⟨_,U184⟩⟩
instance:Inhabited (alQ 208):=⟨⟨_,U208⟩⟩
instance:Inhabited (alQ 239):=⟨⟨_,U239⟩⟩
instance:Inhabited (alQ 247):=⟨⟨_,U247⟩⟩
instance:Inhabited (alQ 251):=⟨⟨_,U251⟩⟩
instance:Inhabited (alQ 252):=⟨⟨_,U252⟩⟩
instance:Inhabited (alQ 327):=⟨⟨_,U327⟩⟩
instance:Inhabited (arM 3):=⟨⟨_,Z3⟩⟩
instance:Inhabited (arM 4):=⟨⟨_,Z4⟩⟩
instance:Inhabited (arM 5):=⟨⟨_,Z5⟩⟩
instance:Inhabited (arM 9):=⟨⟨_,Z9⟩⟩
instance:Inhabited (arM 22):=⟨⟨_,Z22⟩⟩
instance:Inhabited (arM 24):=⟨⟨_,Z24⟩⟩
instance:Inhabited (arM 27):=⟨⟨_,Z27⟩⟩
instance:Inhabited (arM 29):=⟨⟨_,Z29⟩⟩
instance:Inhabited (arM 31):=⟨⟨_,Z31⟩⟩
instance:Inhabited (arM 58):=⟨⟨_,Z58⟩⟩
instance:Inhabited (arM 76):=⟨⟨_,Z76⟩⟩
instance:Inhabited (arM 79):=⟨⟨_,Z79⟩⟩
instance:Inhabited (arM 120):=⟨⟨_,sizeOf120⟩⟩
instance:Inhabited (arM 130):=⟨⟨_,sizeOf130⟩⟩
instance:Inhabited (arM 149):=⟨⟨_,Z149⟩⟩
instance:Inhabited (arM 184):=⟨⟨_,Z184⟩⟩
instance:Inhabited (arM 208):=⟨⟨_,Z208⟩⟩
instance:Inhabited (arM 239):=⟨⟨_,Z239⟩⟩
instance:Inhabited (arM 247):=⟨⟨_,Z247⟩⟩
instance:Inhabited (arM 251):=⟨⟨_,Z251⟩⟩
instance:Inhabited (arM 252):=⟨⟨_,sizeOf252⟩⟩
instance:Inhabited (awB 3):=⟨⟨_,G3⟩⟩
instance:Inhabited (awB 4):=⟨⟨_,G4⟩⟩
instance:Inhabited (awB 5):=⟨⟨_,G5⟩⟩
instance:Inhabited (awB 9):=⟨⟨_,G9⟩⟩
instance:Inhabited (awB 22):=⟨⟨_,G22⟩⟩
instance:Inhabited (awB 24):=⟨⟨_,G24⟩⟩
instance:Inhabited (awB 27):=⟨⟨_,isAgg27⟩⟩
instance:Inhabited (awB 29):=⟨⟨_,G29⟩⟩
instance:Inhabited (awB 31):=⟨⟨_,isAgg31⟩⟩
instance:Inhabited (awB 58):=⟨⟨_,isAgg58⟩⟩
instance:Inhabited (awB 76):=⟨⟨_,isAgg76⟩⟩
instance:Inhabited (awB 79):=⟨⟨_,isAgg79⟩⟩
instance:Inhabited (awB 120):=⟨⟨_,isAgg120⟩⟩
instance:Inhabited (awB 130):=⟨⟨_,isAgg130⟩⟩
instance:Inhabited (awB 149):=⟨⟨_,isAgg149⟩⟩
instance:Inhabited (awB 166):=⟨⟨_,G166⟩⟩
instance:Inhabited (awB 184):=⟨⟨_,isAgg184⟩⟩
instance:Inhabited (awB 208):=⟨⟨_,isAgg208⟩⟩
instance:Inhabited (awB 239):=⟨⟨_,isAgg239⟩⟩
instance:Inhabited (awB 247):=⟨⟨_,isAgg247⟩⟩
instance:Inhabited (arM 71):=⟨⟨_,sizeOf71⟩⟩
instance:Inhabited (alQ 161):=⟨⟨_,U161⟩⟩
instance:Inhabited (arM 107):=⟨⟨_,Z107⟩⟩
instance:Inhabited (arM 161):=⟨⟨_,Z161⟩⟩
instance:Inhabited (awB 107):=⟨⟨_,isAgg107⟩⟩
instance:Inhabited (awB 161):=⟨⟨_,isAgg161⟩⟩
theorem EX{o:Operand}(h:Ev env o x:=by first|exact tm rfl|exact zH|exact yK|exact zO rfl):Ev env o x:=h
theorem AP{o:Oper}(h:APure P o env x:=by first
  |((with_reducible apply zT);exact EX)
  |((with_reducible apply zP);exact EX)
  |((with_reducible apply yL);exact EX;rfl)
  |((with_reducible apply qH);exact agg;exact EX)
  |((with_reducible apply zA);exact und;rfl;exact szo;exact EX)
  |((with_reducible apply qY);exact EX;(first|rfl|assumption);exact EX)
  |((with_reducible apply yS);exact EX;(first|rfl|assumption);exact EX)
  |((with_reducible apply zD);exact und;rfl;exact szo;exact EX)
  |((with_reducible apply aeE);exact EX;exact EX)
  |((with_reducible apply apH);exact agg;exact szo;exact EX;exact lB rfl)
  |((with_reducible apply ahJ);exact EX;exact EX;omega)
  |((with_reducible apply baQ);exact EX;exact EX)
  |((with_reducible apply adK);exact EX;exact EX;omega)
  |((with_reducible apply anR);exact und;exact EX)
  |((with_reducible apply aaK);exact EX)
  |((with_reducible apply afS);exact EX;exact EX)
  |((with_reducible apply atY);exact und;exact EX)
  |((with_reducible apply adL);exact EX;exact EX)
  |((with_reducible apply bjC);exact EX;exact EX)
  |((with_reducible apply afT);exact EX;exact EX)
  |((with_reducible apply baP);exact EX)
  |((with_reducible apply aaD);exact und;exact und;exact EX;exact wrapN64 aA)
  |((with_reducible apply zT);exact boD (sz:=1) (tl:=.full))
  |((with_reducible apply ccC);exact EX;exact EX)
  |((with_reducible apply biX);exact EX;exact EX)
  |((with_reducible apply bmR);exact EX;omega)
  |((with_reducible apply yV);exact EX;exact EX;omega)
  |((with_reducible apply abB);exact und;exact EX;exact EX;omega;omega)
  |((with_reducible apply alW);exact und;exact EX;exact EX;omega;omega)
  |((with_reducible apply bwD);exact EX;exact EX)
  |((with_reducible apply aeU);exact und;exact EX;exact EX;omega;omega)
  |((with_reducible apply abY);exact EX)
  |((with_reducible apply bqQ);exact EX;exact EX)
  |((with_reducible apply aaC);exact EX;exact EX;(first|rfl|assumption))
  |((with_reducible apply aaD);exact und;exact und;exact EX;exact wrapNI64 aA)
  |((with_reducible apply ccB);exact EX;exact EX;omega)
  |((with_reducible apply beL);exact EX;exact EX)
  |((with_reducible apply abU);exact EX;exact EX;(first|rfl|assumption);omega)
  |((with_reducible apply anO);exact und;exact EX;exact EX;exact EX;omega;omega;omega)
  |((with_reducible apply qZ);exact und;exact szo;exact EX;exact EX;omega;omega)
  |((with_reducible apply bwE);exact und;exact EX)
  |((with_reducible apply auA);exact und;exact szo;exact EX;exact EX;omega;omega)
  |((with_reducible apply bjA);exact und;exact szo;exact EX;exact EX;omega;omega)
  |((with_reducible apply abF);exact EX;exact EX;omega)
  |((with_reducible apply yV);exact EX;exact EX;(first|rfl|assumption))
  |((with_reducible apply alB);exact EX;exact EX;(first|rfl|assumption);omega)
  |((with_reducible apply afZ);exact und;exact und;rfl;exact EX)
  |((with_reducible apply anS);exact und;exact EX)
  |((with_reducible apply amI);exact EX;exact EX;omega)
  ):APure P o env x:=h
theorem AWP.cx{t:Tmp}{a b:Code}{c:Bool}{p q:Prop}(hc:Env.get? env t=some (.bool c))(ht:p→AWP P n a Q env H)(hf:q→AWP P n b Q env H)
  (hp:c=true→p:=by intro h;(try simp only[aK]at h);exact h)
  (hq:c=false→q:=by intro h;(try simp only[aK]at h);exact h):AWP P n (.cond (.tmp t) a b) Q env H:=
 AWP.cond (tm hc) (λh=>ht (hp h)) (λh=>hf (hq h))
theorem sX{e f:Env}(h:Env.sub e f:=by repeat first|exact yJ|refine zI rfl ?_):Env.sub e f:=h
section
variable{P:Program}{R:AV→Heap→Prop}{env:Env}{H:Heap}{t u v:Tmp}{x y z:AV}{T:TypeId}{k:Nat}{cs:List AV}
theorem rgo1(h:Env.get? env t=some x)(q:R (yD [x]) H):Ret.q P [.tmp t] R .ret env H:=Ret.go (.cons (.tmp _ _ h) .nil) _ (hRa _) q
theorem rgo2(h:Env.get? env t=some x)(h2:Env.get? env u=some y)(q:R (yD [x,y]) H):Ret.q P [.tmp t,.tmp u] R .ret env H:=Ret.go (.cons (.tmp _ _ h) (.cons (.tmp _ _ h2) .nil)) _ (hRa _) q
theorem rgo3(h:Env.get? env t=some x)(h2:Env.get? env u=some y)(h3:Env.get? env v=some z)(q:R (yD [x,y,z]) H):Ret.q P [.tmp t,.tmp u,.tmp v] R .ret env H:=Ret.go (.cons (.tmp _ _ h) (.cons (.tmp _ _ h2) (.cons (.tmp _ _ h3) .nil))) _ (hRa _) q
theorem rgc1(h:Env.get? env t=some (.iptr cs))(ha:∀w,(isAgg T).run P w= .ok true w)(hs:∀w,(sizeOf T).run P w= .ok k w)(hk:Nat.ble k cs.length=true)(q:R (yD [.agg (cs.take k)]) H):Ret.q P [.cell t T] R .ret env H:=Ret.go (.cons (.cellI _ _ _ _ h ha hs hk) .nil) _ (hRa _) q
theorem rgc2(h:Env.get? env t=some (.iptr cs))(ha:∀w,(isAgg T).run P w= .ok true w)(hs:∀w,(sizeOf T).run P w= .ok k w)(hk:Nat.ble k cs.length=true)(h2:Env.get? env u=some y)(q:R (yD [.agg (cs.take k),y]) H):Ret.q P [.cell t T,.tmp u] R .ret env H:=Ret.go (.cons (.cellI _ _ _ _ h ha hs hk) (.cons (.tmp _ _ h2) .nil)) _ (hRa _) q
theorem rgc3(h:Env.get? env t=some (.iptr cs))(ha:∀w,(isAgg T).run P w= .ok true w)(hs:∀w,(sizeOf T).run P w= .ok k w)(hk:Nat.ble k cs.length=true)(h2:Env.get? env u=some y)(h3:Env.get? env v=some z)(q:R (yD [.agg (cs.take k),y,z]) H):Ret.q P [.cell t T,.tmp u,.tmp v] R .ret env H:=Ret.go (.cons (.cellI _ _ _ _ h ha hs hk) (.cons (.tmp _ _ h2) (.cons (.tmp _ _ h3) .nil))) _ (hRa _) q
end
section
variable{P:Program}{n:Nat}{ops:Array Oper}{Q:Exit→Env→Heap→Prop}{env:Env}{H:Heap}{l:List Oper}{ty:TypeId}{pos:String}{af:Array Edge}
theorem AList.stS{S:TypeId}{p x:Operand}{b o k:Nat}{cs:List AV}{y:AV}(hs:∀w,(sizeOf T).run P w= .ok k w)(hp:Ev env p (.ptr (some ⟨b,o,none⟩)))(hx:Ev env x y)
  (hy:y.cells.all AV.one=true)(hyk:y.cells.length=k)(hy1:y.one=true∨∃cs,y= .agg cs)(hk:o+k≤cs.length)(q:AList P n ops Q l env (H.set b (.box S (putRow cs o y.cells)))):AList P n ops Q (⟨none,.store T p x,ty,pos,af,none⟩::l) env (H.set b (.box S cs)):=
 AList.e0 (zN hs hp hx hy hyk hy1 (oS _ _ _) hk) (by rw[sS];exact q)
theorem AList.stU{S:TypeId}{p x:Operand}{b c o k:Nat}{cs:List AV}{y:AV}{z:AObj}(hbc:b≠c)(hs:∀w,(sizeOf T).run P w= .ok k w)(hp:Ev env p (.ptr (some ⟨b,o,none⟩)))(hx:Ev env x y)
  (hy:y.cells.all AV.one=true)(hyk:y.cells.length=k)(hy1:y.one=true∨∃cs,y= .agg cs)(hk:o+k≤cs.length)(q:AList P n ops Q l env ((H.set b (.box S (putRow cs o y.cells))).set c z)):AList P n ops Q (⟨none,.store T p x,ty,pos,af,none⟩::l) env ((H.set b (.box S cs)).set c z):=
 AList.e0 (zN hs hp hx hy hyk hy1 ((oN _ _ hbc).trans (oS _ _ _)) hk) (by rw[sU hbc];exact q)
end
theorem evN{k:IntKind}:Ev env (.const (.int k (OfNat.ofNat n))) (.int k ((OfNat.ofNat n:Nat):Int)):=zR n
theorem EN{o:Operand}(h:Ev env o x:=by first|exact tm rfl|exact evN):Ev env o x:=h
theorem APN{o:Oper}(h:APure P o env x:=by first
  |((with_reducible apply zT);exact EN)
  |((with_reducible apply aeE);exact EN;exact EN)
  |((with_reducible apply afS);exact EN;exact EN)
  |((with_reducible apply aaC);exact EN;exact EN;(first|rfl|assumption))
  |((with_reducible apply zT);exact boD (sz:=1) (tl:=.shared))
  |((with_reducible apply afT);exact EN;exact EN)
  |((with_reducible apply aiJ);exact EN;exact EN;omega)
  |((with_reducible apply biW);exact EN;exact EN;omega;omega)
  |((with_reducible apply ahJ);exact EN;exact EN;omega)
  |((with_reducible apply aaC);exact EN;exact EN;omega)
  |((with_reducible apply yV);exact EN;exact EN;omega)
  |((with_reducible apply biV);exact EN;exact EN;omega)
  |((with_reducible apply aiL);exact EN;exact EN;omega;omega)
  |((with_reducible apply aiL);exact EN;exact EN;(first|rfl|assumption);omega)
  |((with_reducible apply adK);exact EN;exact EN;omega)
  |((with_reducible apply baQ);exact EN;exact EN)
  |((with_reducible apply abF);exact EN;exact EN;omega)
  |((with_reducible apply abU);exact EN;exact EN;omega;omega)
  ):APure P o env x:=h
theorem AXh(h:a→b:=by first
  |((with_reducible apply AList.p);rfl;exact AP)
  |((with_reducible apply AList.gn);rfl;rfl;rfl;(first|rfl|assumption))
  |((with_reducible exact AList.nil))
  |((with_reducible exact Next.go))
  |((with_reducible exact AWP.seq))
  |((with_reducible exact AWP.region))
  |((with_reducible exact AWP.skip))
  |((with_reducible apply AList.gp);rfl;rfl;rfl;(first|rfl|assumption);exact AP)
  |((with_reducible exact AWP.ret))
  |((with_reducible apply rgo1);rfl)
  |((with_reducible apply rgo2);rfl;rfl)
  |((with_reducible apply rgo3);rfl;rfl;rfl)
  |((with_reducible apply rgc1);rfl;exact agg;exact szo;rfl)
  |((with_reducible apply rgc2);rfl;exact agg;exact szo;rfl;rfl)
  |((with_reducible apply rgc3);rfl;exact agg;exact szo;rfl;rfl;rfl)
  |((with_reducible apply AList.stS);exact szo;exact tm rfl;(first|exact tm rfl|exact zH|exact yK|exact zO rfl);rfl;rfl;(first|exact .inl rfl|exact .inr ⟨_,rfl⟩);exact lB rfl)
  |((with_reducible apply AList.stU);assumption;exact szo;exact tm rfl;(first|exact tm rfl|exact zH|exact yK|exact zO rfl);rfl;rfl;(first|exact .inl rfl|exact .inr ⟨_,rfl⟩);exact lB rfl)
  |((with_reducible apply AList.e);rfl;exact abX agg szo (tm rfl) (by first|assumption|exact oS _ _ _|exact(oN _ _ aB).trans (oS _ _ _)|exact(by assumption:Heap.le _ _).objs _ _ aB) (lB rfl))
  |((with_reducible apply AList.e);rfl;exact yC agg (tm rfl) (by first|assumption|exact oS _ _ _|exact(oN _ _ aB).trans (oS _ _ _)|exact(by assumption:Heap.le _ _).objs _ _ aB) rfl)
  |((with_reducible apply AList.e);rfl;exact aeC (tm rfl) (by first|exact .inl rfl|exact .inr ⟨_,rfl⟩))
  |((with_reducible exact Next.rt))
  |((with_reducible exact Next.ex))
  |((with_reducible exact Block.rt))
  |((with_reducible exact Block.hit))
  |((with_reducible exact Block.go))
  |((with_reducible apply Block.miss);rfl)
  |((with_reducible exact AWP.block))
  |((with_reducible exact AWP.exit))
  |((with_reducible exact AWP.label))
  |((with_reducible apply AList.gdead);rfl;rfl;rfl)
  |((with_reducible apply APlan.p);rfl;rfl;exact AP)
  |((with_reducible apply APlan.gn);rfl;rfl;rfl;rfl;(first|rfl|assumption))
  |((with_reducible exact APlan.nil))
  |((with_reducible apply APlan.gp);rfl;rfl;rfl;rfl;(first|rfl|assumption);exact AP)
  |((with_reducible apply APlan.gdead);rfl;rfl;rfl;rfl)
  |((with_reducible apply APlanI.p);rfl;rfl;exact AP)
  |((with_reducible apply APlanI.gn);rfl;rfl;rfl;rfl;(first|rfl|assumption))
  |((with_reducible exact APlanI.nil))
  |((with_reducible apply APlanI.gp);rfl;rfl;rfl;rfl;(first|rfl|assumption);exact AP)
  |((with_reducible apply APlanI.gdead);rfl;rfl;rfl;rfl)
  ):a→b:=h
theorem AX(k:a)(h:a→b:=by exact AXh):b:=h k
theorem AMh(h:a→b:=by first
  |((with_reducible apply AList.p);rfl;exact APN)
  |((with_reducible apply AList.gp);rfl;rfl;rfl;(first|rfl|assumption);exact APN)
  |((with_reducible apply APlan.p);rfl;rfl;exact APN)
  |((with_reducible apply APlan.gp);rfl;rfl;rfl;rfl;(first|rfl|assumption);exact APN)
  |((with_reducible apply APlanI.p);rfl;rfl;exact APN)
  |((with_reducible apply APlanI.gp);rfl;rfl;rfl;rfl;(first|rfl|assumption);exact APN)
  |exact AXh):a→b:=h
theorem AM(k:a)(h:a→b:=by exact AMh):b:=h k
set_option maxRecDepth 100000
def ZR(T:TypeId)(cs:List AV):Prop:=∃z:Value,(∀w,(zeroValue T).run prog w= .ok z w)∧∀g,RelCells g cs z.cells
theorem ZRi{cs:List AV}{z:Value}(hz:∀w,(zeroValue T).run prog w= .ok z w){vs:List Value}(e:z.cells=vs.toArray:=by rfl)
  (h:∀g,RelL g cs vs:=by intro g;repeat first|exact .nil|refine .cons (.int _ _) ?_ |refine .cons (.bool _) ?_ |refine .cons (.ptr _) ?_ |refine .cons (.str [] (Nat.zero_le _)) ?_ |refine .cons (.nilSlice _ _) ?_):ZR T cs:=⟨z,hz,λg=>e▸RelL.cells (h g)⟩
def SzL:List Field→List (Nat×Nat)→Prop
 | [],[]=>True
 |f::fs,p::ps=>f.offset=p.1∧(∀w,(sizeOf f.type).run prog w= .ok p.2 w)∧SzL fs ps
 |_,_=>False
theorem SzL.off:∀{fs:List Field}{ps:List (Nat×Nat)},SzL fs ps→fs.map (·.offset)=ps.map (·.1)
 | [],[],_=>rfl
 |f::fs,p::ps,h=>by rw[fA,fA,h.1,SzL.off h.2.2]
 | [],_::_,h=>h.elim
 |_::_,[],h=>h.elim
theorem SzL.sz:∀{fs:List Field}{ps:List (Nat×Nat)},SzL fs ps→∀(i:Nat) f p,fs[i]?=some f→ps[i]?=some p→∀w,(sizeOf f.type).run prog w= .ok p.2 w
 | [],_,_,i,f,p,hf,_=>by simp at hf
 |_::_,[],h,_,_,_,_,_=>h.elim
 |f::fs,p::ps,h,0,_,_,hf,hp=>by cases hf;cases hp;exact h.2.1
 |f::fs,p::ps,h,i+1,_,_,hf,hp=>SzL.sz h.2.2 i _ _ hf hp
def PL(T:TypeId)(ps:List (Nat×Nat)):Prop:=∃fs:Array Field,prog.underlying T=some (.struct fs)∧SzL fs.toList ps
theorem PLi{fs:Array Field}{ps:List (Nat×Nat)}(hu:prog.underlying T=some (.struct fs))(h:SzL fs.toList ps:=by repeat first|exact True.intro|refine⟨rfl,szo,?_⟩):PL T ps:=⟨fs,hu,h⟩
theorem zX{cs:List AV}{places:List (Nat×Nat)}(hz:ZR T zs)(hp:PL T places)
  (hq:Parts env ops qs)(hf:ajT (places[·]?) zs qs=some cs:=by rfl):APure prog ⟨dst,.build T ops.toArray,ty,pos,af,gd⟩ env (.agg cs):=
 let⟨_,hz,hc⟩:=hz;let⟨_,hu,hs⟩:=hp
 apI places hu hz hc hs.off (λi f p hf=>hs.sz i f p (by rw[eO];exact hf)) hq hf
theorem ajD{cs:List AV}{places:List (Nat×Nat)}(hz:ZR T zs)(hp:PL T places)
  (hq:Parts env ops qs)(hf:akD places 0 0 qs=some cs:=by rfl)(hl:Nat.beq cs.length zs.length=true:=by rfl):APure prog ⟨dst,.build T ops.toArray,ty,pos,af,gd⟩ env (.agg cs):=
 let⟨_,hz,hc⟩:=hz;let⟨_,hu,hs⟩:=hp
 bjD places hu hz hc hs.off (λi f p hf=>hs.sz i f p (by rw[eO];exact hf)) hq hf hl
theorem AList.al{ops:Array Oper}{l:List Oper}{d:Tmp}{cs:List AV}(hz:ZR T cs)(k:∀b,H.objs b=none→AList prog n ops Q l ((d,.ptr (some ⟨b,0,none⟩))::env) (H.set b (.box T cs)))(hd:Nat.blt d n=true:=by rfl):AList prog n ops Q (⟨some d,.alloc T,ty,pos,af,none⟩::l) env H:=
 let⟨_,hz,hc⟩:=hz
 AList.s hd (axF hz hc) λ_ _ ⟨b,hb,e1,e2⟩=>by subst e1;subst e2;exact k b hb
theorem ahU{cs:List AV}(hz:ZR T cs):AStep prog ⟨dst,.alloc T,ty,pos,af,gd⟩ env H (λy H'=>∃b,H.objs b=none∧y= .ptr (some ⟨b,0,none⟩)∧H'=H.set b (.box T cs)):=
 let⟨_,hz,hc⟩:=hz;axF hz hc
theorem aeF{E:TypeId}{N sz:Nat}{cs:List AV}(hu:prog.underlying T=some (.array N E))(hE:∀w,(sizeOf E).run prog w= .ok sz w)(hz:ZR T zs)
  (hq:Parts env ops qs)(hf:ajT (λi=>some (i*sz,sz)) zs qs=some cs:=by rfl):APure prog ⟨dst,.build T ops.toArray,ty,pos,af,gd⟩ env (.agg cs):=
 let⟨_,hz,hc⟩:=hz;bjE hu hE hz hc hq hf
structure Im (a b:Prop):Prop where
 go:a→b
theorem AXi(h:a→b:=by exact AXh):Im a b:=⟨h⟩
theorem AC{c:Prop}(h:Im a b)(g:Im b c):Im a c:=⟨λx=>g.go (h.go x)⟩
theorem AI:Im a a:=⟨id⟩
theorem AY(k:a)(h:Im a b:=by(repeat (apply AC _ AXi;rotate_left));exact AI):b:=h.go k
theorem bcH{a b:Bool}{p:Prop}(h:a=b→p:=by intro h;(try simp only[aK]at h);exact h):a=b→p:=h
theorem bcG{ops:Array Oper}{l:List Oper}{d:Option Tmp}{o:Op}{j e:Nat}{w b:Bool}{p q:Prop}
  (ht:b=true→p→AList P n ops Q (⟨d,o,ty,pos,af,some (j,w)⟩::l) env H)(hf:b=false→q→AList P n ops Q (⟨d,o,ty,pos,af,some (j,w)⟩::l) env H)
  (_hg:(ops[j]?).bind (·.dst)=some e:=by rfl)(_hb:env.get? e=some (.bool b):=by rfl)(hp:b=true→p:=by exact bcH)(hq:b=false→q:=by exact bcH):AList P n ops Q (⟨d,o,ty,pos,af,some (j,w)⟩::l) env H:=
 zC _hb (λh=>ht h (hp h)) (λh=>hf h (hq h))
theorem bF{a b:Bool}(h:a=b:=by first|rfl|assumption|(refine Eq.symm ?_;first|exact aY aA|exact bB aA|exact aT.2 aA)|(simp_all;done)):a=b:=h
theorem AWP.sB{a b:Code}(d:Nat)(x:Bool)(ks:List Nat)(hb:AWP P n b Q ((d,.bool x)::Env.only ks env) H)
  (ha:AWP P n a (λe env' H'=>e= .normal∧Env.sub ((d,.bool x)::Env.only ks env) env'∧H'=H) env H:=by refine .region ?_;repeat' first|refine AX ?_ |(refine bcG (λ_ _=>?_) (λ_ _=>?_)<;>refine AX ?_)|exact⟨rfl,zL rfl bF sX,rfl⟩):AWP P n (.seq a b) Q env H:=
 AWP.seqTo d (.bool x) ks ha hb
end Go.Proofs.YtmmgbnolccpjoaaGreatDoor
