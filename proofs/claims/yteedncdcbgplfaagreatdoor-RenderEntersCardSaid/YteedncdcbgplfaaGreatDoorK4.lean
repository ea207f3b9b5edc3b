import Derived.Test.YteedncdcbgplfaaGreatDoorK1
set_option maxHeartbeats 1000000
namespace Go.Proofs.YteedncdcbgplfaaGreatDoor
open Go.Proofs.Tryz
open Go Go.RowKit
variable{br bs n o t:Nat}{H0 K:Heap}{tf tl:Tail}{pre:List AV}
structure RdN where
 loc:Nat
 ini:List SecN
 cur:SecN
 frm:List Nat
 items:Nat
 free:Bool
variable{r r':RdN}
def RdN.secs(r:RdN):List SecN:=r.ini++[r.cur]
def ceC(k:Int)(t:List UInt8)(r:RdN):RdN:=
 {r with items:=r.items+1,cur:={r.cur with items:=r.cur.items++[⟨k,t⟩]},free:=decide (k=2)&&decide ((ahQ (r.cur.items++[⟨k,t⟩])).length=(r.cur.items++[(⟨k,t⟩:ItN)]).length)}
def bsS(k:Int)(t:List UInt8)(r:RdN):Option RdN:=if r.items=100 then none else some (ceC k t r)
def bdB(r:RdN):RdN:={r with ini:=r.ini++[r.cur],cur:=⟨[],false,0⟩,frm:=r.frm++[r.loc],free:=false}
def bwS(r:RdN):Option RdN:=if r.ini.length=3 then none else some (bdB r)
def inB(l:List UInt8)(c:UInt8):Bool:=decide (0≤Lib.indexByte l c)
def ayI(s:List UInt8)(i:Nat)(l:List UInt8):Bool:=decide (i<s.length)&&inB l (s.getD i 0)
def cmX(r:RdN):RdN:={r with cur:={r.cur with grouped:=true}}
def cmW(r:RdN):RdN:={r with cur:={r.cur with scale:=r.cur.scale+1}}
def anG(s:List UInt8)(i:Nat)(r:RdN):Option RdN:=
 if r.free=false then none
 else if ayI s r.loc [48,35,63]=true then(if s.getD (i-1) 0=44 then none else some (cmX r))else some (cmW r)
def alE(c:UInt8):Int:=if c=46 then 3 else if c=37 then 4 else if c=47 then 6 else if c=64 then 8 else if c=36 then 9 else 0
def RdN.to(r:RdN)(i:Nat):RdN:={r with loc:=i}
def avU(s:List UInt8)(c:UInt8)(i:Nat)(r:RdN):Option RdN:=
 if inB [32,45,43,40,41,58] c=true then bsS 1 [c] r
 else if 0<alE c then bsS (alE c) [] r
 else if Lib.hasPrefix (s.drop i) [71,101,110,101,114,97,108]=true then bsS 7 [] (r.to (i+7))
 else if c=69∧ayI s r.loc [43,45]=true then bsS 5 [s.getD r.loc 0] (r.to (r.loc+1))
 else none
def bsQ(s:List UInt8)(r:RdN):Option RdN:=
 if r.loc+1<s.length∧(s.getD r.loc 0).toNat<128∧Lib.indexByte (s.drop r.loc) 34=1 then(bsS 1 [s.getD r.loc 0] {r.to (r.loc+1)with free:=false}).map λr=>r.to (r.loc+1)
 else none
def cjH(s:List UInt8)(r:RdN):Option RdN:=
 if s.getD r.loc 0=59 then bwS (r.to (r.loc+1))
 else if s.getD r.loc 0=34 then bsQ s (r.to (r.loc+1))
 else if s.getD r.loc 0=92∨s.getD r.loc 0=95 then none
 else if s.getD r.loc 0=44 then anG s r.loc (r.to (r.loc+1))
 else if s.getD r.loc 0=48∨s.getD r.loc 0=35∨s.getD r.loc 0=63 then bsS 2 [s.getD r.loc 0] (r.to (r.loc+1))
 else avU s (s.getD r.loc 0) r.loc (r.to (r.loc+1))
def byU(s:List UInt8):Nat→RdN→Option RdN
 |0,_=>none
 |k+1,r=>if r.loc<s.length then(match cjH s r with|some r'=>byU s k r'|none=>none)else some r
def rd0:RdN:=⟨0,[],⟨[],false,0⟩,[0],0,false⟩
def akW(s:List UInt8):Option (List SecN):=
 if 1000<s.length then none else match byU s (s.length+1) rd0 with
  |some r=>if azR r.secs=true then none else some r.secs
  |none=>none
structure RdN.ok (s:List UInt8) (r:RdN):Prop where
 loc:r.loc≤s.length
 ini:r.ini.length≤3
 items:r.items≤100
 cur:r.cur.items.length≤r.items
 secs:∀q,q∈r.ini→q.items.length≤100
 free:r.free=true→1≤r.loc
 low:0≤r.cur.scale
 high:r.cur.scale≤r.loc
 frm:r.frm.length≤r.ini.length+1
theorem acD{k:Int}{t:List UInt8}(h:bsS k t r=some r'):r.items≠100∧r'=ceC k t r:=by
 unfold bsS at h;split at h
 ·cases h
 exact⟨by assumption,(Option.some.inj h).symm⟩
theorem awR(h:bwS r=some r'):r.ini.length≠3∧r'=bdB r:=by
 unfold bwS at h;split at h
 ·cases h
 exact⟨by assumption,(Option.some.inj h).symm⟩
theorem ckD{s:List UInt8}{k:Int}{t:List UInt8}(h:bsS k t r=some r')(hr:r.ok s)(h1:1≤r.loc):r'.ok s:=by
 obtain⟨h2,rfl⟩:=acD h;obtain⟨a1,a2,a3,a4,a5,a6,a7,a8,a9⟩:=hr;exact⟨a1,a2,by show r.items+1≤100;omega,by show(r.cur.items++[_]).length≤r.items+1;simp;exact a4,a5,λ_=>h1,a7,a8,a9⟩
theorem bqS{s:List UInt8}{i:Nat}(hr:r.ok s)(h:r.loc≤i)(hi:i≤s.length):(r.to i).ok s:=by
 obtain⟨a1,a2,a3,a4,a5,a6,a7,a8,a9⟩:=hr;exact⟨hi,a2,a3,a4,a5,λq=>by have:=a6 q;show 1≤i;omega,a7,by show r.cur.scale≤(i:Int);omega,a9⟩
theorem ckN{s:List UInt8}(h:cjH s r=some r')(hr:r.ok s)(hl:r.loc<s.length):r'.ok s∧r.loc<r'.loc:=by
 have h1:=bqS (i:=r.loc+1) hr aA aA;unfold cjH at h;have hput:∀{k t}{q q':RdN},bsS k t q=some q'→q.ok s→r.loc<q.loc→q'.ok s∧r.loc<q'.loc:=λhp hq hl=>by
  refine⟨ckD hp hq aA,?_⟩;obtain⟨_,rfl⟩:=acD hp;exact hl
 split at h
 ·obtain⟨h2,rfl⟩:=awR h;obtain⟨a1,a2,a3,a4,a5,a6,a7,a8,a9⟩:=h1;refine⟨⟨a1,?_,a3,Nat.zero_le _,?_,(λq=>by cases q),Int.le_refl 0,?_,?_⟩,fE _⟩
  ·show(r.ini++[r.cur]).length≤3;have h2:r.ini.length≠3:=h2;have a2:r.ini.length≤3:=a2;simp;omega
  ·intro q hq;have hq:q∈r.ini++[r.cur]:=hq;rcases cN.1 hq with hq|hq
   ·exact a5 q hq
   rw[eU.1 hq];have a3:r.items≤100:=a3;have a4:r.cur.items.length≤r.items:=a4;omega
  ·show(0:Int)≤((r.loc+1:Nat):Int);omega
  show(r.frm++[r.loc+1]).length≤(r.ini++[r.cur]).length+1;have a9:r.frm.length≤r.ini.length+1:=a9;simp;exact a9
 split at h
 ·unfold bsQ at h;split at h
  ·rename_i q
   obtain⟨q',hq',rfl⟩:=gL.1 h;have q1:r.loc+1+1<s.length:=q.1;obtain⟨a1,a2,a3,a4,a5,a6,a7,a8,a9⟩:=bqS (i:=r.loc+1+1) hr aA aA;obtain⟨k1,k2⟩:=hput hq' ⟨a1,a2,a3,a4,a5,(λq=>by cases q),a7,a8,a9⟩ (by show r.loc<r.loc+1+1;omega);obtain⟨_,rfl⟩:=acD hq';refine⟨bqS k1 (Nat.le_succ _) ?_,Nat.lt_succ_of_lt k2⟩;show r.loc+1+1+1≤s.length;omega
  cases h
 split at h
 ·cases h
 split at h
 ·unfold anG at h;obtain⟨a1,a2,a3,a4,a5,a6,a7,a8,a9⟩:=h1;split at h
  ·cases h
  split at h
  ·split at h
   ·cases h
   cases h
   exact⟨⟨a1,a2,a3,a4,a5,a6,a7,a8,a9⟩,fE _⟩
  cases h
  have b7:0≤r.cur.scale:=a7;have b8:r.cur.scale≤(r.loc:Int):=hr.high;exact⟨⟨a1,a2,a3,a4,a5,a6,by show 0≤r.cur.scale+1;omega,by show r.cur.scale+1≤((r.loc+1:Nat):Int);omega,a9⟩,fE _⟩
 split at h
 ·exact hput h h1 (fE _)
 unfold avU at h;split at h
 ·exact hput h h1 (fE _)
 split at h
 ·exact hput h h1 (fE _)
 split at h
 ·rename_i q
  have hp:r.loc+7≤s.length:=by
   have:=(List.isPrefixOf_iff_prefix.1 (show List.isPrefixOf _ _=true from q)).length_le;rw[bO]at this;simp only[aW,bG]at this;omega
  exact hput h (bqS h1 (show r.loc+1≤r.loc+7 by omega) hp) (by show r.loc<r.loc+7;omega)
 split at h
 ·rename_i q
  have hp:r.loc+1<s.length:=by
   have:=q.2;unfold ayI at this;simp only[bN,aT]at this;exact this.1
  exact hput h (bqS h1 (show r.loc+1≤r.loc+1+1 by omega) (show r.loc+1+1≤s.length by omega)) (by show r.loc<r.loc+1+1;omega)
 cases h
section
open Go Go.RowKit
set_option maxRecDepth 100000
theorem zr112:∀g,RelCells g [.str [],.int .i64 0,.slice 3 [] .full,.slice 1 [] .full,.int .i64 0,.bool false] (Value.cells (Go.Value.agg #[Go.Value.string {data:= #[]},Go.Value.int Go.IntKind.i64 0,Go.Value.slice none 0 0,Go.Value.slice none 0 0,Go.Value.int Go.IntKind.i64 0,Go.Value.bool false])):=λ_=>RelL.cells (.cons ((.str [] (Nat.zero_le _))) (.cons (.int _ _) (.cons (.nilSlice _ _) (.cons (.nilSlice _ _) (.cons (.int _ _) (.cons (.bool _) .nil))))))
theorem pl112(fs:Array Field)(hfs:prog.underlying 112=some (.struct fs)):∀(i:Nat) f p,fs[i]?=some f→[(0,1),(1,1),(2,1),(3,1),(4,1),(5,1)][i]?=some p→∀w,(sizeOf f.type).run prog w= .ok p.2 w:=by
 have e:=(Option.some.inj (hfs.symm.trans U112));cases e
 intro i f p hf hp w
 match i with
 |0=>cases hf;cases hp;exact Z9 w
 |1=>cases hf;cases hp;exact Z3 w
 |2=>cases hf;cases hp;exact Z24 w
 |3=>cases hf;cases hp;exact Z30 w
 |4=>cases hf;cases hp;exact Z3 w
 |5=>cases hf;cases hp;exact Z4 w
 |i+6=>simp at hp
def rdR(s:List UInt8)(st:RdN)(bs c:Nat)(tf:Tail):AObj:=.box 112 [.str s,.int .i64 (st.loc:Int),.mslice (some ⟨bs,0,none⟩) (st.ini.length+1) c,afG st.frm tf,.int .i64 (st.items:Int),.bool st.free]
def scR(cur:SecN)(tl:Tail)(pre pad:List AV):AObj:=.box 52 (pre++(cur.cs tl++pad))
def RH(s:List UInt8)(st:RdN)(K:Heap)(br bs c:Nat)(pre pad:List AV)(tl tf:Tail):Heap:=(K.set br (rdR s st bs c tf)).set bs (scR st.cur tl pre pad)
def afW(H:Heap):Tail→Heap
 | .own t=>H.kill t
 |_=>H
def RoomK(H0 K:Heap):Tail→Prop
 | .full=>True
 | .own t=>K.toks t=true∧H0.toks t=false
 | .shared=>False
structure RdK (H0 K:Heap) (br bs:Nat) (tl tf:Tail):Prop where
 le:H0.le K
 nbr:K.objs br=none
 nbs:K.objs bs=none
 ne:br≠bs
 rl:RoomK H0 K tl
 rf:RoomK H0 K tf
 ap:∀t,tl= .own t→tf≠ .own t
theorem RoomK.room{H:Heap}(h:RoomK H0 K tl)(ht:H.toks=K.toks):Room H tl (afW H tl):=by
 cases tl with
 |full=>exact .full
 |own t=>exact .own t (by rw[ht];exact h.1)
 |shared=>exact h.elim
theorem ahN(K:Heap)(tl:Tail):(afW K tl).objs=K.objs:=by cases tl<;>rfl
theorem awB(h:K.toks t=true)(hn:tl≠ .own t):(afW K tl).toks t=true:=by
 cases tl with
 |own u=>
  have:t≠u:=λe=>hn (by rw[e]);simp[afW,Heap.kill,this,h]
 |_=>exact h
theorem RoomK.swap(_:H0.le K)(h:RoomK H0 K tf)(hn:∀u,tf= .own u→tl≠ .own u)(ht:K.toks t=false):RoomK H0 ((afW K tl).live t) tf∧tf≠ .own t:=by
 cases tf with
 |full=>exact⟨trivial,by simp⟩
 |own u=>
  have hu:u≠t:=λe=>by rw[←e,h.1]at ht;cases ht
  exact⟨⟨by simp[Heap.live,hu,awB h.1 (hn u rfl)],h.2⟩,λe=>hu (Tail.own.inj e)⟩
 |shared=>exact h.elim
theorem RoomK.fresh(hl:H0.le K)(ht:K.toks t=false):RoomK H0 ((afW K tl).live t) (.own t):=
 ⟨by simp[Heap.live],by cases e:H0.toks t with|false=>rfl|true=>have:=hl.toks t e;rw[ht]at this;cases this⟩
theorem buR(hl:H0.le K)(h:RoomK H0 K tl):H0.le ((afW K tl).live t):=by
 refine⟨λb x hb=>by show(afW K tl).objs b=_;rw[ahN];exact hl.objs b x hb,λu hu=>?_⟩;by_cases e:u=t
 ·simp[Heap.live,e]
 have:(afW K tl).toks u=true:=awB (hl.toks u hu) (λq=>by subst q;rw[h.2]at hu;cases hu);simp[Heap.live,e,this]
theorem RdK.items(h:RdK H0 K br bs tl tf)(ht:K.toks t=false):RdK H0 ((afW K tl).live t) br bs (.own t) tf:=by
 have hs:=RoomK.swap (tl:=tl) h.le h.rf (λu hu q=>h.ap u q hu) ht;exact⟨buR h.le h.rl,by show(afW K tl).objs br=_;rw[ahN];exact h.nbr,by show(afW K tl).objs bs=_;rw[ahN];exact h.nbs,h.ne,RoomK.fresh h.le ht,hs.1,λu hu q=>by cases hu;exact hs.2 q⟩
theorem RdK.froms(h:RdK H0 K br bs tl tf)(ht:K.toks t=false):RdK H0 ((afW K tf).live t) br bs tl (.own t):=by
 have hs:=RoomK.swap (tl:=tf) h.le h.rl (λu hu q=>h.ap u hu q) ht;exact⟨buR h.le h.rf,by show(afW K tf).objs br=_;rw[ahN];exact h.nbr,by show(afW K tf).objs bs=_;rw[ahN];exact h.nbs,h.ne,hs.1,RoomK.fresh h.le ht,λu hu q=>hs.2 (by rw[hu,←q])⟩
theorem ahM(K:Heap)(b:Nat)(x:AObj)(tl:Tail):afW (K.set b x) tl=(afW K tl).set b x:=by cases tl<;>rfl
theorem biI{cs pad:List AV}{f:Nat}{x:AV}(hp:pre.length=3*n)(ho:o=3*n+f)(hx:cs[f]?=some x):(pre++(cs++pad))[o]?=some x:=by
 have hf:f<cs.length:=(bT.1 hx).1;rw[cY aA,cV aA,←hx];congr 1;omega
section
variable{P:Program}{env:Env}{H:Heap}{dst:Option Tmp}{ty:TypeId}{pos:String}{af:Array Go.Edge}{gd:Option (Nat×Bool)}
theorem afN{T S:TypeId}{p x:Operand}{b f:Nat}{y:AV}{cs pad:List AV}(hs:∀w,(sizeOf T).run P w= .ok 1 w)(hp:Ev env p (.ptr (some ⟨b,o,none⟩)))(hx:Ev env x y)(h1:y.one=true)(hc:y.cells=[y])(hb:H.objs b=some (.box S (pre++(cs++pad))))(hpre:pre.length=3*n)(ho:o=3*n+f)(hf:f<cs.length):
  AStep P ⟨dst,.store T p x,ty,pos,af,gd⟩ env H (λz H'=>z= .raw undef∧H'=H.set b (.box S (pre++(cs.set f y++pad)))):=by
 subst ho;have h:=zL (P:=P) (dst:=dst) (ty:=ty) (pos:=pos) (af:=af) (gd:=gd) hs hp hx (by rw[hc];simp[h1]) (by rw[hc];rfl) (.inl h1) hb aG;have e:putRow (pre++(cs++pad)) (3*n+f) y.cells=pre++(cs.set f y++pad):=by
  rw[hc,←hpre];unfold putRow;rw[gX,aY aA,show pre.length+f-pre.length=f by omega,dU aA,fF,cS aG,List.set_eq_take_append_cons_drop,aN hf];simp only[gN,cH];rw[show pre.length+f+1-pre.length=f+1 by omega,eI aA];simp
 rw[e]at h;exact h
end
theorem amZ(l:List UInt8)(c:UInt8):Fn 135 [.str l,.int .u8 (c.toNat:Int)] (.int .i64 (Lib.indexByte l c)):=by
 intro H;have h:=indexByteA l c.toNat H
 rwa[show c.toNat.toUInt8=c by simp]at h
theorem hasPreA(s p:List UInt8):Fn 182 [.str s,.str p] (.bool (Lib.hasPrefix s p)):=by
 intro H;refine .lib _ λg vs w k st=>?_;obtain⟨v,u,rfl,hv,hu⟩:=relvs2 k;cases hv;cases hu
 refine(Tryz.strings_HasPrefix ⟨_⟩ ⟨_⟩ w).mono ?_;rintro e w' ⟨rfl,rfl⟩;exact⟨_,rfl,.bool _,Below.refl _ _⟩
theorem bwE{s:List UInt8}{c:UInt8}{r:List UInt8}(hs:s=c::r)(h:c.toNat<128):dgo s=(c.toNat,1):=by
 subst hs;rw[ceV aF];unfold Lib.decodeN;rw[aN (by simpa using h)];rfl
theorem afP(s:List UInt8)(st:RdN)(br bs c:Nat)(tf:Tail)(hi:st.ini.length≤3)(H:Heap)(hbr:H.objs br=some (rdR s st bs c tf)):ACall prog 214 [.ptr (some ⟨br,0,none⟩)] H (λy H'=>y= .ptr (some ⟨bs,3*st.ini.length,none⟩)∧H'=H):=by
 refine ACall.of_body func214 rfl ntmps214 results214 rfl ?_;refine .seq (.region (.p rfl (zE anB) (.nil ?_)));refine Next.go ?_;refine .seq ?_;refine AWP.drawI (λH2=>H2.objs br=some (rdR s st bs c tf)) [(0,true),(1,true),(2,true),(3,true),(4,true),(5,true),(6,true),(7,true),(8,true),(9,true),(10,true),(11,true),(12,true),(13,true)] (by exact hbr) rfl aE ?_;refine APlanI.p rfl rfl (zG (tm rfl)) ?_;refine APlanI.p rfl rfl (abG (tm rfl)) ?_;refine APlanI.p rfl rfl (zC U112 rfl Z24 (tm rfl)) ?_;refine APlanI.p rfl rfl (zC U24 rfl Z22 (tm rfl)) ?_;refine APlanI.f rfl rfl (λ_ hI=>zM G22 (tm rfl) (hI) rfl) ?_;refine APlanI.p rfl rfl (zG (tm rfl)) ?_;refine APlanI.p rfl rfl (abG (tm rfl)) ?_;refine APlanI.p rfl rfl (zC U112 rfl Z24 (tm rfl)) ?_;refine APlanI.p rfl rfl (zC U24 rfl Z22 (tm rfl)) ?_;refine APlanI.f rfl rfl (λ_ hI=>zM G22 (tm rfl) (hI) rfl) ?_;refine APlanI.p rfl rfl (aiZ U22 (tm rfl)) ?_;refine APlanI.p rfl rfl (qK (tm rfl) zJ aA) ?_;refine APlanI.p rfl rfl (qL U22 Z52 (tm rfl) (tm rfl) aA aA) ?_;refine APlanI.p rfl rfl (zE (tm rfl)) ?_;refine APlanI.nil ?_;refine Next.go ?_;refine .ret ?_;refine Ret.go (.cons (.tmp _ _ rfl) .nil) _ (hRa _) ?_;refine⟨?_,rfl⟩;show AV.ptr (some ⟨bs,_,none⟩)=_;congr 3;omega
theorem axM(c:UInt8):Fn 216 [.int .u8 (c.toNat:Int)] (.int .i64 (alE c)):=by
 intro H;have hcc:∀d:UInt8,(((c.toNat:Nat):Int)=((d.toNat:Nat):Int))→c=d:=λd h=>fK.1 aA;refine .of_body func216 rfl ntmps216 results216 rfl ?_;iterate 14 refine AX ?_
 iterate 4 refine AM ?_
 refine .cx rfl (λhc4=>?_) (λhc4=>?_)
 ·iterate 9 refine AX ?_
  refine⟨?_,rfl⟩;have e:c=46:=hcc 46 aB;rw[e];rfl
 iterate 6 refine AM ?_
 refine .cx rfl (λhc6=>?_) (λhc6=>?_)
 ·iterate 9 refine AX ?_
  refine⟨?_,rfl⟩;have e:c=37:=hcc 37 aB;rw[e];rfl
 iterate 6 refine AM ?_
 refine .cx rfl (λhc8=>?_) (λhc8=>?_)
 ·iterate 9 refine AX ?_
  refine⟨?_,rfl⟩;have e:c=47:=hcc 47 aB;rw[e];rfl
 iterate 6 refine AM ?_
 refine .cx rfl (λhc10=>?_) (λhc10=>?_)
 ·iterate 9 refine AX ?_
  refine⟨?_,rfl⟩;have e:c=64:=hcc 64 aB;rw[e];rfl
 iterate 6 refine AM ?_
 refine .cx rfl (λhc12=>?_) (λhc12=>?_)
 ·iterate 9 refine AX ?_
  refine⟨?_,rfl⟩;have e:c=36:=hcc 36 aB;rw[e];rfl
 iterate 10 refine AX ?_
 refine⟨?_,rfl⟩;unfold alE;rw[aM (λe=>hc4 (by rw[e];rfl)),aM (λe=>hc6 (by rw[e];rfl)),aM (λe=>hc8 (by rw[e];rfl)),aM (λe=>hc10 (by rw[e];rfl)),aM (λe=>hc12 (by rw[e];rfl))];rfl
def bqJ(c:UInt8)(H:Heap):Nat→Env→Heap→Prop:=λk env H1=>∃r:List UInt8,((r=[c]∧k=1)∨(r=[]∧k=0))∧env=[(0,.str r)]∧H=H1
theorem azU(c:UInt8)(hc:c.toNat<128):Fn 136 [.str [c]] (.bool true):=by
 intro H;refine .of_body func136 rfl ntmps136 results136 rfl ?_;iterate 7 refine AX ?_
 refine .loopW (bqJ c H) (1) ⟨[c],.inl ⟨rfl,rfl⟩,rfl,rfl⟩ (zK rfl yF) (hRa _) ?_;rintro k _ _ ⟨r,hr,rfl,rfl⟩;iterate 8 refine AX ?_
 refine .cx rfl (λhc9=>?_) (λhc9=>?_)
 ·obtain⟨rfl,rfl⟩:r=[c]∧k=1:=by
   rcases hr with h|h
   ·exact h
   rw[h.1]at hc9;simp at hc9
  iterate 14 refine AX ?_
  iterate 3 refine AM ?_
  refine .cx rfl (λhc13=>?_) (λhc13=>?_)
  ·iterate 21 refine AX ?_
   refine .cond_false (tm rfl) aD ?_;iterate 6 refine AX ?_
   refine Round.mk ⟨[],.inr ⟨rfl,rfl⟩,rfl,rfl⟩ (zK rfl yF) (hRa _) aA
  simp at hc13;omega
 iterate 12 refine AX ?_
 exact⟨rfl,rfl⟩
end
section
open Go Go.RowKit
set_option maxRecDepth 100000
theorem Heap.live_one(K:Heap)(b:Nat)(x:AObj)(t:Nat):(K.set b x).live t=(K.live t).set b x:=rfl
theorem aqX(l:List ItN):∀x,x∈l.map ItN.av→x.row 2:=λx hx=>by
 obtain⟨i,_,rfl⟩:=fW.1 hx;exact⟨rfl,rfl⟩
section
variable{env:Env}{H H0 K:Heap}{dst:Option Tmp}{ty:TypeId}{pos:String}{af:Array Go.Edge}{gd:Option (Nat×Bool)}{x y:Operand}{tl tl':Tail}
theorem baH(i:ItN){l:List ItN}(hx:Ev env x (itS l tl))(hy:Ev env y (.slice 2 [i.av] tl'))(hroom:Room H tl H0)(hl:l.length≤1000):
  AStep prog ⟨dst,.call {callee:=.builtin .append,args:= #[x,y],argTypes:= #[50,50]},ty,pos,af,gd⟩ env H (λr H'=>∃t,H.toks t=false∧r=itS (l++[i]) (.own t)∧H'=H0.live t):=by
 have h:=qT (dst:=dst) (ty:=ty) (pos:=pos) (af:=af) (gd:=gd) U50 U50 Z57 typeInfo57 V57 rfl aC hx hy hroom (by show(_+_)*24≤_;simp only[cE,aW,bG];omega) (aqX l) (aqX [i]);refine h.mono ?_;rintro r H' ⟨t,h1,rfl,h3⟩;exact⟨t,h1,by unfold itS;rw[eS];rfl,h3⟩
theorem agF(i:Nat){l:List Nat}(hx:Ev env x (afG l tl))(hy:Ev env y (.slice 1 [bxO i] tl'))(hroom:Room H tl H0)(hl:l.length≤1000):
  AStep prog ⟨dst,.call {callee:=.builtin .append,args:= #[x,y],argTypes:= #[30,30]},ty,pos,af,gd⟩ env H (λr H'=>∃t,H.toks t=false∧r=afG (l++[i]) (.own t)∧H'=H0.live t):=by
 have h:=qT (dst:=dst) (ty:=ty) (pos:=pos) (af:=af) (gd:=gd) U30 U30 Z3 typeInfo3 V3 rfl aC hx hy hroom (by show(_+_)*8≤_;simp only[cE,aW,bG];omega) (beL l) (beL [i]);refine h.mono ?_;rintro r H' ⟨t,h1,rfl,h3⟩;exact⟨t,h1,by unfold afG;rw[eS];rfl,h3⟩
theorem baE{b:Nat}{s:SecN}{pad:List AV}(hx:Ev env x (.ptr (some ⟨b,o,none⟩)))(hb:H.objs b=some (scR s tl pre pad))(hp:pre.length=3*n)(ho:o=3*n):
  AStep prog ⟨dst,.load 52 x,ty,pos,af,gd⟩ env H (λy H'=>y= .agg (s.cs tl)∧H'=H):=by
 subst ho;have h:=qA (dst:=dst) (ty:=ty) (pos:=pos) (af:=af) (gd:=gd) isAgg52 Z52 hx hb (by rw[aO,aO];show 3*n+3≤pre.length+(3+pad.length);omega);refine h.mono ?_;rintro y H' ⟨rfl,rfl⟩;refine⟨?_,rfl⟩;congr 1;rw[←hp,List.drop_left];rfl
def cdD:List AV:=[.slice 2 [] .full,.bool false,.int .i64 0]
theorem bdZ{R:AObj}{c:Nat}{s:SecN}{pad:List AV}(hK:RdK H0 K br bs tl tf)(hx:Ev env x (.mslice (some ⟨bs,0,none⟩) (n+1) c))(hy:Ev env y (.slice 3 [.agg cdD] tl'))(hp:pre.length=3*n)(hc:n+1≤c)(hn:n≤100)(hpad:pad.length=3*(c-(n+1)))(hcm:c≤maxLen):
  AStep prog ⟨dst,.call {callee:=.builtin .append,args:= #[x,y],argTypes:= #[22,22]},ty,pos,af,gd⟩ env ((K.set br R).set bs (scR s tl pre pad)) (λr H'=>∃K' bs' c' pad',r= .mslice (some ⟨bs',0,none⟩) (n+1+1) c'∧RdK H0 K' br bs' .full tf∧n+1+1≤c'∧c'≤maxLen∧pad'.length=3*(c'-(n+1+1))∧H'=(K'.set br R).set bs' (scR ⟨[],false,0⟩ .full (pre++s.cs tl) pad')):=by
 have hz:(pre++(s.cs tl++pad)).length=c*3:=by rw[aO,aO];show pre.length+(3+pad.length)=_;omega
 have ht:(pre++(s.cs tl++pad)).take ((n+1)*3)=pre++s.cs tl:=by
  rw[←bK,dU (by rw[aO];show _≤pre.length+3;omega),aY (by rw[aO];show pre.length+3≤_;omega)]
 have h:=baI (dst:=dst) (ty:=ty) (pos:=pos) (af:=af) (gd:=gd) (sz:=3) (zc:=cdD) (H:=(K.set br R).set bs (scR s tl pre pad)) U22 U22 Z52 typeInfo52 V52 rfl zr52 aC hx (oS _ _ _) hz hc hy (by intro q hq;rw[eU.1 hq];exact⟨rfl,rfl⟩) (by show(n+1+1)*40≤_;omega);refine h.mono ?_;rintro r H' (⟨h1,rfl,rfl⟩|⟨b',c',hb',rfl,h2,h3,rfl⟩)
 ·refine⟨K,bs,c,pad.drop 3,rfl,⟨hK.le,hK.nbr,hK.nbs,hK.ne,trivial,hK.rf,(λ_ q=>by cases q)⟩,h1,hcm,by rw[bO];have:n+1+1≤c:=h1;omega,?_⟩;rw[sS];unfold scR;congr 2;unfold putRow;rw[ht,bK];congr 1;show cdD++(pre++(s.cs tl++pad)).drop ((n+1)*3+3)=cdD++pad.drop 3;rw[←bK,fF,cS (by rw[aO];show pre.length+3≤_;omega),cH];congr 2;rw[aO];show(n+1)*3+3-(pre.length+3)=3;omega
 have e1:b'≠bs:=λe=>by subst e;rw[oS]at hb';cases hb'
 have e2:b'≠br:=λe=>by subst e;rw[oN _ _ hK.ne,oS]at hb';cases hb'
 have e3:K.objs b'=none:=by rw[oN _ _ e1,oN _ _ e2]at hb';exact hb'
 refine⟨K.set bs (scR s tl pre pad),b',c',apW cdD (c'-(n+1+1)),rfl,⟨hK.le.trans (Heap.le_set hK.nbs _),(oN _ _ hK.ne).trans hK.nbr,(oN _ _ e1).trans e3,e2.symm,trivial,?_,(λ_ q=>by cases q)⟩,h2,h3,by rw[alU];show(c'-(n+1+1))*3=_;omega,?_⟩
 ·have:=hK.rf;cases tf with
  |full=>trivial
  |own u=>exact this
  |shared=>exact this
 rw[ht,Heap.set_comm hK.ne];unfold scR;congr 2;rw[bK];rfl
end
theorem decode1A(s:List UInt8)(i:Nat)(h:i<s.length)(hc:(s.getD i 0).toNat<128):Fn 215 [.str (s.drop i)] (.tuple [.int .i32 ((s.getD i 0).toNat:Int),.int .i64 1]):=by
 intro H;have e:s.drop i=s.getD i 0::s.drop (i+1):=by rw[cL h,aP,aX h];rfl
 have h2:=decodeA (s.drop i) H;rw[bwE e hc]at h2;exact h2
theorem afD(H0 K:Heap)(s:List UInt8)(st:RdN)(br bs c:Nat)(pre pad:List AV)(tl tf:Tail)(hK:RdK H0 K br bs tl tf)(hpre:pre.length=3*st.ini.length)(hini:st.ini.length≤3)(k:Int)(t:List UInt8)(at_:Int)(hit:st.items≤100)(h100:st.items≠100)(hci:st.cur.items.length≤100)(H:Heap)(hH:H=RH s st K br bs c pre pad tl tf):ACall prog 137 [.ptr (some ⟨br,0,none⟩),.int .i64 k,.str t,.int .i64 at_] H (λ_ H'=>∃K' tl',RdK H0 K' br bs tl' tf∧H'=RH s (ceC k t st) K' br bs c pre pad tl' tf):=by
 subst hH;unfold RH;have hne:=hK.ne;have hne2:=hK.ne.symm;refine ACall.of_body func137 rfl ntmps137 results137 rfl ?_;iterate 5 refine AX ?_
 refine .p rfl (zC U112 rfl Z3 (tm rfl)) ?_;iterate 4 refine AX ?_
 refine AWP.cx rfl (λhc13=>?_) (λhc13=>?_)
 ·omega
 iterate 6 refine AX ?_
 refine .p rfl (zC U112 rfl Z3 (tm rfl)) ?_;iterate 3 refine AX ?_
 refine .p rfl (zC U112 rfl Z3 (tm rfl)) (.e0 (zL Z3 (tm rfl) (tm rfl) rfl rfl (.inl rfl) ((oN _ _ hne).trans (oS _ _ _)) (lB rfl)) ?_);try first|rw[sS]|rw[sU aB]
 iterate 5 refine AX ?_
 refine .cl rfl C214 (evs1 rfl) (afP s {st with items:=st.items+1} br bs c tf hini _ (show _=some (rdR s {st with items:=st.items+1} bs c tf)from(oN _ _ hne).trans (oS _ _ _))) ?_;iterate 8 refine AX ?_
 refine .p rfl (zC U52 rfl Z50 (tm rfl)) ?_;refine .e rfl (zM G50 (tm rfl) (oS _ _ _) (biI (f:=0) hpre rfl rfl)) ?_;iterate 2 refine AX ?_
 refine .p rfl (yU zr57 pl57 (.cons (tm rfl) (.inl rfl) (.cons (tm rfl) (.inl rfl) .nil)) rfl) (.e rfl (yJ U50 Z57 V57 rfl (tm rfl) (.inr ⟨_,rfl⟩) ⟨rfl,rfl⟩) (.s rfl (baH ⟨k,t⟩ (tm rfl) (tm rfl) (RoomK.room hK.rl rfl) aA) ?_));rintro _ _ ⟨t35,hf35,rfl,hH⟩;obtain rfl:=hH;rw[ahM,ahM,Heap.live_one,Heap.live_one];refine AX ?_;refine .p rfl (zC U52 rfl Z50 (tm rfl)) ?_;refine .e0 (afN (f:=0) Z50 (tm rfl) (tm rfl) rfl rfl (oS _ _ _) hpre rfl (by show 0<3;decide)) ?_;rw[sS];iterate 2 refine AX ?_
 refine AWP.drawI (λH2=>H2.objs bs=some (scR {st.cur with items:=st.cur.items++[⟨k,t⟩]} (.own t35) pre pad)) [(0,true),(1,true),(2,true),(3,true),(4,true),(5,true),(6,true),(7,true),(8,true),(9,true),(10,true),(11,true),(12,true),(13,true),(14,true),(15,true),(16,true),(17,true),(18,false)] (by exact oS _ _ _) rfl aE ?_;iterate 4 refine AX ?_
 refine alP (t:=41) rfl (λhg41=>?_) (λhg41=>?_)
 ·have hh41:=hg41;try simp only[aL]at hh41
  iterate 2 refine AX ?_
  refine APlanI.gf rfl rfl rfl rfl aB (λ_ hI=>baE (s:={st.cur with items:=st.cur.items++[⟨k,t⟩]}) (tl:=.own t35) (tm rfl) hI hpre rfl) ?_;refine APlanI.gf rfl rfl rfl rfl aB (λ_ hI=>zB call85 (evs1 rfl) (alM {st.cur with items:=st.cur.items++[⟨k,t⟩]} (.own t35) (by show(st.cur.items++[(⟨k,t⟩:ItN)]).length≤_;simp;omega) _)) ?_;iterate 3 refine AX ?_
  refine APlanI.gp rfl rfl rfl rfl aB (zC U52 rfl Z50 (tm rfl)) ?_;refine APlanI.gf rfl rfl rfl rfl aB (λ_ hI=>zM G50 (tm rfl) hI (biI (f:=0) hpre rfl rfl)) ?_;iterate 4 refine AX ?_
  refine APlanI.p rfl rfl (zC U112 rfl Z4 (tm rfl)) ?_;refine APlanI.s0 rfl (zL Z4 (tm rfl) (tm rfl) rfl rfl (.inl rfl) ((oN _ _ hne).trans (oS _ _ _)) (lB rfl)) ?_;rintro _ _ ⟨rfl,hH⟩;obtain rfl:=hH.symm;try first|rw[sS]|rw[sU aB]
  refine⟨by exact oS _ _ _,?_⟩;refine AX ?_;refine Ret.go' .nil _ (hRa _) ?_;refine⟨(afW K tl).live t35,.own t35,hK.items hf35,?_⟩;have e:(ceC k t st).free=decide (((ahQ (st.cur.items++[(⟨k,t⟩:ItN)])).length:Int)=((st.cur.items++[(⟨k,t⟩:ItN)]).length:Int)):=by
   unfold ceC;simp only[hh41,decide_true,Bool.true_and];exact aQ.2 aA
  unfold rdR;rw[e];rfl
 have hh41:=hg41;try simp only[aL]at hh41
 iterate 13 refine AX ?_
 refine APlanI.p rfl rfl (zC U112 rfl Z4 (tm rfl)) ?_;refine APlanI.s0 rfl (zL Z4 (tm rfl) (tm rfl) rfl rfl (.inl rfl) ((oN _ _ hne).trans (oS _ _ _)) (lB rfl)) ?_;rintro _ _ ⟨rfl,hH⟩;obtain rfl:=hH.symm;try first|rw[sS]|rw[sU aB]
 refine⟨by exact oS _ _ _,?_⟩;refine AX ?_;refine Ret.go' .nil _ (hRa _) ?_;refine⟨(afW K tl).live t35,.own t35,hK.items hf35,?_⟩;have e:(ceC k t st).free=false:=by unfold ceC;simp[hh41]
 unfold rdR;rw[e];rfl
theorem beK(H0 K:Heap)(s:List UInt8)(st:RdN)(br bs c:Nat)(pre pad:List AV)(tl tf:Tail)(hK:RdK H0 K br bs tl tf)(_:pre.length=3*st.ini.length)(_:st.ini.length≤3)(at_:Int)(hl:st.loc<s.length)(hsl:s.length≤1000)(hc:(s.getD st.loc 0).toNat<128)(H:Heap)(hH:H=RH s st K br bs c pre pad tl tf):ACall prog 138 [.ptr (some ⟨br,0,none⟩),.int .i64 at_] H (λy H'=>y= .str [s.getD st.loc 0]∧H'=RH s (st.to (st.loc+1)) K br bs c pre pad tl tf):=by
 subst hH;unfold RH;have hne:=hK.ne;have hne2:=hK.ne.symm;refine .of_body func138 rfl ntmps138 results138 rfl ?_;iterate 6 refine AX ?_
 refine .drawI (λH2=>H2.objs br=some (rdR s st bs c tf)) [(0,true),(1,true),(2,true),(3,true),(4,true),(5,true),(6,true),(7,true),(8,true),(9,true),(10,true),(11,true),(12,true),(13,true),(14,true)] (by exact(oN _ _ hne).trans (oS _ _ _)) rfl aE ?_;iterate 2 refine AX ?_
 refine .p rfl rfl (zC U112 rfl Z9 (tm rfl)) ?_;refine .f rfl rfl (λ_ hI=>zM G9 (tm rfl) (hI) rfl) ?_;iterate 2 refine AX ?_
 refine .p rfl rfl (zC U112 rfl Z3 (tm rfl)) ?_;refine .f rfl rfl (λ_ hI=>zM G3 (tm rfl) (hI) rfl) ?_;refine AX ?_;refine .f rfl rfl (λ_ hI=>zB call215 (evs1 rfl) (decode1A s st.loc hl hc _)) ?_;iterate 8 refine AX ?_
 refine .seqTo 29 (.bool (false)) [0,1,4,6] ?_ ?_
 ·iterate 4 refine AX ?_
  refine zD (t:=22) rfl (λhg22=>?_) (λhg22=>?_)
  ·have hh22:=hg22;try simp only[aL]at hh22
   iterate 6 refine AX ?_
   refine .p rfl (yI (tm rfl) aB zT) ?_;refine AX ?_;exact⟨rfl,zS rfl (by(exfalso;simp at *;done)) sX,rfl⟩
  have hh22:=hg22;try simp only[aL]at hh22
  iterate 3 refine AX ?_
  refine zD (t:=25) rfl (λhg25=>?_) (λhg25=>?_)
  ·have hh25:=hg25;try simp only[aL]at hh25
   iterate 5 refine AX ?_
   exact⟨rfl,zS rfl (by(exfalso;simp at *;omega)) sX,rfl⟩
  have hh25:=hg25;try simp only[aL]at hh25
  iterate 5 refine AX ?_
  exact⟨rfl,zS rfl aD sX,rfl⟩
 refine .sub [(29,_),(0,_),(1,_),(4,_),(6,_)] sX ?_;refine .cond_false (tm rfl) aD ?_;iterate 6 refine AX ?_
 refine .p rfl (zC U112 rfl Z3 (tm rfl)) ?_;iterate 4 refine AX ?_
 refine .p rfl (zC U112 rfl Z3 (tm rfl)) (.e0 (zL Z3 (tm rfl) (tm rfl) rfl rfl (.inl rfl) ((oN _ _ hne).trans (oS _ _ _)) (lB rfl)) ?_);try first|rw[sS]|rw[sU aB]
 iterate 3 refine AX ?_
 refine .drawI (λH2=>H2.objs br=some (.box 112 [.str s,.int .i64 ((st.loc:Int)+1),.mslice (some ⟨bs,0,none⟩) (st.ini.length+1) c,afG st.frm tf,.int .i64 (st.items:Int),.bool st.free])) [(0,true),(1,true),(2,true),(3,true),(4,true),(5,true),(6,true),(7,true),(8,true),(9,true),(10,true),(11,true),(12,true),(13,true),(14,true),(15,true)] (by exact(oN _ _ hne).trans (oS _ _ _)) rfl aE ?_;iterate 2 refine AX ?_
 refine .p rfl rfl (zC U112 rfl Z9 (tm rfl)) ?_;refine .f rfl rfl (λ_ hI=>zM G9 (tm rfl) (hI) rfl) ?_;iterate 2 refine AX ?_
 refine .p rfl rfl (zC U112 rfl Z3 (tm rfl)) ?_;refine .f rfl rfl (λ_ hI=>zM G3 (tm rfl) (hI) rfl) ?_;iterate 4 refine AX ?_
 refine .p rfl rfl (zC U112 rfl Z3 (tm rfl)) ?_;refine .f rfl rfl (λ_ hI=>zM G3 (tm rfl) (hI) rfl) ?_;iterate 6 refine AX ?_
 refine⟨?_,rfl⟩;show AV.str ((s.take ((st.loc:Int)+1).toNat).drop ((st.loc:Int)+1-1).toNat)=_;rw[show((st.loc:Int)+1-1).toNat=st.loc by omega,show((st.loc:Int)+1).toNat=st.loc+1 by omega,arX hl]
theorem bbC(H0 K:Heap)(s:List UInt8)(st:RdN)(br bs c:Nat)(pre pad:List AV)(tl tf:Tail)(hK:RdK H0 K br bs tl tf)(hpre:pre.length=3*st.ini.length)(hini:st.ini.length≤3)(i:Nat)(st2:RdN)(hco:anG s i st=some st2)(h1:1≤i)(h2:i≤s.length)(hl:st.loc≤s.length)(hsc:0≤st.cur.scale∧st.cur.scale≤10000)(hsl:s.length≤1000)(H:Heap)(hH:H=RH s st K br bs c pre pad tl tf):ACall prog 139 [.ptr (some ⟨br,0,none⟩),.int .i64 (i:Int)] H (λ_ H'=>H'=RH s st2 K br bs c pre pad tl tf):=by
 subst hH;unfold RH;have hne:=hK.ne;have hne2:=hK.ne.symm;have hfr:st.free=true:=by
  unfold anG at hco;split at hco
  ·cases hco
  rename_i q;simpa using q
 unfold anG at hco;rw[aM (by rw[hfr];simp)]at hco;have h44:ayI s st.loc [48,35,63]=true→¬s.getD (i-1) 0=44:=λq z=>by rw[aN q,aN z]at hco;cases hco
 refine ACall.of_body func139 rfl ntmps139 results139 rfl ?_;refine AWP.seqTo 4 (.bool (ayI s st.loc [48,35,63])) [0,1] ?_ ?_
 ·refine AWP.drawI (λH2=>H2.objs br=some (rdR s st bs c tf)) [(0,true),(1,true),(2,true),(3,true),(4,true),(5,true),(6,true),(7,true),(8,true),(9,true),(10,true),(11,true),(12,true),(13,true),(14,true),(15,true),(16,true),(17,true),(18,true),(19,true),(20,true),(21,true),(22,true),(23,true)] (by exact(oN _ _ hne).trans (oS _ _ _)) rfl aE ?_;iterate 2 refine AX ?_
  refine APlanI.p rfl rfl (zC U112 rfl Z3 (tm rfl)) ?_;refine APlanI.f rfl rfl (λ_ hI=>zM G3 (tm rfl) (hI) rfl) ?_;iterate 2 refine AX ?_
  refine APlanI.p rfl rfl (zC U112 rfl Z9 (tm rfl)) ?_;refine APlanI.f rfl rfl (λ_ hI=>zM G9 (tm rfl) (hI) rfl) ?_;iterate 3 refine AX ?_
  refine alP (t:=15) rfl (λhg15=>?_) (λhg15=>?_)
  ·have hh15:=hg15;try simp only[aL]at hh15
   iterate 2 refine AX ?_
   refine APlanI.gp rfl rfl rfl rfl aB (zC U112 rfl Z9 (tm rfl)) ?_;refine APlanI.gf rfl rfl rfl rfl aB (λ_ hI=>zM G9 (tm rfl) (hI) rfl) ?_;iterate 2 refine AX ?_
   refine APlanI.gp rfl rfl rfl rfl aB (zC U112 rfl Z3 (tm rfl)) ?_;refine APlanI.gf rfl rfl rfl rfl aB (λ_ hI=>zM G3 (tm rfl) (hI) rfl) ?_;refine AX ?_;refine APlanI.gf rfl rfl rfl rfl aB (λ_ hI=>zB C135 (.cons (zO rfl) (evs1 rfl)) (amZ [48,35,63] (s.getD st.loc 0) _)) ?_;iterate 4 refine AX ?_
   exact⟨rfl,zS rfl (by(unfold ayI inB;rw[aU (show st.loc<s.length by omega)];rfl)) sX,rfl⟩
  have hh15:=hg15;try simp only[aL]at hh15
  iterate 14 refine AX ?_
  exact⟨rfl,zS rfl (by(unfold ayI;rw[aS (show¬st.loc<s.length by omega)];rfl)) sX,rfl⟩
 refine AWP.sub [(4,_),(0,_),(1,_)] sX ?_;iterate 6 refine AX ?_
 refine .p rfl (zC U112 rfl Z4 (tm rfl)) ?_;iterate 5 refine AX ?_
 refine AWP.cond_false (tm rfl) (by rw[hfr];rfl) ?_;iterate 3 refine AX ?_
 refine zD (t:=43) rfl (λhg43=>?_) (λhg43=>?_)
 ·have hh43:=hg43;try simp only[aL]at hh43
  iterate 2 refine AX ?_
  refine .gp rfl rfl rfl aB (zC U112 rfl Z9 (tm rfl)) (.gs rfl rfl rfl aB (zM G9 (tm rfl) ((oN _ _ hne).trans (oS _ _ _)) rfl) ?_);rintro _ _ ⟨rfl,hH⟩;obtain rfl:=hH.symm;iterate 8 refine AX ?_
  refine AWP.cx rfl (λhc36=>?_) (λhc36=>?_)
  ·exact absurd (fK.1 (show(s.getD (i-1) 0).toNat=(44:UInt8).toNat by have e:((i:Int)-1).toNat=i-1:=aA;rw[e]at hc36;show _=44;omega)) (h44 hg43)
  iterate 6 refine AX ?_
  refine AWP.cx rfl (λhc56=>?_) (λhc56=>?_)
  ·iterate 2 refine AX ?_
   refine .cl rfl C214 (evs1 rfl) (afP s st br bs c tf hini _ (show _=some (rdR s st bs c tf)from(oN _ _ hne).trans (oS _ _ _))) ?_;refine AX ?_;refine .p rfl (zC U52 rfl Z4 (tm rfl)) ?_;refine .e0 (afN (f:=1) Z4 (tm rfl) zT rfl rfl (oS _ _ _) hpre rfl (by show 1<3;decide)) ?_;rw[sS];iterate 2 refine AX ?_
   refine Ret.go' .nil _ (hRa _) ?_;rw[aN aB,aM (h44 aB)]at hco;obtain rfl:=Option.some.inj hco;rfl
  iterate 2 refine AX ?_
  refine .cl rfl C214 (evs1 rfl) (afP s st br bs c tf hini _ (show _=some (rdR s st bs c tf)from(oN _ _ hne).trans (oS _ _ _))) ?_;refine AX ?_;refine .p rfl (zC U52 rfl Z3 (tm rfl)) ?_;refine .e rfl (zM G3 (tm rfl) (oS _ _ _) (biI (f:=2) hpre rfl rfl)) ?_;iterate 2 refine AX ?_
  refine .p rfl (zC U52 rfl Z3 (tm rfl)) ?_;refine .e0 (afN (f:=2) Z3 (tm rfl) (tm rfl) rfl rfl (oS _ _ _) hpre rfl (by show 2<3;decide)) ?_;rw[sS];iterate 2 refine AX ?_
  refine Ret.go' .nil _ (hRa _) ?_;first
  |(rw[aN aB,aM (h44 aB)]at hco;obtain rfl:=Option.some.inj hco;rfl)
  |(rw[aM aI]at hco;obtain rfl:=Option.some.inj hco;rfl)
 have hh43:=hg43;try simp only[aL]at hh43
 iterate 12 refine AX ?_
 refine AWP.cond_false (tm rfl) aD ?_;iterate 6 refine AX ?_
 refine AWP.cx rfl (λhc56=>?_) (λhc56=>?_)
 ·iterate 2 refine AX ?_
  refine .cl rfl C214 (evs1 rfl) (afP s st br bs c tf hini _ (show _=some (rdR s st bs c tf)from(oN _ _ hne).trans (oS _ _ _))) ?_;refine AX ?_;refine .p rfl (zC U52 rfl Z4 (tm rfl)) ?_;refine .e0 (afN (f:=1) Z4 (tm rfl) zT rfl rfl (oS _ _ _) hpre rfl (by show 1<3;decide)) ?_;rw[sS];iterate 2 refine AX ?_
  refine Ret.go' .nil _ (hRa _) ?_;first
  |(rw[aN aB,aM (h44 aB)]at hco;obtain rfl:=Option.some.inj hco;rfl)
  |(rw[aM aI]at hco;obtain rfl:=Option.some.inj hco;rfl)
 iterate 2 refine AX ?_
 refine .cl rfl C214 (evs1 rfl) (afP s st br bs c tf hini _ (show _=some (rdR s st bs c tf)from(oN _ _ hne).trans (oS _ _ _))) ?_;refine AX ?_;refine .p rfl (zC U52 rfl Z3 (tm rfl)) ?_;refine .e rfl (zM G3 (tm rfl) (oS _ _ _) (biI (f:=2) hpre rfl rfl)) ?_;iterate 2 refine AX ?_
 refine .p rfl (zC U52 rfl Z3 (tm rfl)) ?_;refine .e0 (afN (f:=2) Z3 (tm rfl) (tm rfl) rfl rfl (oS _ _ _) hpre rfl (by show 2<3;decide)) ?_;rw[sS];iterate 2 refine AX ?_
 refine Ret.go' .nil _ (hRa _) ?_;first
 |(rw[aN aB,aM (h44 aB)]at hco;obtain rfl:=Option.some.inj hco;rfl)
 |(rw[aM aI]at hco;obtain rfl:=Option.some.inj hco;rfl)
end
end Go.Proofs.YteedncdcbgplfaaGreatDoor
