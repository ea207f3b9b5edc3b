import Derived.Test.YteedncdcbgplfaaGreatDoorT1
set_option maxHeartbeats 1000000
namespace Go.Proofs.YteedncdcbgplfaaGreatDoor
open Go.Proofs.Tryz
open Go Go.RowKit
variable{i:Nat}{k:Int}
structure ItN where
 kind:Int
 text:List UInt8
variable{l:List ItN}
structure SecN where
 items:List ItN
 grouped:Bool
 scale:Int
def byT(n b0 b1 b2 b3:Nat):Nat:=
 if b0<128 then 1
 else if b0/32=6∧(1<n∧b1/64=2)then(if b0%32*64+b1%64≥128 then 2 else 0)
 else if b0/16=14∧(1<n∧b1/64=2)∧(2<n∧b2/64=2)then
  (if b0%16*4096+b1%64*64+b2%64≥2048∧(b0%16*4096+b1%64*64+b2%64<55296∨(57344≤b0%16*4096+b1%64*64+b2%64∧b0%16*4096+b1%64*64+b2%64≤1114111))then 3 else 0)
 else if b0/8=30∧(1<n∧b1/64=2)∧(2<n∧b2/64=2)∧(3<n∧b3/64=2)then
  (if b0%8*262144+b1%64*4096+b2%64*64+b3%64≥65536∧(b0%8*262144+b1%64*4096+b2%64*64+b3%64<55296∨(57344≤b0%8*262144+b1%64*4096+b2%64*64+b3%64∧b0%8*262144+b1%64*4096+b2%64*64+b3%64≤1114111))then 4 else 0)
 else 0
def anF(s:List UInt8):Nat:=if s=[]then 0 else byT s.length (s.getD 0 0).toNat (s.getD 1 0).toNat (s.getD 2 0).toNat (s.getD 3 0).toNat
def zV(l:List ItN)(k:Int):Nat:=l.countP (λx=>decide (x.kind=k))
def atK(l:List ItN)(k:Int):Nat:=l.findIdx (λx=>decide (x.kind=k))
def afS(x:ItN):Bool:=
 if x.kind=1 then decide (0<anF x.text∧anF x.text=x.text.length)
 else if x.kind=2 then decide (x.text=[48]∨x.text=[35]∨x.text=[63])
 else if x.kind=5 then decide (x.text=[43]∨x.text=[45])
 else decide (1≤x.kind∧x.kind≤9∧x.text=[])
def abF:List ItN→Bool
 |x::y::r=>decide (x.kind=2∧y.kind=2)||abF (y::r)
 |_=>false
def yC(l:List ItN)(ks:List Int):Nat:=l.findIdx (λx=>decide (x.kind∈ks))
def afT(l:List ItN):List ItN:=l.take (yC l [3,5,6])
def shp(l:List ItN):Int:=
 if zV l 7+zV l 8>0∧zV l 2+zV l 3+zV l 4+zV l 5+zV l 6>0 then 0
 else if zV l 7=1∧zV l 8=0 then 5
 else if zV l 7=0∧zV l 8>0∧zV l 9=0 then 6
 else if zV l 7=0∧zV l 8=0∧zV l 2+zV l 3+zV l 4+zV l 5+zV l 6=0 then 1
 else if zV l 6=1∧zV l 3+zV l 4+zV l 5=0 then
  (if 0<(l.take (yC l [6])).length∧((l.take (yC l [6])).getD ((l.take (yC l [6])).length-1) ⟨0,[]⟩).kind=2∧zV (l.take (yC l [6])) 2≤30∧1≤zV (l.drop (yC l [6])) 2∧zV (l.drop (yC l [6])) 2≤4 then 4 else 0)
 else if zV l 6=0∧zV l 2>0∧zV l 3≤1∧zV l 4≤1∧zV l 5≤1∧zV l 7=0 then
  (if zV ((l.take (yC l [5])).take (yC (l.take (yC l [5])) [3])) 2>30∨zV ((l.take (yC l [5])).drop (yC (l.take (yC l [5])) [3])) 2>30 then 0
   else if(l.drop (yC l [5])).length=0 then 2
   else if yC (l.drop (yC l [5])) [3]=(l.drop (yC l [5])).length∧zV (l.take (yC l [5])) 2>0∧1≤zV (l.drop (yC l [5])) 2∧zV (l.drop (yC l [5])) 2≤4 then 3 else 0)
 else 0
def zY(s:SecN):Int:=
 if s.items.all afS=false then 0
 else if shp s.items=2 then(if 0≤s.scale∧s.scale≤9∧(0<zV (afT s.items) 2∨s.scale=0)∧(s.grouped=false∨abF (afT s.items)=true)then 2 else 0)
 else if s.grouped=false∧s.scale=0 then shp s.items else 0
def alH(l:List ItN):Nat:=min (atK l 3) (min (atK l 5) (atK l 6))
def axW(s:SecN):Int:=
 if zV s.items 2=0∨zV s.items 3>1∨zV s.items 4>1∨zV s.items 5>1∨zV (s.items.take (alH s.items)) 2>30∨zV ((s.items.take (atK s.items 5)).drop (alH s.items)) 2>30 then 0
 else if atK s.items 5<s.items.length then
  (if zV (s.items.take (atK s.items 5)) 2=0∨zV (s.items.drop (atK s.items 5)) 2<1∨zV (s.items.drop (atK s.items 5)) 2>4∨zV (s.items.drop (atK s.items 5)) 3>0∨s.grouped=true∨s.scale≠0 then 0 else 3)
 else if s.grouped=true∧abF (s.items.take (alH s.items))=false∨s.scale<0∨s.scale>9∨s.scale>0∧zV (s.items.take (alH s.items)) 2=0 then 0 else 2
def bgW(l:List ItN):Int:=
 if zV l 6>1∨atK l 6=0∨(l.getD (atK l 6-1) ⟨0,[]⟩).kind≠2∨zV l 3+zV l 4+zV l 5>0 then 0
 else if zV (l.drop (atK l 6)) 2<1∨zV (l.drop (atK l 6)) 2>4∨zV (l.take (atK l 6)) 2>30 then 0 else 4
def agX(s:SecN):Int:=
 if s.items.all afS=false then 0
 else if zV s.items 7>0 then(if zV s.items 7=1∧zV s.items 2+(zV s.items 3+zV s.items 4+zV s.items 5+zV s.items 6)+zV s.items 8=0∧(s.grouped=false∧s.scale=0)then 5 else 0)
 else if zV s.items 8>0 then(if zV s.items 2+(zV s.items 3+zV s.items 4+zV s.items 5+zV s.items 6)+zV s.items 9=0∧(s.grouped=false∧s.scale=0)then 6 else 0)
 else if zV s.items 2+(zV s.items 3+zV s.items 4+zV s.items 5+zV s.items 6)=0 then(if s.grouped=false∧s.scale=0 then 1 else 0)
 else if zV s.items 6>0 then(if s.grouped=false∧s.scale=0 then bgW s.items else 0)
 else axW s
theorem bnP(l:List ItN)(k:Int):yC l [k]=atK l k:=by
 unfold yC atK;congr 1;funext x;simp
theorem ajM(l:List ItN):yC l [3,5,6]=alH l:=by
 unfold yC alH atK;induction l with
 |nil=>rfl
 |cons x l ih=>
  simp only[List.findIdx_cons];by_cases h3:x.kind=3
  ·simp[h3]
  by_cases h5:x.kind=5
  ·simp[h5]
  by_cases h6:x.kind=6
  ·simp[h6]
  simp[h3,h5,h6]at *;try omega
theorem avN(l:List ItN)(k:Int):atK l k=l.length↔zV l k=0:=by
 unfold atK zV;rw[List.findIdx_eq_length,List.countP_eq_zero];simp
theorem atI(l:List ItN)(k:Int):atK l k≤l.length:=List.findIdx_le_length
theorem brT(l:List ItN)(k:Int)(n:Nat)(hn:n≤l.length):atK (l.take n) k=min (atK l k) n:=by
 unfold atK;induction l generalizing n with
 |nil=>simp at hn;subst hn;simp
 |cons x l ih=>
  cases n with
  |zero=>simp
  |succ n=>
   simp only[eI,List.findIdx_cons];have:=ih n (by simpa using hn);by_cases h:x.kind=k
   ·simp[h]
   simp[h];exact Nat.min_comm _ _
theorem adL(s:SecN):agX s=zY s:=by
 unfold agX zY;by_cases ho:s.items.all afS=false
 ·rw[aN ho,aN ho]
 rw[aM ho,aM ho];obtain⟨l,gr,sc⟩:=s;simp only at *;have e5:=avN l 5;have e6:=avN l 6;have e3:=avN l 3;have l5:=atI l 5;have l6:=atI l 6;have l3:=atI l 3;unfold shp axW bgW afT;simp only[bnP,ajM,bC,aU];have t3:=brT l 3 (atK l 5) l5;by_cases h7:zV l 7>0
 ·rw[aN h7];by_cases hn:zV l 2+zV l 3+zV l 4+zV l 5+zV l 6>0
  ·simp only[aN (show zV l 7+zV l 8>0∧zV l 2+zV l 3+zV l 4+zV l 5+zV l 6>0 by omega)];rw[aJ];simp
  simp only[aM (show¬(zV l 7+zV l 8>0∧zV l 2+zV l 3+zV l 4+zV l 5+zV l 6>0) by omega)];by_cases h71:zV l 7=1∧zV l 8=0
  ·simp only[aN h71];have:(zV l 7=1∧zV l 2+(zV l 3+zV l 4+zV l 5+zV l 6)+zV l 8=0∧(gr=false∧sc=0))↔(gr=false∧sc=0):=⟨λh=>h.2.2,λh=>⟨h71.1,by omega,h⟩⟩;simp only[this];simp
  simp only[aM h71,aM (show¬(zV l 7=0∧zV l 8>0∧zV l 9=0) by omega),aM (show¬(zV l 7=0∧zV l 8=0∧zV l 2+zV l 3+zV l 4+zV l 5+zV l 6=0) by omega),aM (show¬(zV l 6=1∧zV l 3+zV l 4+zV l 5=0) by omega),aM (show¬(zV l 6=0∧zV l 2>0∧zV l 3≤1∧zV l 4≤1∧zV l 5≤1∧zV l 7=0) by omega)];rw[aJ];simp
 rw[aM h7];by_cases h8:zV l 8>0
 ·rw[aN h8];by_cases hn:zV l 2+zV l 3+zV l 4+zV l 5+zV l 6>0
  ·simp only[aN (show zV l 7+zV l 8>0∧zV l 2+zV l 3+zV l 4+zV l 5+zV l 6>0 by omega)];rw[aJ];simp
  simp only[aM (show¬(zV l 7+zV l 8>0∧zV l 2+zV l 3+zV l 4+zV l 5+zV l 6>0) by omega),aM (show¬(zV l 7=1∧zV l 8=0) by omega)];by_cases h9:zV l 9=0
  ·simp only[aN (show zV l 7=0∧zV l 8>0∧zV l 9=0 by omega)];have:(zV l 2+(zV l 3+zV l 4+zV l 5+zV l 6)+zV l 9=0∧(gr=false∧sc=0))↔(gr=false∧sc=0):=⟨λh=>h.2,λh=>⟨by omega,h⟩⟩;simp only[this];simp
  simp only[aM (show¬(zV l 7=0∧zV l 8>0∧zV l 9=0) by omega),aM (show¬(zV l 7=0∧zV l 8=0∧zV l 2+zV l 3+zV l 4+zV l 5+zV l 6=0) by omega),aM (show¬(zV l 6=1∧zV l 3+zV l 4+zV l 5=0) by omega),aM (show¬(zV l 6=0∧zV l 2>0∧zV l 3≤1∧zV l 4≤1∧zV l 5≤1∧zV l 7=0) by omega)];rw[aJ];simp
 rw[aM h8];simp only[aM (show¬(zV l 7+zV l 8>0∧zV l 2+zV l 3+zV l 4+zV l 5+zV l 6>0) by omega),aM (show¬(zV l 7=1∧zV l 8=0) by omega),aM (show¬(zV l 7=0∧zV l 8>0∧zV l 9=0) by omega)];by_cases hz:zV l 2+(zV l 3+zV l 4+zV l 5+zV l 6)=0
 ·rw[aN hz];simp only[aN (show zV l 7=0∧zV l 8=0∧zV l 2+zV l 3+zV l 4+zV l 5+zV l 6=0 by omega)];simp
 rw[aM hz];simp only[aM (show¬(zV l 7=0∧zV l 8=0∧zV l 2+zV l 3+zV l 4+zV l 5+zV l 6=0) by omega)];by_cases h6:zV l 6>0
 ·rw[aN h6];simp only[aM (show¬(zV l 6=0∧zV l 2>0∧zV l 3≤1∧zV l 4≤1∧zV l 5≤1∧zV l 7=0) by omega)];have hm:min (atK l 6) l.length=atK l 6:=by omega
  simp only[hm];have key:(if zV l 6>1∨atK l 6=0∨(l.getD (atK l 6-1) ⟨0,[]⟩).kind≠2∨zV l 3+zV l 4+zV l 5>0 then(0:Int)
      else if zV (l.drop (atK l 6)) 2<1∨zV (l.drop (atK l 6)) 2>4∨zV (l.take (atK l 6)) 2>30 then 0 else 4)=
   (if zV l 6=1∧zV l 3+zV l 4+zV l 5=0 then
     (if 0<atK l 6∧((l.take (atK l 6)).getD (atK l 6-1) ⟨0,[]⟩).kind=2∧zV (l.take (atK l 6)) 2≤30∧1≤zV (l.drop (atK l 6)) 2∧zV (l.drop (atK l 6)) 2≤4 then 4 else 0)else 0):=by
   by_cases h61:zV l 6=1∧zV l 3+zV l 4+zV l 5=0
   ·rw[aN h61];by_cases hk:atK l 6=0
    ·rw[aN (Or.inr (Or.inl hk)),aM (λh=>by omega)]
    have eg:(l.take (atK l 6)).getD (atK l 6-1) ⟨0,[]⟩=l.getD (atK l 6-1) ⟨0,[]⟩:=by
     simp only[aS];rw[dZ aA]
    rw[eg];by_cases hd:(l.getD (atK l 6-1) ⟨0,[]⟩).kind=2
    ·rw[aM (by rintro(h|h|h|h)<;>first|exact h hd|omega)];by_cases hc:zV (l.drop (atK l 6)) 2<1∨zV (l.drop (atK l 6)) 2>4∨zV (l.take (atK l 6)) 2>30
     ·rw[aN hc,aM (λh=>by omega)]
     rw[aM hc,aN ⟨by omega,hd,by omega,by omega,by omega⟩]
    rw[aN (Or.inr (Or.inr (Or.inl hd))),aM (λh=>hd h.2.1)]
   rw[aM h61,aK]
  rw[key];by_cases h61:zV l 6=1∧zV l 3+zV l 4+zV l 5=0
  ·simp only[aN h61];exact(λc hc=>by rw[aM hc]:∀c:Int,c≠2→(if gr=false∧sc=0 then c else 0)=if c=2 then _ else if gr=false∧sc=0 then c else 0) _ (by split<;>omega)
  simp only[aM h61];simp
 rw[aM h6];simp only[aM (show¬(zV l 6=1∧zV l 3+zV l 4+zV l 5=0) by omega)];have he:alH l=min (atK l 3) (atK l 5):=by unfold alH;have:=e6.2 aA;omega
 have ht:(l.take (atK l 5)).take (atK (l.take (atK l 5)) 3)=l.take (alH l):=by rw[t3,List.take_take,he];congr 1;omega
 have hd:(l.take (atK l 5)).drop (atK (l.take (atK l 5)) 3)=(l.take (atK l 5)).drop (alH l):=by rw[t3,he]
 simp only[ht,hd];by_cases hA:zV l 6=0∧zV l 2>0∧zV l 3≤1∧zV l 4≤1∧zV l 5≤1∧zV l 7=0
 ·simp only[aN hA];by_cases hB:zV (l.take (alH l)) 2>30∨zV ((l.take (atK l 5)).drop (alH l)) 2>30
  ·simp only[aN hB];rw[aK];simp
  simp only[aM hB];rw[aJ];by_cases hx:atK l 5<l.length
  ·rw[aN hx];simp only[aM (show¬l.length-atK l 5=0 by omega)];have ed:=avN (l.drop (atK l 5)) 3;rw[bC]at ed;by_cases hC:zV (l.take (atK l 5)) 2=0∨zV (l.drop (atK l 5)) 2<1∨zV (l.drop (atK l 5)) 2>4∨zV (l.drop (atK l 5)) 3>0
   ·simp only[aM (show¬(atK (l.drop (atK l 5)) 3=l.length-atK l 5∧zV (l.take (atK l 5)) 2>0∧1≤zV (l.drop (atK l 5)) 2∧zV (l.drop (atK l 5)) 2≤4) by omega)];rw[aK];simp
   simp only[aN (show(atK (l.drop (atK l 5)) 3=l.length-atK l 5∧zV (l.take (atK l 5)) 2>0∧1≤zV (l.drop (atK l 5)) 2∧zV (l.drop (atK l 5)) 2≤4) by omega)];cases gr<;>by_cases hs:sc=0<;>simp[hs]<;>omega
  rw[aM hx];simp only[aN (show l.length-atK l 5=0 by omega)];cases gr<;>cases hbs:abF (l.take (alH l))<;>simp<;>(repeat' split)<;>first|rfl|omega
 simp only[aM hA];rw[aK];simp
def ayM(s:List UInt8)(n:Nat):Prop:=∀i,1≤i→i<n→128≤(s.getD i 0).toNat∧(s.getD i 0).toNat<192
instance (s:List UInt8) (n:Nat):Decidable (ayM s n):=decidable_of_iff (∀i,i<n→1≤i→128≤(s.getD i 0).toNat∧(s.getD i 0).toNat<192) ⟨λh i a b=>h i b a,λh i a b=>h i b a⟩
def anM(s:List UInt8)(v:Nat):Nat→Nat
 |0=>v
 |i+1=>64*anM s v i+((s.getD (i+1) 0).toNat-128)
def anG(s:List UInt8)(n v low:Nat):Nat:=
 if s.length<n then 0 else if¬ayM s n then 0
 else if anM s v (n-1)<low∨1114111<anM s v (n-1)∨55296≤anM s v (n-1)∧anM s v (n-1)<57344 then 0 else n
def awS(s:List UInt8):Nat:=
 if s=[]then 0
 else if(s.getD 0 0).toNat<128 then 1
 else if 194≤(s.getD 0 0).toNat∧(s.getD 0 0).toNat<224 then anG s 2 ((s.getD 0 0).toNat-192) 128
 else if 224≤(s.getD 0 0).toNat∧(s.getD 0 0).toNat<240 then anG s 3 ((s.getD 0 0).toNat-224) 2048
 else if 240≤(s.getD 0 0).toNat∧(s.getD 0 0).toNat<245 then anG s 4 ((s.getD 0 0).toNat-240) 65536
 else 0
theorem bwX (s : List UInt8) : ayM s 2 ↔ (128 ≤ (s.getD 1 0).toNat ∧ (s.getD 1 0).toNat < 192) :=
 ⟨fun h => h 1 (by omega) (by omega), fun h i a b => by have : i = 1 := by omega
                                                        subst this; exact h⟩
theorem bbO(s:List UInt8)(n:Nat)(hn:1≤n):ayM s (n+1)↔ayM s n∧(128≤(s.getD n 0).toNat∧(s.getD n 0).toNat<192):=
 ⟨λh=>⟨λi a b=>h i a aA,h n hn aA⟩,λh i a b=>by
   rcases bV i n with q|q
   ·exact h.1 i a q
   have:i=n:=by omega
   subst this;exact h.2⟩
theorem bjX(n b0 b1 b2 b3:Nat)(hb0:b0<256)(hb1:b1<256)(hb2:b2<256)(hb3:b3<256):
 (if b0<128 then 1
 else if 194≤b0∧b0<224 then(if n<2 then 0 else if¬(128≤b1∧b1<192)then 0 else if 64*(b0-192)+(b1-128)<128∨1114111<64*(b0-192)+(b1-128)∨55296≤64*(b0-192)+(b1-128)∧64*(b0-192)+(b1-128)<57344 then 0 else 2)
 else if 224≤b0∧b0<240 then(if n<3 then 0 else if¬((128≤b1∧b1<192)∧(128≤b2∧b2<192))then 0 else if 64*(64*(b0-224)+(b1-128))+(b2-128)<2048∨1114111<64*(64*(b0-224)+(b1-128))+(b2-128)∨55296≤64*(64*(b0-224)+(b1-128))+(b2-128)∧64*(64*(b0-224)+(b1-128))+(b2-128)<57344 then 0 else 3)
 else if 240≤b0∧b0<245 then(if n<4 then 0 else if¬(((128≤b1∧b1<192)∧(128≤b2∧b2<192))∧(128≤b3∧b3<192))then 0 else if 64*(64*(64*(b0-240)+(b1-128))+(b2-128))+(b3-128)<65536∨1114111<64*(64*(64*(b0-240)+(b1-128))+(b2-128))+(b3-128)∨55296≤64*(64*(64*(b0-240)+(b1-128))+(b2-128))+(b3-128)∧64*(64*(64*(b0-240)+(b1-128))+(b2-128))+(b3-128)<57344 then 0 else 4)
 else 0)=byT n b0 b1 b2 b3:=by
 unfold byT;by_cases h1:b0<128
 ·rw[aN h1,aN h1]
 rw[aM h1,aM h1];by_cases k2:194≤b0∧b0<224
 ·rw[aN k2]
  repeat' split
  all_goals omega
 rw[aM k2];by_cases k3:224≤b0∧b0<240
 ·rw[aN k3]
  repeat' split
  all_goals omega
 rw[aM k3]
 repeat' split
 all_goals omega
theorem bvC(s:List UInt8):awS s=anF s:=by
 unfold awS anF anG;by_cases h0:s=[]
 ·rw[aN h0,aN h0]
 rw[aM h0,aM h0];have c:=bjX s.length (s.getD 0 0).toNat (s.getD 1 0).toNat (s.getD 2 0).toNat (s.getD 3 0).toNat (UInt8.toNat_lt _) (UInt8.toNat_lt _) (UInt8.toNat_lt _) (UInt8.toNat_lt _);rw[←c];simp only[bbO s 3 aA,bbO s 2 aA,bwX s];rfl
section
open Go Go.RowKit
set_option maxRecDepth 100000
theorem zr57:ZR 57 [.int .i64 0,.str []]:=ZRi V57
theorem pl57:PL 57 [(0,1),(1,1)]:=PLi U57
def ItN.cs(x:ItN):List AV:=[.int .i64 x.kind,.str x.text]
def ItN.av(x:ItN):AV:=.agg x.cs
def itS(l:List ItN)(tl:Tail):AV:=.slice 2 (l.map ItN.av) tl
def SecN.cs(s:SecN)(tl:Tail):List AV:=[itS s.items tl,.bool s.grouped,.int .i64 s.scale]
theorem byM{l:List Int}{v:Int}(h:∀q,q<i→l[q]?≠some v)(hi:l.length≤i):v∉l:=λhm=>by
 obtain⟨q,hq,e⟩:=cW hm;exact h q aA (by rw[aV hq,e])
theorem bvW{α:Type}{l:List α}{v:α}(h:∀q,q<i→l[q]?≠some v)(hi:i<l.length)(hv:¬v=l[i]):∀q,q<i+1→l[q]?≠some v:=λq hq e=>by
 rcases bV q i with hq2|hq2
 ·exact h q hq2 e
 have:q=i:=by omega
 subst this;rw[aV hi]at e;exact hv (Option.some.inj e).symm
theorem akS{α:Type}{p:α→Bool}{l:List α}(h:∀q x,q<i→l[q]?=some x→p x=false)(hi:i<l.length)(hv:p l[i]=false):∀q x,q<i+1→l[q]?=some x→p x=false:=λq x hq e=>by
 rcases bV q i with hq2|hq2
 ·exact h q x hq2 e
 have:q=i:=by omega
 subst this;rw[aV hi]at e;rw[←Option.some.inj e];exact hv
theorem aoF{α:Type}{p:α→Bool}{l:List α}(h:∀q x,q<i→l[q]?=some x→p x=false)(hi:i<l.length)(hv:p l[i]=true):l.findIdx p=i:=by
 rw[List.findIdx_eq hi];exact⟨hv,λj hj=>by rw[h j _ hj (aV aA)]⟩
theorem akR{α:Type}{p:α→Bool}{l:List α}(h:∀q x,q<i→l[q]?=some x→p x=false)(hi:l.length≤i):l.findIdx p=l.length:=by
 rw[List.findIdx_eq_length];intro x hx;obtain⟨q,hq,e⟩:=cW hx;rw[h q x aA (by rw[aV hq,e])]
def bsP(l:List Int)(tl:Tail)(v:Int)(H:Heap):Nat→Env→Heap→Prop:=λk env H1=>∃i:Nat,i≤l.length∧(∀q,q<i→l[q]?≠some v)∧env=[(0,.slice 1 (l.map (.int .i64)) tl),(1,.int .i64 v),(6,.slice 1 (l.map (.int .i64)) tl),(7,.int .i64 (l.length:Int)),(8,.int .i64 (i:Int))]∧H=H1∧k=l.length-i
theorem awQ(l:List Int)(tl:Tail)(v:Int)(hl:l.length≤1000)(H:Heap):ACall prog 243 [.slice 1 (l.map (.int .i64)) tl,.int .i64 v] H (λy H'=>∃q:Int,y= .int .i64 q∧(0≤q↔v∈l)∧H'=H):=by
 refine .of_body func243 rfl ntmps243 results243 rfl ?_;iterate 14 refine AX ?_
 refine .loopW (bsP l tl v H) (l.length) ⟨0,Nat.zero_le _,λq h=>by omega,rfl,rfl,rfl⟩ sX (hRa _) ?_;rintro _ _ _ ⟨i,hi,hno,rfl,rfl,rfl⟩;iterate 6 refine AX ?_
 refine .cx rfl (λhc9=>?_) (λhc9=>?_)
 ·iterate 20 refine AX ?_
  refine .cx rfl (λhc16=>?_) (λhc16=>?_)
  ·iterate 13 refine AX ?_
   exact⟨_,rfl,⟨λ_=>by rw[show v=_ from hc16];exact bM _,λ_=>by omega⟩,rfl⟩
  iterate 8 refine AX ?_
  refine Round.mk ⟨i+1,by omega,bvW hno aA hc16,rfl,rfl,rfl⟩ sX (hRa _) aA
 iterate 12 refine AX ?_
 exact⟨_,rfl,⟨λh=>by omega,λh=>absurd h (byM hno aA)⟩,rfl⟩
theorem arX(l:List Int)(tl:Tail)(v:Int)(hl:l.length≤1000):Fn 174 [.slice 1 (l.map (.int .i64)) tl,.int .i64 v] (.bool (decide (v∈l))):=by
 intro H;refine .of_body func174 rfl ntmps174 results174 rfl ?_;iterate 9 refine AX ?_
 refine .s rfl (zD call243 (evs2 rfl rfl) (awQ _ _ _ aB _)) ?_;rintro _ _ ⟨q,rfl,hq,hH⟩;obtain rfl:=hH.symm;iterate 6 refine AX ?_
 exact⟨congrArg AV.bool (aO.2 hq),rfl⟩
theorem bmU(x:ItN)(ks:List Int)(tl:Tail)(hl:ks.length≤1000):Fn 236 [x.av,.iptr [.slice 1 (ks.map (.int .i64)) tl]] (.bool (decide (x.kind∈ks))):=by
 intro H;refine .of_body func236 rfl ntmps236 results236 rfl ?_;iterate 9 refine AX ?_
 refine .p rfl (zA U57 rfl Z3 (tm rfl)) ?_;refine AX ?_;refine .cl rfl call174 (evs2 rfl rfl) (arX _ _ _ aB _) ?_;iterate 5 refine AX ?_
 exact⟨rfl,rfl⟩
def btY(l:List ItN)(tl:Tail)(f:FuncId)(cap:List AV)(p:ItN→Bool)(H:Heap):Nat→Env→Heap→Prop:=λk env H1=>∃i:Nat,i≤l.length∧(∀q x,q<i→l[q]?=some x→p x=false)∧env=[(0,itS l tl),(1,.func f cap),(6,itS l tl),(7,.int .i64 (l.length:Int)),(8,.int .i64 (i:Int))]∧H=H1∧k=l.length-i
theorem asY(l:List ItN)(tl:Tail)(hl:l.length≤100000)(f:FuncId)(cap:List AV)(p:ItN→Bool)(H:Heap)(hent:∀args w,(callFunc f args).run prog w= .ok (.enter f args) w)(hf:∀x,ACall prog f (x.av::cap) H (λy H'=>y= .bool (p x)∧H'=H)):ACall prog 172 [itS l tl,.func f cap] H (λy H'=>y= .int .i64 (if l.findIdx p=l.length then-1 else(l.findIdx p:Nat))∧H'=H):=by
 refine .of_body func172 rfl ntmps172 results172 rfl ?_;iterate 14 refine AX ?_
 refine .loopW (btY l tl f cap p H) (l.length) ⟨0,Nat.zero_le _,λq x h=>by omega,rfl,rfl,rfl⟩ sX (hRa _) ?_;rintro _ _ _ ⟨i,hi,hno,rfl,rfl,rfl⟩;iterate 6 refine AX ?_
 refine .cx rfl (λhc9=>?_) (λhc9=>?_)
 ·iterate 17 refine AX ?_
  refine .e rfl (ahD hent (tm rfl) (evs1 rfl) (hf _)) ?_;iterate 2 refine AX ?_
  refine .cx rfl (λhc16=>?_) (λhc16=>?_)
  ·iterate 13 refine AX ?_
   have hh:=aoF hno aA hc16;refine⟨?_,rfl⟩;rw[hh,aJ];rfl
  iterate 8 refine AX ?_
  refine Round.mk ⟨i+1,by omega,akS hno aA (by simpa using hc16),rfl,rfl,rfl⟩ sX (hRa _) aA
 iterate 12 refine AX ?_
 have hh:=akR hno aA;refine⟨?_,rfl⟩;rw[hh,aN rfl];rfl
theorem agB(l:List ItN)(tl:Tail)(hl:l.length≤100000)(ks:List Int)(tk:Tail)(hk:ks.length≤1000):Fn 163 [itS l tl,.slice 1 (ks.map (.int .i64)) tk] (.tuple [itS (l.take (yC l ks)) .shared,itS (l.drop (yC l ks)) tl]):=by
 intro H;have hcl:yC l ks≤l.length:=List.findIdx_le_length;refine .of_body func163 rfl ntmps163 results163 rfl ?_;iterate 3 refine AX ?_
 refine .p rfl (zE (acC (sz:=2) (tl:=.full))) ?_;refine .p rfl (zE (acC (sz:=2) (tl:=.full))) ?_;iterate 6 refine AX ?_
 refine .cl rfl call172 (evs2 rfl rfl) (asY l tl hl _ _ (λx=>decide (x.kind∈ks)) _ call236 (λx=>bmU x ks tk hk _)) ?_;rw[show l.findIdx (λx=>decide (x.kind∈ks))=yC l ks from rfl];generalize hq:(if yC l ks=l.length then(-1:Int)else((yC l ks:Nat):Int))=q;have hq1:(q<0→yC l ks=l.length)∧(¬q<0→q=(yC l ks:Nat)):=by rw[←hq];split<;>omega
 iterate 10 refine AX ?_
 refine .cx rfl (λhc11=>?_) (λhc11=>?_)
 ·have hq2:=hq1.1 hc11;iterate 7 refine AX ?_
  refine .draw [(0,true),(1,true),(2,true),(3,true),(4,true),(5,true),(6,true),(7,true)] rfl aE ?_;iterate 12 refine AX ?_
  refine⟨?_,rfl⟩;rw[hq2];rfl
 have hq2:=hq1.2 aA;iterate 3 refine AX ?_
 refine .draw [(0,true),(1,true),(2,true),(3,true),(4,true),(5,true),(6,true),(7,true)] rfl aE ?_;iterate 12 refine AX ?_
 refine⟨?_,rfl⟩;rw[hq2];rfl
theorem ajG(s:SecN)(tl:Tail)(hl:s.items.length≤100000):Fn 85 [.agg (s.cs tl)] (itS (afT s.items) .shared):=by
 intro H;refine .of_body func85 rfl ntmps85 results85 rfl ?_;iterate 3 refine AX ?_
 refine .p rfl (zE (acC (sz:=2) (tl:=.full))) ?_;iterate 4 refine AX ?_
 refine .p rfl (zA U52 rfl Z50 (tm rfl)) ?_;refine AX ?_;refine .e rfl (bcH U30 Z3 V3 rfl rfl rfl (.cons zJ (.inl rfl) (.cons zJ (.inl rfl) (.cons zJ (.inl rfl) .nil))) (ajY ⟨rfl,rfl⟩ (ajY ⟨rfl,rfl⟩ (ajY ⟨rfl,rfl⟩ btF)))) (.cl rfl C163 (evs2 rfl rfl) (agB s.items tl hl [3,5,6] _ aC _) ?_);iterate 15 refine AX ?_
 exact⟨rfl,rfl⟩
theorem aoH(hi:i<l.length):zV (l.take (i+1)) k=zV (l.take i) k+(if l[i].kind=k then 1 else 0):=by
 unfold zV;rw[←bP hi,List.countP_append];by_cases h:l[i].kind=k<;>simp[h]
theorem aaH(l:List ItN)(k:Int):zV l k≤l.length:=List.countP_le_length
theorem atF(h:∀q,1≤q→q<i→¬((l.getD (q-1) ⟨0,[]⟩).kind=2∧(l.getD q ⟨0,[]⟩).kind=2))(hi:l.length≤i):abF l=false:=by
 induction l generalizing i with
 |nil=>rfl
 |cons x l ih=>
  cases l with
  |nil=>rfl
  |cons y r=>
   rw[abF,cT];simp only[aX]at hi;refine⟨aP λq=>h 1 aA aA ⟨q.1,q.2⟩,ih (i:=i-1) (λq h1 h2=>?_) aG⟩;have:=h (q+1) aA aA;rw[show q+1-1=(q-1)+1 by omega,cL,cL]at this;exact this
theorem atG(h1:1≤i)(h2:i<l.length)(h:(l.getD (i-1) ⟨0,[]⟩).kind=2∧(l.getD i ⟨0,[]⟩).kind=2):abF l=true:=by
 induction l generalizing i with
 |nil=>simp at h2
 |cons x l ih=>
  cases l with
  |nil=>simp at h2;omega
  |cons y r=>
   rw[abF,dK];by_cases hi:i=1
   ·subst hi;exact .inl (aQ h)
   refine .inr (ih (i:=i-1) aA (by simp at h2 ⊢;omega) ?_);rw[show i-1=(i-2)+1 by omega,cL,show i=(i-2)+1+1 by omega,cL]at h;rw[show i-1-1=i-2 by omega,show i-1=(i-2)+1 by omega];exact h
theorem amA(h:i<l.length):(l.getD i ⟨0,[]⟩)=l[i]:=by
 rw[aS,aV h];rfl
def blM(l:List ItN)(tl:Tail)(H:Heap):Nat→Env→Heap→Prop:=λk env H1=>∃i:Nat,i≤l.length∧env=[(3,.int .i64 (zV (l.take i) 2:Int)),(6,itS l tl),(7,.int .i64 (l.length:Int)),(8,.int .i64 (i:Int))]∧H=H1∧k=l.length-i
theorem adD(l:List ItN)(tl:Tail)(hl:l.length≤100000):Fn 84 [itS l tl] (.int .i64 (zV l 2:Int)):=by
 intro H;have hcl:=λi=>aaH (l.take i) 2;have htl:=λi=>aU (i:=i) (l:=l);refine .of_body func84 rfl ntmps84 results84 rfl ?_;iterate 19 refine AX ?_
 refine .loopW (blM l tl H) (l.length) ⟨0,Nat.zero_le _,rfl,rfl,rfl⟩ sX (hRa _) ?_;rintro _ _ _ ⟨i,hi,rfl,rfl,rfl⟩;iterate 6 refine AX ?_
 refine .cx rfl (λhc9=>?_) (λhc9=>?_)
 ·have hci:=hcl i;rw[htl]at hci;iterate 8 refine AX ?_
  refine .al zr57 (λb5 hb5=>?_);iterate 3 refine AX ?_
  refine .frz (t:=5) rfl (hb5) ?_;iterate 2 refine AX ?_
  refine .p rfl (zA U57 rfl Z3 (tm rfl)) ?_;iterate 4 refine AX ?_
  refine .cx rfl (λhc14=>?_) (λhc14=>?_)
  ·iterate 12 refine AX ?_
   have hnx:=aoH (k:=2) (show i<l.length by omega);refine Round.mk ⟨i+1,by omega,rfl,rfl,rfl⟩ (zU rfl (by rw[hnx];first|(rw[aN (by exact hc14)];rfl)|(rw[aM (by exact hc14)];rfl)) sX) (hRa _) aA
  iterate 8 refine AX ?_
  have hnx:=aoH (k:=2) (show i<l.length by omega);refine Round.mk ⟨i+1,by omega,rfl,rfl,rfl⟩ (zU rfl (by rw[hnx];first|(rw[aN (by exact hc14)];rfl)|(rw[aM (by exact hc14)];rfl)) sX) (hRa _) aA
 iterate 13 refine AX ?_
 have hil:i=l.length:=by omega
 subst hil;rw[bY];exact⟨rfl,rfl⟩
def blI(l:List ItN)(tl:Tail)(H:Heap):Nat→Env→Heap→Prop:=λk env H1=>∃i:Nat,1≤i∧(∀q,1≤q→q<i→¬((l.getD (q-1) ⟨0,[]⟩).kind=2∧(l.getD q ⟨0,[]⟩).kind=2))∧env=[(3,itS l tl),(4,.int .i64 (i:Int))]∧H=H1∧k=l.length-i
theorem apT(s:SecN)(tl:Tail)(hl:s.items.length≤100000)(H:Heap):ACall prog 86 [.agg (s.cs tl)] H (λy H'=>∃q:Int,y= .int .i64 q∧decide (0≤q)=abF (afT s.items)∧H'=H):=by
 have hhl:(afT s.items).length≤100000:=by unfold afT;rw[aU];omega
 refine .of_body func86 rfl ntmps86 results86 rfl ?_;iterate 9 refine AX ?_
 refine .cl rfl call85 (evs1 rfl) (ajG s tl hl _) ?_;generalize afT s.items=l at *;iterate 10 refine AX ?_
 refine .loopW (blI l .shared H) (l.length-1) ⟨1,bB _,λq h1 h2=>by omega,rfl,rfl,rfl⟩ sX (hRa _) ?_;rintro _ _ _ ⟨i,hi,hno,rfl,rfl,rfl⟩;iterate 9 refine AX ?_
 refine .cx rfl (λhc10=>?_) (λhc10=>?_)
 ·have ha:=amA (l:=l) (show i-1<l.length by omega);have hb:=amA (l:=l) (show i<l.length by omega);iterate 4 refine AX ?_
  refine .seqTo 27 (.bool (decide ((l.getD (i-1) ⟨0,[]⟩).kind=2∧(l.getD i ⟨0,[]⟩).kind=2))) [3,4] ?_ ?_
  ·iterate 5 refine AX ?_
   refine .p rfl (zA U57 rfl Z3 (tm rfl)) ?_;iterate 3 refine AX ?_
   refine zC (t:=20) rfl (λhg20=>?_) (λhg20=>?_)
   ·iterate 3 refine AX ?_
    refine .gp rfl rfl rfl aB (zA U57 rfl Z3 (tm rfl)) ?_;iterate 4 refine AX ?_
    exact⟨rfl,zO rfl (by(simp_all;done)) sX,rfl⟩
   iterate 8 refine AX ?_
   exact⟨rfl,zO rfl (by(simp_all;done)) sX,rfl⟩
  refine .sub [(27,_),(3,_),(4,_)] sX ?_;refine .cx rfl (λhc27=>?_) (λhc27=>?_)
  ·iterate 14 refine AX ?_
   exact⟨_,rfl,by rw[atG hi aA hc27];exact aQ aA,rfl⟩
  iterate 9 refine AX ?_
  refine Round.mk ⟨i+1,by omega,λq h1 h2=>(bV q i).elim (hno q h1) (λh=>by rw[show q=i by omega];exact hc27),rfl,rfl,rfl⟩ sX (hRa _) aA
 iterate 12 refine AX ?_
 exact⟨_,rfl,by rw[atF hno aA];rfl,rfl⟩
end
section
open Go Go.RowKit
set_option maxRecDepth 100000
def dgo(s:List UInt8):Nat×Nat:=Lib.decodeGo ⟨s.toArray⟩
theorem bnA(s:List UInt8)(i:Nat):((⟨s.toArray⟩:ByteArray).get! i).toNat=(s.getD i 0).toNat:=by
 show((s.toArray)[i]!).toNat=_;rw[List.getElem!_toArray,List.getElem!_eq_getElem?_getD,aS];rfl
theorem buB{s:List UInt8}(h:s≠[]):dgo s=Lib.decodeN s.length (s.getD 0 0).toNat (s.getD 1 0).toNat (s.getD 2 0).toNat (s.getD 3 0).toNat:=by
 have hs:(⟨s.toArray⟩:ByteArray).size=s.length:=by simp[ByteArray.size]
 have hp:=bK.2 h;unfold dgo Lib.decodeGo;rw[aM (by rw[hs];omega),Lib.decode_at];simp only[bnA,hs,Nat.sub_zero,cE]
theorem bwT(n b0 b1 b2 b3:Nat):byT n b0 b1 b2 b3=(if(Lib.decodeN n b0 b1 b2 b3).1=65533∧(Lib.decodeN n b0 b1 b2 b3).2=1 then 0 else(Lib.decodeN n b0 b1 b2 b3).2)∧1≤(Lib.decodeN n b0 b1 b2 b3).2∧(Lib.decodeN n b0 b1 b2 b3).2≤4∧((Lib.decodeN n b0 b1 b2 b3).2=1∨(Lib.decodeN n b0 b1 b2 b3).2≤n)∧(Lib.decodeN n b0 b1 b2 b3).1≤1114111∧((Lib.decodeN n b0 b1 b2 b3).1=65533→(Lib.decodeN n b0 b1 b2 b3).2=1∨(Lib.decodeN n b0 b1 b2 b3).2=3):=by
 unfold byT Lib.decodeN
 repeat' split
 all_goals (first|omega|(simp only[]at *;omega))
theorem bcQ(s:List UInt8):(((dgo s).2=0∨(dgo s).1=65533∧(dgo s).2=1)→anF s=0)∧(¬((dgo s).2=0∨(dgo s).1=65533∧(dgo s).2=1)→anF s=(dgo s).2)∧(dgo s).2≤4∧(dgo s).2≤s.length∧(dgo s).1≤1114111∧((dgo s).1=65533→(dgo s).2≤1∨(dgo s).2=3):=by
 by_cases h:s=[]
 ·subst h;refine⟨λ_=>rfl,λq=>absurd (Or.inl aC) q,by decide,by decide,by decide,λ_=>.inl aC⟩
 have e:=buB h;have hp:=bK.2 h;obtain⟨h1,h2,h3,h4,h5,h6⟩:=bwT s.length (s.getD 0 0).toNat (s.getD 1 0).toNat (s.getD 2 0).toNat (s.getD 3 0).toNat;unfold anF;rw[aM h,h1,e];refine⟨λq=>aK,λq=>aM (λz=>q (.inr z)),h3,by omega,h5,λq=>(h6 q).imp (λz=>by omega) id⟩
theorem decodeA(s:List UInt8):Fn 215 [.str s] (.tuple [.int .i32 ((dgo s).1:Int),.int .i64 ((dgo s).2:Int)]):=by
 intro H;refine .lib _ λg vs w k st=>?_;obtain⟨v,rfl,hv⟩:=relvs1 k;cases hv with|str _ hs=>?_
 refine(Tryz.utf8_DecodeRuneInString ⟨s.toArray⟩ w st.utf8).mono ?_;rintro e w' ⟨rfl,hb⟩;refine⟨_,rfl,.tuple _ _ rfl (λi c u hc hu=>?_),hb⟩
 match i,hc,hu with
 |0,hc,hu=>cases hc;cases hu;exact .int _ _
 |1,hc,hu=>cases hc;cases hu;exact .int _ _
theorem ayC(x:ItN):Fn 162 [x.av] (.bool (afS x)):=by
 intro H;obtain⟨hr1,hr0,hr2,hr3,hr4,hr5⟩:=bcQ x.text;refine .of_body func162 rfl ntmps162 results162 rfl ?_;iterate 9 refine AX ?_
 refine .p rfl (zA U57 rfl Z3 (tm rfl)) ?_;iterate 10 refine AX ?_
 refine .cx rfl (λhc7=>?_) (λhc7=>?_)
 ·iterate 2 refine AX ?_
  refine .p rfl (zA U57 rfl Z9 (tm rfl)) ?_;refine AX ?_;refine .cl rfl call215 (evs1 rfl) (decodeA _ _) ?_;iterate 7 refine AX ?_
  refine .seqTo 2 (.bool (decide (0<anF x.text∧anF x.text=x.text.length))) [1,6] ?_ ?_
  ·iterate 2 refine AX ?_
   refine .p rfl (zA U57 rfl Z9 (tm rfl)) ?_;iterate 4 refine AX ?_
   refine zC (t:=20) rfl (λhg20=>?_) (λhg20=>?_)
   ·have hh20:=hg20;try simp only[aL]at hh20
    iterate 4 refine AX ?_
    refine zC (t:=24) rfl (λhg24=>?_) (λhg24=>?_)
    ·have hh24:=hg24;try simp only[aL]at hh24
     iterate 3 refine AX ?_
     refine zC (t:=27) rfl (λhg27=>?_) (λhg27=>?_)
     ·have hh27:=hg27;try simp only[aL]at hh27
      iterate 6 refine AX ?_
      exact⟨rfl,zO rfl (by(refine Eq.symm ?_;first|exact aQ aA|exact aP (by first|omega|simp[*])|exact aO.2 (by first|omega|simp[*]))) sX,rfl⟩
     have hh27:=hg27;try simp only[aL]at hh27
     iterate 6 refine AX ?_
     exact⟨rfl,zO rfl (by(refine Eq.symm ?_;first|exact aQ aA|exact aP (by first|omega|simp[*])|exact aO.2 aA)) sX,rfl⟩
    have hh24:=hg24;try simp only[aL]at hh24
    iterate 9 refine AX ?_
    exact⟨rfl,zO rfl (by(refine Eq.symm ?_;first|exact aQ aA|exact aP aA|exact aO.2 (by first|omega|simp[*]))) sX,rfl⟩
   have hh20:=hg20;try simp only[aL]at hh20
   iterate 13 refine AX ?_
   exact⟨rfl,zO rfl (by(refine Eq.symm ?_;first|exact aQ aA|exact aP aA|exact aO.2 (by first|omega|simp[*]))) sX,rfl⟩
  refine .sub [(2,_),(1,_),(6,_)] sX ?_;iterate 4 refine AX ?_
  refine⟨?_,rfl⟩;unfold afS;rw[aN hc7];rfl
 iterate 6 refine AX ?_
 refine .cx rfl (λhc32=>?_) (λhc32=>?_)
 ·refine .seqTo 2 (.bool (decide (x.text=[48]∨x.text=[35]∨x.text=[63]))) [1,6] ?_ ?_
  ·refine AX ?_;refine .p rfl (zA U57 rfl Z9 (tm rfl)) ?_;iterate 3 refine AX ?_
   refine zC (t:=37) rfl (λhg37=>?_) (λhg37=>?_)
   ·have hh37:=hg37;try simp only[aL]at hh37
    iterate 11 refine AX ?_
    exact⟨rfl,zO rfl (by(refine Eq.symm ?_;first|exact aQ (by simp[*])|exact aP (by first|omega|simp[*])|exact aO.2 (by first|omega|simp[*]))) sX,rfl⟩
   have hh37:=hg37;try simp only[aL]at hh37
   refine .gp rfl rfl rfl aB (zA U57 rfl Z9 (tm rfl)) ?_;iterate 4 refine AX ?_
   refine zC (t:=42) rfl (λhg42=>?_) (λhg42=>?_)
   ·have hh42:=hg42;try simp only[aL]at hh42
    iterate 6 refine AX ?_
    exact⟨rfl,zO rfl (by(refine Eq.symm ?_;first|exact aQ (by simp[*])|exact aP (by first|omega|simp[*])|exact aO.2 (by first|omega|simp[*]))) sX,rfl⟩
   have hh42:=hg42;try simp only[aL]at hh42
   refine .gp rfl rfl rfl aB (zA U57 rfl Z9 (tm rfl)) ?_;iterate 5 refine AX ?_
   exact⟨rfl,zO rfl (by(refine Eq.symm ?_;first|exact aQ aA|exact aP aA|exact aO.2 (by simp[*]))) sX,rfl⟩
  refine .sub [(2,_),(1,_),(6,_)] sX ?_;iterate 4 refine AX ?_
  refine⟨?_,rfl⟩;unfold afS;rw[aM hc7,aN hc32];rfl
 iterate 6 refine AX ?_
 refine .cx rfl (λhc47=>?_) (λhc47=>?_)
 ·refine .seqTo 2 (.bool (decide (x.text=[43]∨x.text=[45]))) [1] ?_ ?_
  ·refine AX ?_;refine .p rfl (zA U57 rfl Z9 (tm rfl)) ?_;iterate 3 refine AX ?_
   refine zC (t:=52) rfl (λhg52=>?_) (λhg52=>?_)
   ·have hh52:=hg52;try simp only[aL]at hh52
    iterate 6 refine AX ?_
    exact⟨rfl,zO rfl (by(refine Eq.symm ?_;first|exact aQ (by simp[*])|exact aP (by first|omega|simp[*])|exact aO.2 (by first|omega|simp[*]))) (zF rfl zW),rfl⟩
   have hh52:=hg52;try simp only[aL]at hh52
   refine .gp rfl rfl rfl aB (zA U57 rfl Z9 (tm rfl)) ?_;iterate 5 refine AX ?_
   exact⟨rfl,zO rfl (by(refine Eq.symm ?_;first|exact aQ aA|exact aP aA|exact aO.2 (by simp[*]))) (zF rfl zW),rfl⟩
  refine .sub [(2,_),(1,_)] sX ?_;iterate 4 refine AX ?_
  refine⟨?_,rfl⟩;unfold afS;rw[aM hc7,aM hc32,aN hc47];rfl
 iterate 3 refine AX ?_
 refine .seqTo 2 (.bool (decide (1≤x.kind∧x.kind≤9∧x.text=[]))) [] ?_ ?_
 ·refine AX ?_;refine .p rfl (zA U57 rfl Z3 (tm rfl)) ?_;iterate 3 refine AX ?_
  refine zC (t:=60) rfl (λhg60=>?_) (λhg60=>?_)
  ·have hh60:=hg60;try simp only[aL]at hh60
   refine .gp rfl rfl rfl aB (zA U57 rfl Z3 (tm rfl)) ?_;iterate 4 refine AX ?_
   refine zC (t:=65) rfl (λhg65=>?_) (λhg65=>?_)
   ·have hh65:=hg65;try simp only[aL]at hh65
    refine .gp rfl rfl rfl aB (zA U57 rfl Z9 (tm rfl)) ?_;iterate 5 refine AX ?_
    exact⟨rfl,zO rfl (by(refine Eq.symm ?_;first|exact aQ aA|exact aP aA|exact aO.2 (by simp[*]))) zW,rfl⟩
   have hh65:=hg65;try simp only[aL]at hh65
   iterate 6 refine AX ?_
   exact⟨rfl,zO rfl (by(refine Eq.symm ?_;first|exact aQ aA|exact aP aA|exact aO.2 (by first|omega|simp[*]))) zW,rfl⟩
  have hh60:=hg60;try simp only[aL]at hh60
  iterate 11 refine AX ?_
  exact⟨rfl,zO rfl (by(refine Eq.symm ?_;first|exact aQ aA|exact aP aA|exact aO.2 (by first|omega|simp[*]))) zW,rfl⟩
 refine .sub [(2,_)] (zF rfl zW) ?_;iterate 2 refine AX ?_
 refine⟨?_,rfl⟩;unfold afS;rw[aM hc7,aM hc32,aM hc47];rfl
theorem zr148:ZR 148 [.int .i64 0,.int .i64 0,.int .i64 0,.int .i64 0,.int .i64 0,.int .i64 0,.int .i64 0,.int .i64 0,.int .i64 0,.int .i64 0]:=ZRi zeroValue148
def bnS(l:List ItN):List AV:=[.int .i64 (zV l 0:Int),.int .i64 (zV l 1:Int),.int .i64 (zV l 2:Int),.int .i64 (zV l 3:Int),.int .i64 (zV l 4:Int),.int .i64 (zV l 5:Int),.int .i64 (zV l 6:Int),.int .i64 (zV l 7:Int),.int .i64 (zV l 8:Int),.int .i64 (zV l 9:Int)]
theorem bmW{x:ItN}(h:afS x=true):1≤x.kind∧x.kind≤9:=by
 unfold afS at h;split at h
 ·omega
 split at h
 ·omega
 split at h
 ·omega
 have:=of_decide_eq_true h;omega
theorem asU(h:1≤k∧k≤9):k=1∨k=2∨k=3∨k=4∨k=5∨k=6∨k=7∨k=8∨k=9:=by omega
theorem bwZ(h:1≤k∧k≤9):(bnS l)[0+k.toNat*1]?=some (.int .i64 (zV l k:Int)):=by
 rcases asU h with rfl|rfl|rfl|rfl|rfl|rfl|rfl|rfl|rfl<;>rfl
theorem bnR(l:List ItN)(x:ItN)(k:Int):zV (l++[x]) k=zV l k+(if x.kind=k then 1 else 0):=by
 unfold zV;rw[List.countP_append];by_cases h:x.kind=k<;>simp[h]
theorem brP{x:ItN}(h:1≤x.kind∧x.kind≤9):putRow (bnS l) (0+x.kind.toNat*1) [.int .i64 ((zV l x.kind:Int)+1)]=bnS (l++[x]):=by
 unfold bnS;simp only[bnR];rcases asU h with e|e|e|e|e|e|e|e|e<;>rw[e]<;>rfl
theorem beP(h:(l.take i).all afS=true)(hi:i<l.length)(hx:afS l[i]=true):(l.take (i+1)).all afS=true:=by
 rw[←bP hi,List.all_append,h];simp[hx]
theorem bnX(hi:i<l.length)(hx:afS l[i]=false):l.all afS=false:=by
 rw[List.all_eq_false];exact⟨_,bM hi,by rw[hx];simp⟩
def btW(l:List ItN)(tl:Tail)(b2 b4:Nat)(H:Heap):Nat→Env→Heap→Prop:=λk env H1=>∃i:Nat,i≤l.length∧(l.take i).all afS=true∧env=[(2,.ptr (some ⟨b2,0,none⟩)),(4,.ptr (some ⟨b4,0,none⟩)),(8,itS l tl),(9,.int .i64 (l.length:Int)),(10,.int .i64 (i:Int))]∧H1=(H.set b2 (.box 148 (bnS []))).set b4 (.box 148 (bnS (l.take i)))∧k=l.length-i
theorem bgP(s:SecN)(tl:Tail)(hl:s.items.length≤100000)(H:Heap):ACall prog 82 [.agg (s.cs tl)] H (λy H'=>∃m:List ItN,y= .tuple [.agg (bnS m),.bool (s.items.all afS)]∧(s.items.all afS=true→m=s.items)∧H'=H):=by
 obtain⟨l,gr,sc⟩:=s;have hl:l.length≤100000:=hl;refine ACall.of_body func82 rfl ntmps82 results82 rfl ?_;iterate 2 refine AX ?_
 refine .e rfl (qR (tm rfl) (.inr ⟨_,rfl⟩)) ?_;refine .al zr148 (λb2 hb2=>?_);iterate 5 refine AX ?_
 refine .al zr148 (λb4 hb4=>?_);have hn2_4:=Heap.ne_of (oS _ _ _) hb4;iterate 5 refine AX ?_
 refine .p rfl (zA U52 rfl Z50 (tm rfl)) ?_;iterate 6 refine AX ?_
 refine AWP.loopW (btW l tl b2 b4 H) (l.length) ⟨0,Nat.zero_le _,rfl,rfl,rfl,rfl⟩ sX (hRa _) ?_;rintro _ _ _ ⟨i,hi,hall,rfl,rfl,rfl⟩;iterate 6 refine AX ?_
 refine AWP.cond (tm rfl) (λhc11=>?_) (λhc11=>?_)
 ·try simp only[aL]at hc11
  iterate 8 refine AX ?_
  refine .al zr57 (λb6 hb6=>?_);have hn2_6:=Heap.ne_of (oS _ _ _) hb6;have hn4_6:=Heap.ne_of (oS _ _ _) hb6;refine .e0 (zM Z57 (tm rfl) (tm rfl) rfl rfl (.inr ⟨_,rfl⟩) (oS _ _ _) (lB rfl)) ?_;try first|rw[sS]|rw[sU aB]
  iterate 2 refine AX ?_
  refine AWP.frz (t:=6) rfl (hb6) ?_;iterate 4 refine AX ?_
  refine .cl rfl call162 (evs1 rfl) (ayC _ _) ?_;iterate 3 refine AX ?_
  refine AWP.cond (tm rfl) (λhc16=>?_) (λhc16=>?_)
  ·try simp only[aL]at hc16
   iterate 2 refine AX ?_
   refine .e rfl (zZ G148 Z148 (tm rfl) (oS _ _ _) (lB rfl)) (.e0 (zM Z148 (tm rfl) (tm rfl) rfl rfl (.inr ⟨_,rfl⟩) ((oN _ _ aB).trans (oS _ _ _)) (lB rfl)) ?_);try first|rw[sS]|rw[sU aB]
   iterate 3 refine AX ?_
   refine AWP.dropb (fS hb4 _) ?_;refine AWP.frz (t:=2) rfl (hb2) ?_;iterate 7 refine AX ?_
   refine Ret.go (.cons (.cellI _ _ _ _ rfl G148 Z148 rfl) (.cons (.tmp _ _ rfl) .nil)) _ (hRa _) ?_;have hna:=bnX (show i<l.length by omega) (by simpa using hc16);exact⟨l.take i,by rw[show(SecN.mk l gr sc).items.all afS=false from hna];rfl,(λh=>by cases h.symm.trans hna),rfl⟩
  try simp only[aL]at hc16
  have hok:afS l[((i:Nat):Int).toNat]=true:=by simpa using hc16
  have hkk:=bmW hok;have hcb:=aaH (l.take i) l[((i:Nat):Int).toNat].kind;rw[aU]at hcb;refine .skip ?_;refine Next.go ?_;refine .region (.p rfl (zA U57 rfl Z3 (tm rfl)) (.p rfl (zX G3 (tm rfl)) (.p rfl (aaA U148 Z3 (tm rfl) (tm rfl) aA aA) (.e rfl (zP G3 (tm rfl) (oS _ _ _) (bwZ hkk)) (.p rfl (yU (tm rfl) zJ aA) (.p rfl (aaA U148 Z3 (tm rfl) (tm rfl) aA aA) ?_))))));refine .e0 (zM Z3 (tm rfl) (tm rfl) rfl rfl (.inl rfl) (oS _ _ _) (by have:(bnS (l.take i)).length=10:=rfl;omega)) ?_;rw[sS];rw[show putRow (bnS (l.take i)) _ (AV.cells (.int .i64 ((zV (l.take i) l[((i:Nat):Int).toNat].kind:Int)+1)))=bnS (l.take i++[l[((i:Nat):Int).toNat]])from brP hkk];iterate 8 refine AX ?_
  refine Round.mk (J:=btW l tl b2 b4 H) ⟨i+1,by omega,beP hall aA hok,rfl,by rw[←bP (show i<l.length by omega)];rfl,rfl⟩ sX (hRa _) aA
 try simp only[aL]at hc11
 iterate 7 refine AX ?_
 refine .e rfl (zZ G148 Z148 (tm rfl) (oS _ _ _) (lB rfl)) (.e0 (zM Z148 (tm rfl) (tm rfl) rfl rfl (.inr ⟨_,rfl⟩) ((oN _ _ aB).trans (oS _ _ _)) (lB rfl)) ?_);try first|rw[sS]|rw[sU aB]
 iterate 3 refine AX ?_
 refine AWP.dropb (fS hb4 _) ?_;refine AWP.frz (t:=2) rfl (hb2) ?_;refine AX ?_;refine Ret.go (.cons (.cellI _ _ _ _ rfl G148 Z148 rfl) (.cons (.tmp _ _ rfl) .nil)) _ (hRa _) ?_;have hil:i=l.length:=by omega
 subst hil;rw[bY]at hall;exact⟨l,by rw[bY,show(SecN.mk l gr sc).items.all afS=true from hall];rfl,λ_=>rfl,rfl⟩
end
end Go.Proofs.YteedncdcbgplfaaGreatDoor
