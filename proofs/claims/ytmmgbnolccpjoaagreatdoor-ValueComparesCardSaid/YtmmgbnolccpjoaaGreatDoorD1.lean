import Derived.Test.YtmmgbnolccpjoaaGreatDoorX1
import Derived.Test.YtmmgbnolccpjoaaGreatDoorR1
set_option maxHeartbeats 1000000
namespace Go.Proofs.YtmmgbnolccpjoaaGreatDoor
open Go.Proofs.Tryz
open Go Go.RowKit
variable{ds:List UInt8}{i j n:Nat}{ks ts:List Nat}
section
set_option maxRecDepth 100000
theorem zr58:ZR 58 [.bool false,.str [],.int .i64 0]:=ZRi zeroValue58
theorem pl58:PL 58 [(0,1),(1,1),(2,1)]:=PLi U58
theorem bzI{s:List UInt8}{p:Nat}(h:p<s.length)(ha:(s.getD p 0).toNat<128):Utf8.decode ⟨s.toArray⟩ p=((s.getD p 0).toNat,1):=by
 have hb:(⟨s.toArray⟩:ByteArray).get! (p+0)=s.getD p 0:=by
  rw[cB,aR,bG h];show s.toArray[p]! =_;simp[h]
 unfold Utf8.decode;simp only[hb];rw[aN ha]
theorem Digs.at{s:List UInt8}(hd:Digs s){p:Nat}(h:p<s.length):48≤(s.getD p 0).toNat∧(s.getD p 0).toNat≤57:=by
 rw[aR,bG h];exact hd _ (eX h)
def caL(b:UInt8):Bool:=decide ((48:Int)≤((b.toNat:Nat):Int))&&decide (((b.toNat:Nat):Int)≤57)
theorem bzH(hi:i<ds.length)(h:ayX (ds.take i)=true):ayX (ds.take (i+1))=caL (ds.getD i 0):=by
 unfold ayX at *;rw[←cV hi,List.all_append,h,aR,bG hi];simp only[List.all_cons,List.all_nil,Bool.and_true,Bool.true_and,caL,eN];congr 1
 ·exact aT.2 aA
 exact aT.2 aA
theorem bgF(h:ayX ds=true):ayX (ds.take i)=true:=by
 unfold ayX at *;rw[fM]at h ⊢;exact λx hx=>h x (gF hx)
theorem buL(h:0<ds.length):Lib.hasSuffix ds [48]=decide (ds.getD (ds.length-1) 0=48):=by
 unfold Lib.hasSuffix;have e:ds=ds.take (ds.length-1)++[ds.getD (ds.length-1) 0]:=by
  have hl:ds.length-1<ds.length:=by omega
  rw[aR,bG hl,eN,cV hl,bA aA]
 by_cases hq:ds.getD (ds.length-1) 0=48
 ·rw[aY hq];rw[hq]at e;rw[List.isSuffixOf_iff_suffix];exact⟨_,e.symm⟩
 rw[bB hq];cases hs:[48].isSuffixOf ds with
 |false=>rfl
 |true=>
  rw[List.isSuffixOf_iff_suffix]at hs;obtain⟨u,hu⟩:=hs;exfalso;apply hq;rw[←hu];simp
theorem bbV{b:UInt8}(k:Nat)(hk:k<256):decide (((b.toNat:Nat):Int)=(k:Int))=decide (b=UInt8.ofNat k):=by
 apply aT.2;constructor
 ·intro h;apply UInt8.toNat_inj.1;rw[fN];omega
 intro h;rw[h,fN];omega
def atL(ds:List UInt8)(e:Int):Bool:=decide ((ds.length:Int)≤1100)&&decide (-100000≤e)&&decide (e≤100000)&&decide (((ds.getD 0 0).toNat:Int)≠48)&& !decide (((ds.getD (ds.length-1) 0).toNat:Int)=48)
theorem atK{e:Int}(h:ds≠[]):qE ds e=(atL ds e&&ayX ds):=by
 unfold qE atL;rw[aL h];have e1:=bbV (b:=ds.getD 0 0) 48 aC;have e2:=bbV (b:=ds.getD (ds.length-1) 0) 48 aC;have e3:decide ((ds.length:Int)≤1100)=decide (ds.length≤1100):=aT.2 aA;have e4:decide (((ds.getD 0 0).toNat:Int)≠48)= !decide (ds.getD 0 0=UInt8.ofNat 48):=by rw[←e1];exact decide_not
 rw[e3,e4,show decide (((ds.getD (ds.length-1) 0).toNat:Int)=48)=decide (ds.getD (ds.length-1) 0=UInt8.ofNat 48)from e2];show _=(_&&_&&_&& !decide (ds.getD 0 0=48)&& !decide (ds.getD (ds.length-1) 0=48)&&ayX ds);generalize decide (ds.length≤1100)=a1;generalize decide (-100000≤e)=a2;generalize decide (e≤100000)=a3;generalize ayX ds=a4;generalize decide (ds.getD 0 0=48)=a5;generalize decide (ds.getD (ds.length-1) 0=48)=a6;cases a1<;>cases a2<;>cases a3<;>cases a4<;>cases a5<;>cases a6<;>rfl
def bwH(s:List UInt8)(b:Nat)(H:Heap):Nat→Env→Heap→Prop:=λk env H1=>∃p:Nat,p≤s.length∧env=[(6,.ptr (some ⟨b,0,none⟩))]∧H1=H.set b (.raw (.stringIter ⟨s.toArray⟩ p))∧k=s.length-p
theorem auE(s:List UInt8)(hd:Digs s)(H:Heap):ACall prog 162 [.str s] H (λy H'=>y= .bool true∧H'=H):=by
 refine ACall.of_body func162 rfl ntmps162 results162 rfl ?_;iterate 9 refine AX ?_
 refine .s rfl (bpN U9 (tm rfl)) ?_;rintro _ _ ⟨b6,rfl,hb6,hH⟩;obtain rfl:=hH.symm;iterate 3 refine AX ?_
 refine AWP.loopW (bwH s b6 H) (s.length) ⟨0,Nat.zero_le _,rfl,rfl,rfl⟩ (zI rfl yJ) (hRa _) ?_;rintro _ _ _ ⟨p,hp,rfl,rfl,hk⟩;iterate 2 refine AX ?_
 refine .s rfl (buN (tm rfl) (oS _ _ _)) ?_;rintro _ Hn ⟨q7,rfl,hn7,hm7⟩;iterate 4 refine AX ?_
 refine AWP.cx rfl (λhc8=>?_) (λhc8=>?_)
 ·obtain⟨rfl,rfl⟩:=hn7 aA;have hda:=hd.at (show p<s.length by omega);rw[bzI aA aA];iterate 9 refine AX ?_
  refine AWP.seqTo 15 (.bool (false)) [6] ?_ ?_
  ·iterate 4 refine AX ?_
   refine zC (t:=12) rfl (λhg12=>?_) (λhg12=>?_)
   ·iterate 4 refine AX ?_
    exact⟨rfl,zL rfl (by(exfalso;have:=of_decide_eq_true hg12;omega)) (zI rfl yJ),rfl⟩
   iterate 4 refine AX ?_
   exact⟨rfl,zL rfl (by(congr 1;exact bB aA)) (zI rfl yJ),rfl⟩
  refine AWP.sub [(15,_),(6,_)] sX ?_;refine AWP.cond_false (tm rfl) aD ?_;iterate 3 refine AX ?_
  refine Round.mk (J:=bwH s b6 H) ⟨p+1,by omega,rfl,by rw[sS],rfl⟩ (zI rfl yJ) (hRa _) aA
 obtain⟨rfl,rfl⟩:=hm7 aA;iterate 11 refine AX ?_
 refine Ret.go (.cons (.tmp _ _ rfl) .nil) _ (Heap.le_set hb6 _) ?_;exact⟨rfl,rfl⟩
theorem agW(neg:Bool)(ds:List UInt8)(e:Int)(hd:Digs ds):Fn 165 [dA neg ds e] (.bool (qE ds e)):=by
 intro H;refine .of_body func165 rfl ntmps165 results165 rfl ?_;iterate 9 refine AX ?_
 refine .p rfl (zA U58 rfl Z9 (tm rfl)) ?_;iterate 4 refine AX ?_
 refine .cx rfl (λhc5=>?_) (λhc5=>?_)
 ·iterate 2 refine AX ?_
  refine .p rfl (zA U58 rfl Z3 (tm rfl)) ?_;iterate 8 refine AX ?_
  refine⟨?_,rfl⟩;unfold qE;rw[aN hc5];rfl
 have hlp:0<ds.length:=bS.2 hc5;have hsuf:=(buL hlp).trans (bbV (b:=ds.getD (ds.length-1) 0) 48 aC).symm;iterate 2 refine AX ?_
 refine .seqTo 2 (.bool (decide ((ds.length:Int)≤1100)&&decide (-100000≤e)&&decide (e≤100000)&&true&&decide (((ds.getD 0 0).toNat:Int)≠48)&& !(Lib.hasSuffix ds [48]))) [] ?_ ?_
 ·refine AX ?_;refine .p rfl (zA U58 rfl Z9 (tm rfl)) ?_;iterate 4 refine AX ?_
  refine zC (t:=13) rfl (λhg13=>?_) (λhg13=>?_)
  ·have hh13:=hg13;try simp only[aO]at hh13
   refine .gp rfl rfl rfl aB (zA U58 rfl Z3 (tm rfl)) ?_;iterate 4 refine AX ?_
   refine zC (t:=18) rfl (λhg18=>?_) (λhg18=>?_)
   ·have hh18:=hg18;try simp only[aO]at hh18
    refine .gp rfl rfl rfl aB (zA U58 rfl Z3 (tm rfl)) ?_;iterate 4 refine AX ?_
    refine zC (t:=23) rfl (λhg23=>?_) (λhg23=>?_)
    ·have hh23:=hg23;try simp only[aO]at hh23
     refine .gp rfl rfl rfl aB (zA U58 rfl Z9 (tm rfl)) ?_;refine AX ?_;refine .gs rfl rfl rfl aB (zB call162 (evs1 rfl) (auE _ hd _)) ?_;rintro _ _ ⟨rfl,hH⟩;obtain rfl:=hH.symm;iterate 2 refine AX ?_
     refine zC (t:=28) rfl (λhg28=>?_) (λhg28=>?_)
     ·have hh28:=hg28;try simp only[]at hh28
      refine .gp rfl rfl rfl aD (zA U58 rfl Z9 (tm rfl)) ?_;iterate 5 refine AX ?_
      refine zC (t:=34) rfl (λhg34=>?_) (λhg34=>?_)
      ·have hh34:=hg34;try simp only[aO,ne_eq]at hh34
       refine .gp rfl rfl rfl aB (zA U58 rfl Z9 (tm rfl)) ?_;refine AX ?_;refine .gs rfl rfl rfl aB (zB call222 (.cons (tm rfl) (.cons (zO rfl) .nil)) (hasSuffixA _ _ _)) ?_;rintro _ _ ⟨rfl,hH⟩;obtain rfl:=hH.symm;iterate 4 refine AX ?_
       exact⟨rfl,zL rfl aH yJ,rfl⟩
      have hh34:=hg34;try simp only[aM,ne_eq,dY]at hh34
      iterate 7 refine AX ?_
      exact⟨rfl,zL rfl aH yJ,rfl⟩
     have hh28:=hg28;try simp only[aK]at hh28
     iterate 13 refine AX ?_
     exact⟨rfl,zL rfl (by(simp[*];done)) yJ,rfl⟩
    have hh23:=hg23;try simp only[aM,dO]at hh23
    iterate 18 refine AX ?_
    exact⟨rfl,zL rfl (by(simp[*];done)) yJ,rfl⟩
   have hh18:=hg18;try simp only[aM,dO]at hh18
   iterate 23 refine AX ?_
   exact⟨rfl,zL rfl (by(simp[*];done)) yJ,rfl⟩
  have hh13:=hg13;try simp only[aM,dO]at hh13
  iterate 28 refine AX ?_
  exact⟨rfl,zL rfl (by(simp[*];done)) yJ,rfl⟩
 refine .sub [(2,_)] (zI rfl yJ) ?_;iterate 2 refine AX ?_
 refine⟨?_,rfl⟩;simp only[yD];rw[atK hc5,aeX.2 hd,hsuf,Bool.and_true,Bool.and_true];rfl
def ajP(ds:List UInt8)(e:Int):Int:=if qE ds e then(ds.length:Int)+e else 0
theorem bpX(ds:List UInt8)(e:Int):(decide ((1100:Int)<(ds.length:Int))||decide (e< -100000)||decide ((100000:Int)<e)||decide (((ds.getD 0 0).toNat:Int)=48)||decide (((ds.getD (ds.length-1) 0).toNat:Int)=48))= !atL ds e:=by
 unfold atL;rw[show decide ((1100:Int)<(ds.length:Int))= !decide ((ds.length:Int)≤1100) by rw[←decide_not];exact aT.2 aA,
   show decide (e< -100000)= !decide (-100000≤e) by rw[←decide_not];exact aT.2 aA,show decide ((100000:Int)<e)= !decide (e≤100000) by rw[←decide_not];exact aT.2 aA,
   show decide (((ds.getD 0 0).toNat:Int)≠48)= !decide (((ds.getD 0 0).toNat:Int)=48)from decide_not]
 generalize decide ((ds.length:Int)≤1100)=a1;generalize decide (-100000≤e)=a2;generalize decide (e≤100000)=a3;generalize decide (((ds.getD 0 0).toNat:Int)=48)=a5;generalize decide (((ds.getD (ds.length-1) 0).toNat:Int)=48)=a6;cases a1<;>cases a2<;>cases a3<;>cases a5<;>cases a6<;>rfl
theorem amU(neg:Bool)(ds:List UInt8)(e:Int)(hd:Digs ds):Fn 107 [dA neg ds e] (.int .i64 (ajP ds e)):=by
 intro H;refine .of_body func107 rfl ntmps107 results107 rfl ?_;iterate 10 refine AX ?_
 refine .cl rfl C165 (evs1 rfl) (agW neg ds e hd _) ?_;iterate 3 refine AX ?_
 refine .cx rfl (λhc5=>?_) (λhc5=>?_)
 ·iterate 8 refine AX ?_
  refine⟨?_,rfl⟩;unfold ajP;rw[aL (by simp[hc5])];rfl
 have hrl:=qT (show qE ds e=true from by simpa using hc5);iterate 4 refine AX ?_
 refine .p rfl (zA U58 rfl Z9 (tm rfl)) ?_;iterate 2 refine AX ?_
 refine .p rfl (zA U58 rfl Z3 (tm rfl)) ?_;iterate 7 refine AX ?_
 refine⟨?_,rfl⟩;unfold ajP;rw[aN (by simpa using hc5)];rfl
theorem aqQ(b:UInt8):Fn 171 [.int .u8 ((b.toNat:Nat):Int)] (.bool (caL b)):=by
 intro H;refine .of_body func171 rfl ntmps171 results171 rfl ?_;iterate 5 refine AX ?_
 refine .seqTo 2 (.bool (caL b)) [] ?_ ?_
 ·iterate 4 refine AX ?_
  refine zC (t:=5) rfl (λhg5=>?_) (λhg5=>?_)
  ·have hh5:=hg5;try simp only[aO]at hh5
   iterate 5 refine AX ?_
   exact⟨rfl,zL rfl (by(unfold caL;rw[show decide ((48:Int)≤((b.toNat:Nat):Int))=_ from hg5];rfl)) yJ,rfl⟩
  have hh5:=hg5;try simp only[aM,dO]at hh5
  iterate 5 refine AX ?_
  exact⟨rfl,zL rfl (by(unfold caL;rw[show decide ((48:Int)≤((b.toNat:Nat):Int))=_ from hg5];rfl)) yJ,rfl⟩
 refine .sub [(2,_)] (zI rfl yJ) ?_;iterate 2 refine AX ?_
 exact⟨rfl,rfl⟩
def bmQ(neg:Bool)(ds:List UInt8)(e:Int)(H:Heap):Nat→Env→Heap→Prop:=λk env H1=>∃i:Nat,i≤ds.length∧ayX (ds.take i)=true∧env=[(1,.iptr [.bool neg,.str ds,.int .i64 e]),(3,.int .i64 (ds.length:Int)),(4,.int .i64 (i:Int))]∧H=H1∧k=ds.length-i
theorem akI(neg:Bool)(ds:List UInt8)(e:Int)(hl:ds.length≤maxLen):Fn 147 [dA neg ds e] (.bool (qE ds e)):=by
 intro H;rw[zJ]at hl;refine .of_body func147 rfl ntmps147 results147 rfl ?_;iterate 8 refine AX ?_
 refine .p rfl (zA U58 rfl Z9 (tm rfl)) ?_;iterate 12 refine AX ?_
 refine .cx rfl (λhc10=>?_) (λhc10=>?_)
 ·iterate 2 refine AX ?_
  refine .p rfl (zA U58 rfl Z3 (tm rfl)) ?_;iterate 8 refine AX ?_
  refine⟨?_,rfl⟩;have h0:ds=[]:=cF.1 aA;unfold qE;rw[aN h0];rfl
 have hlp:0<ds.length:=by omega
 have hne:=bS.1 hlp;have hrq:=atK (e:=e) hne;have hrn:=bpX ds e;iterate 3 refine AX ?_
 refine .seqTo 39 (.bool ((decide ((1100:Int)<(ds.length:Int))||decide (e< -100000)||decide ((100000:Int)<e)||decide (((ds.getD 0 0).toNat:Int)=48)||decide (((ds.getD (ds.length-1) 0).toNat:Int)=48)))) [1,2,3] ?_ ?_
 ·iterate 4 refine AX ?_
  refine zC (t:=16) rfl (λhg16=>?_) (λhg16=>?_)
  ·have hh16:=hg16;try simp only[aO]at hh16
   iterate 24 refine AX ?_
   exact⟨rfl,zL rfl (by(rw[show decide ((1100:Int)<(ds.length:Int))=_ from hg16];rfl)) sX,rfl⟩
  have hh16:=hg16;try simp only[aM,cO]at hh16
  refine .gp rfl rfl rfl aB (zA U58 rfl Z3 (tm rfl)) ?_;iterate 4 refine AX ?_
  refine zC (t:=21) rfl (λhg21=>?_) (λhg21=>?_)
  ·have hh21:=hg21;try simp only[aO]at hh21
   iterate 19 refine AX ?_
   exact⟨rfl,zL rfl (by(rw[show decide ((1100:Int)<(ds.length:Int))=_ from hg16,show decide (e< -100000)=_ from hg21];rfl)) sX,rfl⟩
  have hh21:=hg21;try simp only[aM,cO]at hh21
  refine .gp rfl rfl rfl aB (zA U58 rfl Z3 (tm rfl)) ?_;iterate 4 refine AX ?_
  refine zC (t:=26) rfl (λhg26=>?_) (λhg26=>?_)
  ·have hh26:=hg26;try simp only[aO]at hh26
   iterate 14 refine AX ?_
   exact⟨rfl,zL rfl (by(rw[show decide ((1100:Int)<(ds.length:Int))=_ from hg16,show decide (e< -100000)=_ from hg21,show decide ((100000:Int)<e)=_ from hg26];rfl)) sX,rfl⟩
  have hh26:=hg26;try simp only[aM,cO]at hh26
  refine .gp rfl rfl rfl aB (zA U58 rfl Z9 (tm rfl)) ?_;iterate 5 refine AX ?_
  refine zC (t:=32) rfl (λhg32=>?_) (λhg32=>?_)
  ·have hh32:=hg32;try simp only[aO]at hh32
   iterate 8 refine AX ?_
   exact⟨rfl,zL rfl (by(rw[show decide ((1100:Int)<(ds.length:Int))=_ from hg16,show decide (e< -100000)=_ from hg21,show decide ((100000:Int)<e)=_ from hg26,show decide (((ds.getD 0 0).toNat:Int)=48)=_ from hg32];rfl)) sX,rfl⟩
  have hh32:=hg32;try simp only[aM]at hh32
  refine .gp rfl rfl rfl aB (zA U58 rfl Z9 (tm rfl)) ?_;iterate 7 refine AX ?_
  exact⟨rfl,zL rfl (by(rw[show decide ((1100:Int)<(ds.length:Int))=_ from hg16,show decide (e< -100000)=_ from hg21,show decide ((100000:Int)<e)=_ from hg26,show decide (((ds.getD 0 0).toNat:Int)=48)=_ from hg32,show((ds.length:Int)-1).toNat=ds.length-1 by omega];rfl)) sX,rfl⟩
 refine .sub [(39,_),(1,_),(2,_),(3,_)] sX ?_;refine .cx rfl (λhc39=>?_) (λhc39=>?_)
 ·rw[hrn]at hc39;have hrc:atL ds e=false:=by simpa using hc39
  iterate 8 refine AX ?_
  refine⟨?_,rfl⟩;rw[hrq,hrc];rfl
 rw[hrn]at hc39;have hrc:atL ds e=true:=by simpa using hc39
 iterate 9 refine AX ?_
 refine .loopW (bmQ neg ds e H) (ds.length) ⟨0,Nat.zero_le _,rfl,rfl,rfl,rfl⟩ sX (hRa _) ?_;rintro _ _ _ ⟨i,hi,hdg,rfl,rfl,hk⟩;iterate 8 refine AX ?_
 refine .cx rfl (λhc42=>?_) (λhc42=>?_)
 ·have hdt:=bzH (ds:=ds) aA hdg;iterate 6 refine AX ?_
  refine .p rfl (zA U58 rfl Z9 (tm rfl)) ?_;iterate 3 refine AX ?_
  refine .cl rfl call171 (evs1 rfl) (aqQ _ _) ?_;iterate 9 refine AX ?_
  refine .cx rfl (λhc51=>?_) (λhc51=>?_)
  ·have hdf:caL (ds.getD i 0)=false:=by simpa using hc51
   iterate 12 refine AX ?_
   refine⟨?_,rfl⟩;have hdb:ayX ds=false:=by
    cases h:ayX ds with
    |false=>rfl
    |true=>have:=bgF (i:=i+1) h;rw[hdt,hdf]at this;cases this
   rw[hrq,hdb,Bool.and_false];rfl
  have hdf:caL (ds.getD i 0)=true:=by simpa using hc51
  iterate 9 refine AX ?_
  refine Round.mk ⟨i+1,by omega,by rw[hdt,hdf],rfl,rfl,rfl⟩ sX (hRa _) aA
 iterate 12 refine AX ?_
 refine⟨?_,rfl⟩;rw[bA aA]at hdg;rw[hrq,hrc,hdg];rfl
theorem akJ(neg:Bool)(ds:List UInt8)(e:Int)(hl:ds.length≤maxLen):Fn 79 [dA neg ds e] (.int .i64 (ajP ds e)):=by
 intro H;refine .of_body func79 rfl ntmps79 results79 rfl ?_;iterate 9 refine AX ?_
 refine .cl rfl call147 (evs1 rfl) (akI neg ds e hl _) ?_;iterate 10 refine AX ?_
 refine .cx rfl (λhc7=>?_) (λhc7=>?_)
 ·iterate 8 refine AX ?_
  refine⟨?_,rfl⟩;unfold ajP;rw[aL (by simp[hc7])];rfl
 have hrl:=qT (show qE ds e=true from by simpa using hc7);iterate 4 refine AX ?_
 refine .p rfl (zA U58 rfl Z9 (tm rfl)) ?_;iterate 2 refine AX ?_
 refine .p rfl (zA U58 rfl Z3 (tm rfl)) ?_;iterate 7 refine AX ?_
 refine⟨?_,rfl⟩;unfold ajP;rw[aN (by simpa using hc7)];rfl
end
section
open Go Go.RowKit
set_option maxRecDepth 100000
theorem ayV{l:List UInt8}{c:UInt8}(hi:i≤l.length)(h1:∀q,q<i→l.getD q 0=c)(h2:i<l.length→l.getD i 0≠c):l.dropWhile (·==c)=l.drop i:=by
 induction l generalizing i with
 |nil=>simp
 |cons x l ih=>
  cases i with
  |zero=>
   have:=h2 aF;have hx:x≠c:=by simpa using this
   rw[eF,aL (by simpa using hx),cU]
  |succ i=>
   have h0:x=c:=by simpa using h1 0 aA
   rw[eF,aN (by simpa using h0),fI];exact ih (by simpa using hi) (λq hq=>by simpa using h1 (q+1) aA) (λhq=>by simpa using h2 (by simpa using hq))
theorem awZ{l:List UInt8}{c:UInt8}{m:Nat}(hm:m≤l.length)(h1:∀q,m≤q→q<l.length→l.getD q 0=c)(h2:0<m→l.getD (m-1) 0≠c):Lib.trimRightB l c=l.take m:=by
 unfold Lib.trimRightB;have e:l.reverse.dropWhile (·==c)=l.reverse.drop (l.length-m):=by
  have hr:∀q,q<l.length→l.reverse.getD q 0=l.getD (l.length-1-q) 0:=λq hq=>by
   rw[aR,aR,List.getElem?_reverse hq]
  refine ayV aF (λq hq=>?_) (λhq=>?_)
  ·rw[hr q aA];exact h1 _ aA aA
  rw[gK]at hq;rw[hr _ hq,show l.length-1-(l.length-m)=m-1 by omega];exact h2 aA
 rw[e,List.drop_reverse,List.reverse_reverse,show l.length-(l.length-m)=m by omega]
theorem bsU(hi:i≤ds.length)(hij:i≤j)(hj:j≤ds.length)(h1:∀q,q<i→ds.getD q 0=48)(h2:i<ds.length→ds.getD i 0≠48)(h3:∀q,j≤q→q<ds.length→ds.getD q 0=48)(h4:i<j→ds.getD (j-1) 0≠48):
  adR ds=(ds.take j).drop i∧(adR ds).length=j-i∧anX ds=ds.length-j:=by
 have e1:bfG ds=ds.drop i:=ayV hi h1 h2;have hg:∀q,(ds.drop i).getD q 0=ds.getD (i+q) 0:=λq=>by
  rw[aR,aR,eV]
 have e2:adR ds=(ds.drop i).take (j-i):=by
  unfold adR;rw[e1];refine awZ aG (λq hq hl=>?_) (λhq=>?_)
  ·rw[hg];simp at hl;exact h3 _ aA aA
  rw[hg,show i+(j-i-1)=j-1 by omega];exact h4 aA
 have e3:adR ds=(ds.take j).drop i:=by rw[e2,List.drop_take]
 have e4:(adR ds).length=j-i:=by rw[e2,aS,bD];omega
 refine⟨e3,e4,?_⟩;unfold anX;rw[e4,e1,bD];omega
theorem aqD(neg:Bool)(ds:List UInt8)(e:Int)(hd:Digs ds)(hl:ds.length≤100000)(he: -1000000000000≤e∧e≤1000000000000):Fn 98 [.bool neg,.str ds,.int .i64 e] (dT (mkN neg ds e)):=by
 intro H;have hlo:=avE ds 48;have hml:=ajX (ds.dropWhile (·==48)) 48;have hmo:e+(((ds.dropWhile (·==48)).length:Int)-((Lib.trimRightB (ds.dropWhile (·==48)) 48).length:Int))=e+(anX ds:Int):=by unfold anX adR bfG;omega
 have hdc:Digs (Lib.trimRightB (ds.dropWhile (·==48)) 48):=(hd.dropWhile _).trimR _;refine .of_body func98 rfl ntmps98 results98 rfl ?_;iterate 2 refine AX ?_
 refine .al zr58 (λb6 hb6=>?_);iterate 7 refine AX ?_
 refine .cl rfl call162 (evs1 rfl) (auE ds hd _) ?_;iterate 3 refine AX ?_
 refine .cond_false (tm rfl) aD ?_;iterate 5 refine AX ?_
 refine .cl rfl call163 (.cons (tm rfl) (.cons (zO rfl) .nil)) (trimLeftA 48 aC _ _) ?_;iterate 7 refine AX ?_
 refine .cl rfl call164 (.cons (tm rfl) (.cons (zO rfl) .nil)) (trimRightA 48 aC _ _) (.p rfl (zX zr58 pl58 (.cons (tm rfl) (.inl rfl) (.cons (tm rfl) (.inl rfl) .nil)) rfl) ?_);refine .al zr58 (λb9 hb9=>?_);have hn6_9:=Heap.ne_of (oS _ _ _) hb9;iterate 6 refine AX ?_
 refine .p rfl (zD U58 rfl Z9 (tm rfl)) ?_;iterate 4 refine AX ?_
 refine .cx rfl (λhc22=>?_) (λhc22=>?_)
 ·iterate 7 refine AX ?_
  refine .dropb (fS hb9 _) ?_;refine .frz (t:=6) rfl (hb6) ?_;iterate 3 refine AX ?_
  refine⟨?_,rfl⟩;unfold mkN;rw[aN (show adR ds=[]from hc22)];rw[show ds.dropWhile (·==48)=bfG ds from rfl,show Lib.trimRightB (bfG ds) 48=adR ds from rfl,show adR ds=[]from hc22];rfl
 iterate 6 refine AX ?_
 refine .p rfl (zD U58 rfl Z3 (tm rfl)) ?_;iterate 13 refine AX ?_
 refine .cond_true (tm rfl) (by exact aY (by simp only[bfM];split<;>omega)) ?_;refine AX ?_;refine .p rfl (zD U58 rfl Z3 (tm rfl)) ?_;iterate 3 refine AX ?_
 refine .p rfl (zD U58 rfl Z9 (tm rfl)) ?_;iterate 4 refine AX ?_
 refine .p rfl (zD U58 rfl Z3 (tm rfl)) ?_;iterate 5 refine AX ?_
 rw[hmo];iterate 2 refine AX ?_
 refine .cl rfl C165 (evs1 rfl) (agW neg _ _ hdc _) ?_;iterate 3 refine AX ?_
 refine .cx rfl (λhc44=>?_) (λhc44=>?_)
 ·iterate 2 refine AX ?_
  refine .p rfl (zX zr58 pl58 .nil rfl) ?_;iterate 4 refine AX ?_
  refine .dropb (hb9) ?_;refine .frz (t:=6) rfl (hb6) ?_;iterate 3 refine AX ?_
  refine⟨?_,rfl⟩;have hr:qE (adR ds) (e+anX ds)=false:=by first|exact hc44|exact(Bool.not_eq_false _).mp hc44|(simp only[Bool.not_eq_true,Bool.not_eq_false]at hc44;exact hc44)
  rw[apV hd hc22]at hr;unfold mkN;rw[aL (show¬adR ds=[]from hc22),aL (by rintro⟨q1,q2,q3⟩;simp[q1,q2,q3]at hr)];rfl
 iterate 9 refine AX ?_
 refine .dropb (fS hb9 _) ?_;refine .frz (t:=6) rfl (hb6) ?_;iterate 2 refine AX ?_
 refine⟨?_,rfl⟩;have hr:qE (adR ds) (e+anX ds)=true:=by first|exact hc44|exact(Bool.not_eq_false _).mp hc44|(simp only[Bool.not_eq_true,Bool.not_eq_false]at hc44;exact hc44)
 rw[apV hd hc22]at hr;simp only[bL,aO]at hr;unfold mkN;rw[aL (show¬adR ds=[]from hc22),aN ⟨hr.1.1,hr.1.2,hr.2⟩];rfl
def cmB(neg:Bool)(ds:List UInt8)(e:Int)(b:Nat)(H:Heap):Nat→Env→Heap→Prop:=λk env H1=>∃i:Nat,i≤ds.length∧env=[(0,.bool neg),(1,.str ds),(2,.int .i64 e),(6,.ptr (some ⟨b,0,none⟩)),(8,.int .i64 (i:Int))]∧H1=H.set b (.box 58 [.bool false,.str [],.int .i64 0])∧k=ds.length-i
def cfX(neg:Bool)(ds:List UInt8)(e:Int)(b:Nat)(H:Heap):Nat→Env→Heap→Prop:=λk env H1=>∃i:Nat,i≤ds.length∧(∀q,q<i→ds.getD q 0=48)∧env=[(0,.bool neg),(1,.str ds),(2,.int .i64 e),(6,.ptr (some ⟨b,0,none⟩)),(10,.int .i64 (i:Int))]∧H1=H.set b (.box 58 [.bool false,.str [],.int .i64 0])∧k=ds.length-i
def cfW(neg:Bool)(ds:List UInt8)(e:Int)(b i:Nat)(H:Heap):Nat→Env→Heap→Prop:=λk env H1=>∃j:Nat,i≤j∧j≤ds.length∧(∀q,j≤q→q<ds.length→ds.getD q 0=48)∧env=[(0,.bool neg),(1,.str ds),(2,.int .i64 e),(6,.ptr (some ⟨b,0,none⟩)),(10,.int .i64 (i:Int)),(11,.int .i64 (j:Int)),(12,.int .i64 ((ds.length-j:Nat):Int))]∧H1=H.set b (.box 58 [.bool false,.str [],.int .i64 0])∧k=j
theorem bbW{b:UInt8}:((b.toNat:Nat):Int)=48↔b=48:=by
 have:=bbV (b:=b) 48 aC;exact aT.1 this
theorem ajB(neg:Bool)(ds:List UInt8)(e:Int)(hd:Digs ds)(hl:ds.length≤100000)(he: -1000000000000≤e∧e≤1000000000000):Fn 104 [.bool neg,.str ds,.int .i64 e] (dT (mkN neg ds e)):=by
 intro H;refine .of_body func104 rfl ntmps104 results104 rfl ?_;iterate 2 refine AX ?_
 refine .al zr58 (λb6 hb6=>?_);iterate 10 refine AX ?_
 refine .loopW (cmB neg ds e b6 H) (ds.length) ⟨0,Nat.zero_le _,rfl,rfl,rfl⟩ sX (hRa _) ?_;rintro _ _ _ ⟨i,hi,rfl,rfl,hk⟩;iterate 9 refine AX ?_
 refine .cx rfl (λhc16=>?_) (λhc16=>?_)
 ·have hda:=hd.at (show i<ds.length by omega);have hdc:caL (ds.getD i 0)=true:=by unfold caL;rw[aY aA,aY aA];rfl
  iterate 9 refine AX ?_
  refine .cl rfl call171 (evs1 rfl) (aqQ (ds.getD i 0) _) ?_;iterate 9 refine AX ?_
  refine .cond_false (tm rfl) (by rw[hdc];rfl) ?_;iterate 9 refine AX ?_
  refine Round.mk ⟨i+1,by omega,rfl,rfl,rfl⟩ sX (hRa _) aA
 iterate 12 refine AX ?_
 refine .loopW (cfX neg ds e b6 H) (ds.length) ⟨0,Nat.zero_le _,λq hq=>by omega,rfl,rfl,rfl⟩ sX (hRa _) ?_;rintro _ _ _ ⟨i,hi,hz,rfl,rfl,hk⟩;refine AX ?_;refine .sB 35 (decide ((i:Int)<(ds.length:Int))&&decide (((ds.getD i 0).toNat:Int)=48)) [0,1,2,6,10] ?_
 ·refine .sub [(35,_),(0,_),(1,_),(2,_),(6,_),(10,_)] sX ?_;refine .cx rfl (λhc35=>?_) (λhc35=>?_)
  ·simp only[bL,aO]at hc35;have h48:=bbW.1 hc35.2;iterate 10 refine AX ?_
   refine Round.mk ⟨i+1,by omega,λq hq=>by rcases cG q i with h|h;exact hz q h;rw[show q=i by omega];exact h48,rfl,rfl,rfl⟩ sX (hRa _) aA
  simp only[bX,aM]at hc35;have hne:i<ds.length→ds.getD i 0≠48:=λh h2=>hc35.elim (λq=>q aA) (λq=>q (bbW.2 h2));iterate 19 refine AX ?_
  refine .loopW (cfW neg ds e b6 i H) (ds.length) ⟨ds.length,hi,aV _,λq hq h=>by omega,rfl,rfl,rfl⟩ (zI rfl (zI rfl (zI rfl (zI rfl (zI rfl (zI rfl (zM rfl (by rw[Nat.sub_self];rfl) yJ))))))) (hRa _) ?_;rintro _ _ _ ⟨j,hij,hj,hz2,rfl,rfl,hk⟩;refine AX ?_;refine .seqTo 49 (.bool (decide ((i:Int)<(j:Int))&&decide (((ds.getD (j-1) 0).toNat:Int)=48))) [0,1,2,6,10,11,12] ?_ ?_
  ·iterate 5 refine AX ?_
   refine zC (t:=43) rfl (λhg43=>?_) (λhg43=>?_)
   ·have hh43:=hg43;try simp only[aO]at hh43
    iterate 7 refine AX ?_
    exact⟨rfl,zL rfl (by(rw[show decide ((i:Int)<(j:Int))=_ from hg43,show((j:Int)-1).toNat=j-1 by omega];rfl)) sX,rfl⟩
   have hh43:=hg43;try simp only[aM,cO]at hh43
   iterate 7 refine AX ?_
   exact⟨rfl,zL rfl (by(rw[show decide ((i:Int)<(j:Int))=_ from hg43];rfl)) sX,rfl⟩
  refine .sub [(49,_),(0,_),(1,_),(2,_),(6,_),(10,_),(11,_),(12,_)] sX ?_;refine .cx rfl (λhc49=>?_) (λhc49=>?_)
  ·simp only[bL,aO]at hc49;have h48:=bbW.1 hc49.2;iterate 17 refine AX ?_
   refine Round.mk ⟨j-1,by omega,by omega,λq hq h=>by rcases cG q j with h2|h2;rw[show q=j-1 by omega];exact h48;exact hz2 q h2 h,rfl,rfl,rfl⟩ (zI rfl (zI rfl (zI rfl (zI rfl (zI rfl (zM rfl (by congr 1;omega) (zM rfl (by congr 1;omega) yJ))))))) (hRa _) aA
  simp only[bX,aM]at hc49;have hne2:i<j→ds.getD (j-1) 0≠48:=λh h2=>hc49.elim (λq=>q aA) (λq=>q (bbW.2 h2));obtain⟨hco,hcl,hmr⟩:=bsU hi hij hj hz hne hz2 hne2;iterate 13 refine AX ?_
  refine .cx rfl (λhc56=>?_) (λhc56=>?_)
  ·iterate 3 refine AX ?_
   refine .p rfl (zX zr58 pl58 (.cons (tm rfl) (.inl rfl) .nil) rfl) ?_;iterate 4 refine AX ?_
   refine .frz (t:=6) rfl (hb6) ?_;iterate 3 refine AX ?_
   refine⟨?_,rfl⟩;unfold mkN;rw[aN (cF.1 aA)];rfl
  iterate 3 refine AX ?_
  refine .seqTo 78 (.bool (decide ((1100:Int)<(j:Int)-(i:Int))||decide ((100000:Int)<e)||decide (e< -100000-((ds.length-j:Nat):Int))||decide ((100000:Int)<e+((ds.length-j:Nat):Int)))) [0,1,2,6,10,11,12] ?_ ?_
  ·iterate 6 refine AX ?_
   refine zC (t:=63) rfl (λhg63=>?_) (λhg63=>?_)
   ·have hh63:=hg63;try simp only[aO]at hh63
    iterate 16 refine AX ?_
    exact⟨rfl,zL rfl (by(rw[show decide ((1100:Int)<(j:Int)-(i:Int))=_ from hg63];rfl)) sX,rfl⟩
   have hh63:=hg63;try simp only[aM,cO]at hh63
   iterate 4 refine AX ?_
   refine zC (t:=67) rfl (λhg67=>?_) (λhg67=>?_)
   ·have hh67:=hg67;try simp only[aO]at hh67
    iterate 12 refine AX ?_
    exact⟨rfl,zL rfl (by(rw[show decide ((1100:Int)<(j:Int)-(i:Int))=_ from hg63,show decide ((100000:Int)<e)=_ from hg67];rfl)) sX,rfl⟩
   have hh67:=hg67;try simp only[aM,cO]at hh67
   iterate 6 refine AX ?_
   refine zC (t:=73) rfl (λhg73=>?_) (λhg73=>?_)
   ·have hh73:=hg73;try simp only[aO]at hh73
    iterate 6 refine AX ?_
    exact⟨rfl,zL rfl (by(rw[show decide ((1100:Int)<(j:Int)-(i:Int))=_ from hg63,show decide ((100000:Int)<e)=_ from hg67,show decide (e< -100000-((ds.length-j:Nat):Int))=_ from hg73];rfl)) sX,rfl⟩
   have hh73:=hg73;try simp only[aM,cO]at hh73
   iterate 6 refine AX ?_
   exact⟨rfl,zL rfl (by(rw[show decide ((1100:Int)<(j:Int)-(i:Int))=_ from hg63,show decide ((100000:Int)<e)=_ from hg67,show decide (e< -100000-((ds.length-j:Nat):Int))=_ from hg73];rfl)) sX,rfl⟩
  refine .sub [(78,_),(0,_),(1,_),(2,_),(6,_),(10,_),(11,_),(12,_)] sX ?_;refine .cx rfl (λhc78=>?_) (λhc78=>?_)
  ·simp only[cN,aO]at hc78;iterate 2 refine AX ?_
   refine .p rfl (zX zr58 pl58 .nil rfl) ?_;iterate 4 refine AX ?_
   refine .frz (t:=6) rfl (hb6) ?_;iterate 3 refine AX ?_
   refine⟨?_,rfl⟩;unfold mkN;rw[aL (λh=>by rw[h]at hcl;simp at hcl;omega),aL (show¬okD ds e by unfold okD;rw[hcl,hmr];omega)];rfl
  simp only[cC,aM]at hc78;iterate 12 refine AX ?_
  refine .p rfl (zX zr58 pl58 (.cons (tm rfl) (.inl rfl) (.cons (tm rfl) (.inl rfl) (.cons (tm rfl) (.inl rfl) .nil))) rfl) ?_;iterate 4 refine AX ?_
  refine .frz (t:=6) rfl (hb6) ?_;iterate 2 refine AX ?_
  refine⟨?_,rfl⟩;unfold mkN;rw[aL (λh=>by rw[h]at hcl;simp at hcl;omega),aN (show okD ds e by unfold okD;rw[hcl,hmr];omega),hco,hmr];rfl
end
section
open Go Go.RowKit
set_option maxRecDepth 100000
def upB(rest:List UInt8):Bool:=decide (53≤(rest.getD 0 0).toNat)
theorem cmp5{rest:List UInt8}(h:rest≠[]):(0:Int)≤Lib.compareBytes rest [53]↔53≤(rest.getD 0 0).toNat:=by
 cases rest with
 |nil=>exact absurd rfl h
 |cons x r=>
  unfold Lib.compareBytes;simp only[cI];have hx:x<53↔x.toNat<53:=UInt8.lt_iff_toNat_lt;have hy:53<x↔53<x.toNat:=UInt8.lt_iff_toNat_lt;split
  ·rename_i h1;have:=hx.1 h1;omega
  rename_i h1
  have h1':¬x.toNat<53:=λq=>h1 (hx.2 q);split
  ·omega
  cases r with
  |nil=>unfold Lib.compareBytes;omega
  |cons y r=>unfold Lib.compareBytes;omega
def ayK(s:List UInt8):List UInt8:=
 if Lib.trimRightB s 57=[]then 49::List.replicate s.length 48
 else(Lib.trimRightB s 57).take ((Lib.trimRightB s 57).length-1)++[UInt8.ofNat (((Lib.trimRightB s 57).getD ((Lib.trimRightB s 57).length-1) 0).toNat+1)]++List.replicate (s.length-(Lib.trimRightB s 57).length) 48
def clK(neg:Bool)(ds:List UInt8)(e:Int)(n:Nat):(Bool×List UInt8×Int)×Int:=mkN neg (if upB (ds.drop n)=true then ayK (ds.take n)else ds.take n) (e+ds.length-n)
def caK(neg:Bool)(ds:List UInt8)(e:Int)(n:Nat):(Bool×List UInt8×Int)×Int:=if ds.length≤n then((neg,ds,e),0)else clK neg ds e n
theorem Digs.app{a b:List UInt8}(h:Digs a)(k:Digs b):Digs (a++b):=λx hx=>by
 rcases dP.1 hx with h1|h1
 ·exact h x h1
 exact k x h1
theorem Digs.rep{x:UInt8}(h:isD x):Digs (List.replicate n x):=λy hy=>by rw[List.eq_of_mem_replicate hy];exact h
theorem Digs.one{x:UInt8}(h:isD x):Digs [x]:=λy hy=>by rw[List.mem_singleton.1 hy];exact h
theorem cgP {s : List UInt8} (hd : Digs s) (h : Lib.trimRightB s 57 ≠ []) : 48 ≤ ((Lib.trimRightB s 57).getD ((Lib.trimRightB s 57).length - 1) 0).toNat ∧ ((Lib.trimRightB s 57).getD ((Lib.trimRightB s 57).length - 1) 0).toNat < 57 := by
 have hp := bS.2 h
 have h1 := (hd.trimR 57).at (p := (Lib.trimRightB s 57).length - 1) aA
 have h2 := axA h
 refine ⟨h1.1, ?_⟩
 rcases cG ((Lib.trimRightB s 57).getD ((Lib.trimRightB s 57).length - 1) 0).toNat 57 with q | q
 ·exact q
 exact absurd (UInt8.toNat_inj.1 (show _ = (57 : UInt8).toNat by simp only [UInt8.reduceToNat]; omega)) h2
theorem auU{s:List UInt8}(hd:Digs s):Digs (ayK s):=by
 unfold ayK;split
 ·exact Digs.app (a:=[49]) (Digs.one (by unfold isD;decide)) (Digs.rep (by unfold isD;decide))
 rename_i h
 obtain⟨h1,h2⟩:=cgP hd h;refine Digs.app (Digs.app ((hd.trimR 57).take _) (Digs.one ?_)) (Digs.rep (by unfold isD;decide));unfold isD;rw[fN];omega
theorem asD(s:List UInt8):(ayK s).length≤s.length+1:=by
 unfold ayK;have:=ajX s 57;split
 ·simp
 rename_i h
 have hp:=bS.2 h;simp only[aP,aS,cE,aX,bN];omega
theorem btW(neg:Bool)(kept rest:List UInt8)(hr:rest≠[]):Fn 279 [.bool neg,.str kept,.str rest,.int .i64 1] (.bool (upB rest)):=by
 intro H;refine .of_body func279 rfl ntmps279 results279 rfl ?_;iterate 12 refine AX ?_
 refine .cond_false (tm rfl) (by exact bB hr) ?_;iterate 5 refine AX ?_
 refine .cl rfl call113 (.cons (tm rfl) (.cons (zO rfl) .nil)) (compareA rest [53] _) ?_;iterate 16 refine AX ?_
 refine .cond_false (tm rfl) aD ?_;iterate 6 refine AX ?_
 refine .cond_true (tm rfl) aD ?_;iterate 11 refine AX ?_
 refine⟨?_,rfl⟩;simp only[yD,upB];congr 1;exact aT.2 (cmp5 hr)
theorem brJ(s:List UInt8)(hd:Digs s)(hl:s.length≤100000):Fn 280 [.str s] (.str (ayK s)):=by
 intro H;have htl:=ajX s 57;have hml:=zJ;refine .of_body func280 rfl ntmps280 results280 rfl ?_;iterate 8 refine AX ?_
 refine .cl rfl call164 (.cons (tm rfl) (.cons (zO rfl) .nil)) (trimRightA 57 aC s _) ?_;iterate 10 refine AX ?_
 refine .cl rfl C232 (.cons (zO rfl) (evs1 rfl)) (repeatZ 48 _ (s.length-(Lib.trimRightB s 57).length) aA aA _) ?_;iterate 10 refine AX ?_
 refine .cx rfl (λhc14=>?_) (λhc14=>?_)
 ·iterate 3 refine AX ?_
  refine .p rfl (zS (zO rfl) (tm rfl) (by rw[zJ,cE];simp only[aX,bN];omega)) ?_;iterate 6 refine AX ?_
  refine⟨?_,rfl⟩;unfold ayK;rw[aN hc14,hc14];rfl
 have htp:=bS.2 hc14;obtain⟨h91,h92⟩:=cgP hd hc14;have htn:(((Lib.trimRightB s 57).length:Int)-1).toNat=(Lib.trimRightB s 57).length-1:=by omega
 rw[←htn]at h91 h92;iterate 3 refine AX ?_
 refine .draw [(0,true),(1,true),(2,true),(3,true),(4,true),(5,true),(6,true),(7,true),(8,true),(9,true),(10,true),(11,true),(12,true),(13,true),(14,true),(15,true)] rfl aE ?_;iterate 10 refine AX ?_
 refine .p rfl rfl (axZ (tm rfl) (zR 1) aA) (.p rfl rfl (beN U5 U9 (tm rfl) aA) (.p rfl rfl (zS (tm rfl) (tm rfl) (by rw[zJ];simp only[aX,bN,aS];omega)) ?_));refine AX ?_;refine .p rfl rfl (zS (tm rfl) (tm rfl) (by rw[zJ];simp only[aP,cE,aX,bN,aS];omega)) ?_;iterate 5 refine AX ?_
 refine⟨?_,rfl⟩;unfold ayK;rw[aL hc14,←htn];rfl
theorem bsT(neg:Bool)(ds:List UInt8)(e:Int)(n:Nat)(hd:Digs ds)(hn:0<n)(hn2:n<ds.length)(hl:ds.length≤2000)(he: -200000≤e∧e≤200000):Fn 231 [dA neg ds e,.int .i64 (n:Int),.int .i64 1] (dT (clK neg ds e n)):=by
 intro H;have hdn:ds.drop n≠[]:=by intro h;have:=congrArg List.length h;simp at this;omega
 have hil:=asD (ds.take n);rw[aS]at hil;have hml:=zJ;refine .of_body func231 rfl ntmps231 results231 rfl ?_;iterate 3 refine AX ?_
 refine .al zr58 (λb6 hb6=>?_);iterate 5 refine AX ?_
 refine .p rfl (zA U58 rfl Z3 (tm rfl)) ?_;refine AX ?_;refine .p rfl (zA U58 rfl Z9 (tm rfl)) ?_;iterate 9 refine AX ?_
 refine .draw [(0,true),(1,true),(2,true),(3,true),(5,true),(6,true),(4,false),(7,true),(8,true),(9,true)] rfl aE ?_;iterate 4 refine AX ?_
 refine .p rfl rfl (zA U58 rfl Z9 (tm rfl)) ?_;refine AX ?_;refine .s rfl rfl (zB C232 (.cons (zO rfl) (evs1 rfl)) (repeatZ 48 _ 0 (by simp only[bfM,btO];split<;>split<;>omega) aA _)) ?_;rintro _ _ ⟨rfl,hH⟩;obtain rfl:=hH.symm;refine .p rfl rfl (zS (tm rfl) (tm rfl) (by rw[zJ,cE];omega)) ?_;iterate 11 refine AX ?_
 refine .cond_true (tm rfl) (by exact aY aA) ?_;refine .draw [(0,true),(1,true),(2,true),(3,true),(4,true),(5,true),(6,true),(7,true),(8,true),(9,true)] rfl aE ?_;refine .p rfl rfl (zA U58 rfl Z9 (tm rfl)) ?_;iterate 3 refine AX ?_
 refine .p rfl rfl (zA U58 rfl Z9 (tm rfl)) ?_;iterate 7 refine AX ?_
 refine .seqToL [(9,.str (if upB (ds.drop n)=true then ayK (ds.take n)else ds.take n))] [3,6,7,8] ?_ ?_
 ·iterate 2 refine AX ?_
  refine .p rfl (zA U58 rfl Z4 (tm rfl)) ?_;iterate 4 refine AX ?_
  refine .cl rfl call279 (.cons (tm rfl) (evs3 rfl rfl rfl)) (btW neg _ _ hdn _) ?_;iterate 2 refine AX ?_
  refine .cx rfl (λhc42=>?_) (λhc42=>?_)
  ·iterate 2 refine AX ?_
   refine .cl rfl call280 (evs1 rfl) (brJ (ds.take n) (hd.take n) (by rw[aS];omega) _) ?_;iterate 2 refine AX ?_
   exact⟨rfl,(zM rfl (by(rw[aN (show upB (ds.drop n)=true from hc42)];done)) sX),rfl⟩
  refine AX ?_;exact⟨rfl,(zM rfl (by(rw[aL (show¬upB (ds.drop n)=true from by first|exact hc42|(intro q;rw[show upB (ds.drop n)=false from hc42]at q;cases q))];rfl)) sX),rfl⟩
 refine .sub [(9,_),(3,_),(6,_),(7,_),(8,_)] sX ?_;iterate 2 refine AX ?_
 refine .p rfl (zA U58 rfl Z4 (tm rfl)) ?_;iterate 3 refine AX ?_
 refine .cl rfl call98 (evs3 rfl rfl rfl) (aqD neg (if upB (ds.drop n)=true then ayK (ds.take n)else ds.take n) _ (by split;exact auU (hd.take n);exact hd.take n) (by split;omega;rw[aS];omega) (by constructor<;>omega) _) ?_;iterate 6 refine AX ?_
 refine .frz (t:=6) rfl (hb6) ?_;iterate 2 refine AX ?_
 refine⟨?_,rfl⟩;rfl
theorem caC(neg:Bool)(ds:List UInt8)(e:Int)(n:Nat)(hr:qE ds e=true)(hn:0<n)(hn2:n≤100000):Fn 174 [dA neg ds e,.int .i64 (n:Int),.int .i64 1] (dT (caK neg ds e n)):=by
 intro H;have hk1:(!qE ds e)=false:=by rw[hr];rfl
 have hrl:=qT hr;have hdd:=qJ hr;refine .of_body func174 rfl ntmps174 results174 rfl ?_;iterate 3 refine AX ?_
 refine .al zr58 (λb6 hb6=>?_);iterate 8 refine AX ?_
 refine .cl rfl C165 (evs1 rfl) (agW neg ds e hdd _) ?_;iterate 16 refine AX ?_
 refine .cond_false (tm rfl) (by exact bB aA) ?_;iterate 3 refine AX ?_
 refine .p rfl (zA U58 rfl Z9 (tm rfl)) ?_;iterate 6 refine AX ?_
 refine .cx rfl (λhc25=>?_) (λhc25=>?_)
 ·iterate 7 refine AX ?_
  refine .frz (t:=6) rfl (hb6) ?_;iterate 4 refine AX ?_
  refine⟨?_,rfl⟩;unfold caK;rw[aJ];rfl
 iterate 8 refine AX ?_
 refine .cl rfl call231 (evs3 rfl rfl rfl) (bsT neg ds e n hdd hn aA aA aA _) ?_;iterate 6 refine AX ?_
 refine .frz (t:=6) rfl (hb6) ?_;iterate 2 refine AX ?_
 refine⟨?_,rfl⟩;unfold caK;rw[aI];rfl
end
section
open Go Go.RowKit
set_option maxRecDepth 100000
theorem ckZ(s:List UInt8)(k:Nat):s.map bv++List.replicate k (.int .u8 0)=U .u8 (s.map UInt8.toNat++List.replicate k 0):=by
 rw[←apZ];unfold U;rw[List.map_map,List.map_replicate];rfl
theorem clF(l:List UInt8):U .u8 (l.map UInt8.toNat)=l.map bv:=by
 unfold U;rw[List.map_map];rfl
def byE(rest:List UInt8):Int:=if rest=[53]then 0 else if(decide ((53:Int)<(((rest.getD 0 0).toNat:Nat):Int))||(decide ((((rest.getD 0 0).toNat:Nat):Int)=53)&&decide ((1:Int)<(rest.length:Int))))=true then 1 else-1
theorem cjW{rest:List UInt8}(h:rest≠[]):decide ((0:Int)≤byE rest)=upB rest:=by
 unfold byE upB;apply aT.2;cases rest with
 |nil=>exact absurd rfl h
 |cons x r=>
  simp only[cI];split
  ·rename_i h1
   have:x=53:=by simp at h1;exact h1.1
   rw[this];decide
  rename_i h1
  have h2:x.toNat=53→r≠[]:=λq q2=>h1 (by rw[q2,UInt8.toNat_inj.1 (show x.toNat=(53:UInt8).toNat from q)]);split
  ·rename_i h3
   simp only[cN,bL,aO]at h3;omega
  rename_i h3
  simp only[cN,bL,aO,not_or,not_and]at h3;constructor
  ·intro q;omega
  intro q;have h4:x.toNat=53:=by omega
  have h5:=bS.2 (h2 h4);have h6:=h3.2 aA;simp only[aX]at h6;omega
theorem biG(hk:ks.length=n)(h1:1≤j)(hj:j≤n):(ks.take j++List.replicate (n-j) 48++ts).getD (j-1) 0=ks.getD (j-1) 0:=by
 rw[aQ,aR,gB (by rw[aS];omega),List.getElem?_take_of_lt aA,aR]
theorem bvG(hk:ks.length=n)(h1:1≤j)(hj:j≤n)(v:Nat):(ks.take j++List.replicate (n-j) 48++ts).set (j-1) v=(ks.take (j-1)++[v]++List.replicate (n-j) 48)++ts:=by
 have e:ks.take j=ks.take (j-1)++[ks[j-1]'aA]:=by
  rw[cV aA,show j-1+1=j by omega]
 rw[aQ,List.set_append_left _ _ (by rw[aS];omega),e,List.set_append_right _ _ (by rw[aS];omega),aS,show j-1-min (j-1) ks.length=0 by omega];simp
theorem cbP(hk:ks.length=n)(h1:1≤j)(hj:j≤n):(ks.take j++List.replicate (n-j) 48++ts).set (j-1) 48=ks.take (j-1)++List.replicate (n-(j-1)) 48++ts:=by
 rw[bvG hk h1 hj,show n-(j-1)=(n-j)+1 by omega,List.replicate_succ];simp
theorem atG(hk:ks.length=n)(hj:j≤n):(ks.take j++List.replicate (n-j) 48).length=n∧n≤(ks.take j++List.replicate (n-j) 48++ts).length:=by
 simp only[aP,aS,cE];omega
theorem arX{s:List UInt8}{q:Nat}:(s.map UInt8.toNat).getD q 0=(s.getD q 0).toNat:=by
 rw[aR,aR,fT];cases s[q]?<;>rfl
theorem cjT{s:List UInt8}(h:Lib.trimRightB s 57=[]):(ayK s).map UInt8.toNat=[49]++List.replicate s.length 48:=by
 unfold ayK;rw[aN h];simp
theorem cmW{s:List UInt8}(hd:Digs s)(h1:1≤j)(hj:j≤s.length)(h:Lib.trimRightB s 57=s.take j):(ayK s).map UInt8.toNat=(s.map UInt8.toNat).take (j-1)++[(s.map UInt8.toNat).getD (j-1) 0+1]++List.replicate (s.length-j) 48:=by
 have hl:(s.take j).length=j:=by rw[aS];omega
 unfold ayK;rw[h,aL (λq=>by rw[q]at hl;simp at hl;omega),hl,List.take_take,dN aA,arX];have e:(s.take j).getD (j-1) 0=s.getD (j-1) 0:=by
  rw[aR,List.getElem?_take_of_lt aA,aR]
 have hb:=hd.at (show j-1<s.length by omega);rw[e];simp only[fU,List.map_take,fA,List.map_nil,List.map_replicate];congr 2
 ·congr 2
  rw[fN];omega
theorem bkA{H:Heap}{b c:Nat}{x:AObj}(h:(H.set b x).objs c=none)(x':AObj):(H.set b x').objs c=none:=fS h x'
def cgD(neg:Bool)(ds:List UInt8)(e:Int)(n b6 b c:Nat)(ts:List Nat)(H:Heap):Nat→Env→Heap→Prop:=λk env H1=>∃j:Nat,j≤n∧(∀q,j≤q→q<n→(ds.take n).getD q 0=57)∧env=[(3,.iptr [.bool neg,.str ds,.int .i64 e]),(6,.ptr (some ⟨b6,0,none⟩)),(8,.int .i64 (e+(ds.length:Int)-(n:Int))),(9,.mslice (some ⟨b,0,none⟩) n c),(14,.int .i64 ((j:Int)-1))]∧H1=(H.set b6 (.box 58 [.bool false,.str [],.int .i64 0])).set b (.box 5 (U .u8 (((ds.take n).map UInt8.toNat).take j++List.replicate (n-j) 48++ts)))∧k=j
theorem biL(neg:Bool)(ds:List UInt8)(e:Int)(n:Nat)(hd:Digs ds)(hn:0<n)(hn2:n<ds.length)(hl:ds.length≤2000)(he: -200000≤e∧e≤200000):Fn 148 [dA neg ds e,.int .i64 (n:Int),.int .i64 1] (dT (clK neg ds e n)):=by
 intro H;have hdn:ds.drop n≠[]:=by intro h;have:=congrArg List.length h;simp at this;omega
 have hup:=cjW hdn;have hil:=asD (ds.take n);have hkn:(ds.take n).length=n:=by rw[aS];omega
 have hks:((ds.take n).map UInt8.toNat).length=n:=by rw[eS,hkn]
 have hml:=zJ;have hnp:decide ((0:Int)<(n:Int))=true:=aY aA;have hdp:=bS.2 hdn;have hkd:=hd.take n;refine .of_body func148 rfl ntmps148 results148 rfl ?_;iterate 3 refine AX ?_
 refine .al zr58 (λb6 hb6=>?_);iterate 5 refine AX ?_
 refine .p rfl (zA U58 rfl Z3 (tm rfl)) ?_;refine AX ?_;refine .p rfl (zA U58 rfl Z9 (tm rfl)) ?_;iterate 10 refine AX ?_
 refine .p rfl (zA U58 rfl Z9 (tm rfl)) ?_;iterate 3 refine AX ?_
 refine .s rfl (axE U9 U142 U5 (tm rfl) (by(rw[aS];omega))) ?_;rintro _ _ ⟨b27,c27,rfl,hcl27,hcm27,hb27,hH⟩;obtain rfl:=hH.symm;iterate 4 refine AX ?_
 have hcl:n≤c27:=by rw[←hkn];exact hcl27
 rw[ckZ,show((n:Int)).toNat=n from rfl,hkn];generalize hts:List.replicate (c27-n) 0=ts;have hrow0:((ds.take n).map UInt8.toNat)++ts=((ds.take n).map UInt8.toNat).take n++List.replicate (n-n) 48++ts:=by rw[bA (l:=((ds.take n).map UInt8.toNat)) (Nat.le_of_eq hks),Nat.sub_self,List.replicate_zero,bP]
 refine AX ?_;refine .p rfl (zA U58 rfl Z9 (tm rfl)) ?_;iterate 7 refine AX ?_
 rw[show((n:Int)).toNat=n from rfl];iterate 4 refine AX ?_
 refine .seqToL [(11,.int .i64 (byE (ds.drop n)))] [1,2,3,6,7,8,9,10] ?_ ?_
 ·iterate 6 refine AX ?_
  refine .cond_true (tm rfl) (by show(!decide (ds.drop n=[]))=true;rw[bB hdn];rfl) ?_;iterate 5 refine AX ?_
  refine .seqToL [(11,.int .i64 (if(decide ((53:Int)<((((ds.drop n).getD 0 0).toNat:Nat):Int))||(decide (((((ds.drop n).getD 0 0).toNat:Nat):Int)=53)&&decide ((1:Int)<((ds.drop n).length:Int))))=true then 1 else-1))] [1,2,3,6,7,8,9,10] ?_ ?_
  ·refine .sB 46 ((decide ((53:Int)<((((ds.drop n).getD 0 0).toNat:Nat):Int))||(decide (((((ds.drop n).getD 0 0).toNat:Nat):Int)=53)&&decide ((1:Int)<((ds.drop n).length:Int))))) [1,2,3,6,7,8,9,10,11] ?_
   ·refine .sub [(46,_),(1,_),(2,_),(3,_),(6,_),(7,_),(8,_),(9,_),(10,_),(11,_)] sX ?_;refine .cx rfl (λhc46=>?_) (λhc46=>?_)
    ·iterate 3 refine AX ?_
     exact⟨rfl,(zM rfl (by(rw[aN hc46];done)) sX),rfl⟩
    refine AX ?_;exact⟨rfl,(zM rfl (by(rw[aL (by rw[hc46];decide)];done)) sX),rfl⟩
  refine .sub [(11,_),(1,_),(2,_),(3,_),(6,_),(7,_),(8,_),(9,_),(10,_)] sX ?_;iterate 6 refine AX ?_
  refine .cx rfl (λhc48=>?_) (λhc48=>?_)
  ·iterate 3 refine AX ?_
   exact⟨rfl,(zM rfl (by unfold byE;first|(rw[aN (show ds.drop n=[53]from hc48)];done)|(rw[aL (show¬ds.drop n=[53]from hc48)];done)) sX),rfl⟩
  refine AX ?_;exact⟨rfl,(zM rfl (by unfold byE;first|(rw[aN (show ds.drop n=[53]from hc48)];done)|(rw[aL (show¬ds.drop n=[53]from hc48)];done)) sX),rfl⟩
 refine .sub [(11,_),(1,_),(2,_),(3,_),(6,_),(7,_),(8,_),(9,_),(10,_)] sX ?_;refine .seqTo 12 (.bool (decide (((((ds.take n).map UInt8.toNat)++ts).getD (n-1) 0%2:Nat)=(1:Int)))) [11,1,2,3,6,7,8,9,10] ?_ ?_
 ·iterate 7 refine AX ?_
  refine .gp rfl rfl rfl aB (yH (n-1) U142 Z5 (tm rfl) (tm rfl) aA aA) (.gs rfl rfl rfl aB (yZ G5 (tm rfl) (oS _ _ _) (by(rw[aP,eS,aS];omega))) ?_);rintro _ _ ⟨rfl,hH⟩;obtain rfl:=hH.symm;refine .gp rfl rfl rfl aB (bwB (tm rfl) (zR 2) aA) ?_;iterate 4 refine AM ?_
  exact⟨rfl,zL rfl aD sX,rfl⟩
 refine .sub [(12,_),(11,_),(1,_),(2,_),(3,_),(6,_),(7,_),(8,_),(9,_),(10,_)] sX ?_;iterate 18 refine AX ?_
 refine .cond_false (tm rfl) aD ?_;iterate 6 refine AX ?_
 refine .cond_true (tm rfl) aD ?_;iterate 7 refine AX ?_
 refine .meet (λenv H2=>∃(b c:Nat)(zs ts:List Nat),zs=(if upB (ds.drop n)=true then ayK (ds.take n)else ds.take n).map UInt8.toNat∧zs.length≤c∧c≤maxLen∧(H.set b6 (.box 58 [.bool false,.str [],.int .i64 0])).objs b=none∧env=[(3,.iptr [.bool neg,.str ds,.int .i64 e]),(6,.ptr (some ⟨b6,0,none⟩)),(8,.int .i64 (e+(ds.length:Int)-(n:Int))),(9,.mslice (some ⟨b,0,none⟩) zs.length c)]∧H2=(H.set b6 (.box 58 [.bool false,.str [],.int .i64 0])).set b (.box 5 (U .u8 (zs++ts)))) ?_ ?_
 ·refine .sB 91 (upB (ds.drop n)) [1,3,6,7,8,9] ?_
  ·refine .sub [(91,_),(1,_),(3,_),(6,_),(7,_),(8,_),(9,_)] sX ?_;refine .cx rfl (λhc91=>?_) (λhc91=>?_)
   ·iterate 9 refine AX ?_
    refine .loopW (cgD neg ds e n b6 b27 c27 ts H) (n) ⟨n,aV _,λq h1 h2=>by omega,rfl,by rw[hrow0],rfl⟩ sX (hRa _) ?_;rintro _ _ _ ⟨j,hj,h9,rfl,rfl,hk⟩;refine AX ?_;refine .seqTo 102 (.bool (decide ((0:Int)≤(j:Int)-1)&&decide ((((((ds.take n).map UInt8.toNat).take j++List.replicate (n-j) 48++ts).getD (j-1) 0:Nat):Int)=((57:Nat):Int)))) [3,6,8,9,14] ?_ ?_
    ·iterate 4 refine AX ?_
     refine zC (t:=96) rfl (λhg96=>?_) (λhg96=>?_)
     ·have hh96:=hg96;try simp only[aO]at hh96
      iterate 2 refine AX ?_
      refine .gp rfl rfl rfl aB (yH (j-1) U142 Z5 (tm rfl) (tm rfl) aA aA) ?_;refine .gs rfl rfl rfl aB (yZ G5 (tm rfl) (oS _ _ _) (by(have:=(atG (ts:=ts) hks (show j≤n by omega)).2;omega))) ?_;rintro _ _ ⟨rfl,hH⟩;obtain rfl:=hH.symm;iterate 3 refine AM ?_
      exact⟨rfl,zL rfl (by(rw[show decide ((0:Int)≤(j:Int)-1)=_ from hg96];rfl)) sX,rfl⟩
     have hh96:=hg96;try simp only[aM,dO]at hh96
     iterate 7 refine AX ?_
     exact⟨rfl,zL rfl (by(rw[show decide ((0:Int)≤(j:Int)-1)=_ from hg96];rfl)) sX,rfl⟩
    refine .sub [(102,_),(3,_),(6,_),(8,_),(9,_),(14,_)] sX ?_;refine .cx rfl (λhc102=>?_) (λhc102=>?_)
    ·simp only[bL,aO]at hc102;obtain⟨hj1,hc102b⟩:=hc102;have hgr:=biG (ts:=ts) hks (show 1≤j by omega) hj;have h57:(ds.take n).getD (j-1) 0=57:=by
      have h:=hc102b;rw[hgr,arX]at h;exact UInt8.toNat_inj.1 (show _=(57:UInt8).toNat by simp only[UInt8.reduceToNat];omega)
     iterate 7 refine AX ?_
     refine .p rfl (yH (j-1) U142 Z5 (tm rfl) (tm rfl) aA aA) ?_;refine .e0 (yU Z5 (tm rfl) (zR 48) (oS _ _ _) (by(have:=(atG (ts:=ts) hks (show j≤n by omega)).2;omega))) ?_;try first|rw[sS]|rw[sU aB]
     iterate 9 refine AX ?_
     rw[cbP hks aA hj];refine Round.mk ⟨j-1,by omega,λq h1 h2=>by rcases cG q j with h|h;rw[show q=j-1 by omega];exact h57;exact h9 q h h2,rfl,rfl,rfl⟩ (zI rfl (zI rfl (zI rfl (zI rfl (zM rfl (by congr 1;omega) yJ))))) (hRa _) aA
    simp only[bX,aM]at hc102;have hne:0<j→(ds.take n).getD (j-1) 0≠57:=λhp h=>hc102.elim (λq=>q aA) (λq=>q (by rw[biG (ts:=ts) hks hp hj,arX,h];rfl));have htr:=awZ (l:=ds.take n) (c:=57) aA (λq h1 h2=>h9 q h1 aA) hne;iterate 11 refine AX ?_
    refine .cx rfl (λhc109=>?_) (λhc109=>?_)
    ·have hj0:j=0:=by omega
     subst hj0;refine .frzU (t:=9) rfl hb27 (atG (ts:=ts) hks (Nat.zero_le _)).2 hcl hcm27 ?_;rw[fB,cJ,gL,List.take_left' cE];refine AX ?_;refine .e rfl (qM U142 Z5 V5 rfl (zR 49) (.inl rfl) ⟨rfl,rfl⟩) ?_;refine AX ?_;refine .s rfl (aqJ (xs:=[49]) (ys:=List.replicate n 48) U142 U142 Z5 typeInfo5 V5 aC (tm rfl) (tm rfl) (by show _*1≤_;simp only[cE,aX,bN];omega) (by rw[cE];exact hn)) ?_;rintro _ _ ⟨b112,c112,rfl,hb112,hcl112,hcm112,hH⟩;obtain rfl:=hH.symm;iterate 3 refine AX ?_
     refine .mk ⟨b112,c112,[49]++List.replicate n 48,_,by rw[aN aB,cjT htr,hkn],hcl112,hcm112,hb112,rfl,rfl⟩ sX (hRa _)
    have hgr:=biG (ts:=ts) hks (show 1≤j by omega) hj;have hbd:=hkd.at (show j-1<(ds.take n).length by omega);rw[←arX,←hgr]at hbd;iterate 3 refine AX ?_
    refine .p rfl (yH (j-1) U142 Z5 (tm rfl) (tm rfl) aA aA) ?_;refine .e rfl (yZ G5 (tm rfl) (oS _ _ _) (by(have:=(atG (ts:=ts) hks (show j≤n by omega)).2;omega))) ?_;refine .p rfl (axZ (tm rfl) (zR 1) aA) (.p rfl (yH (j-1) U142 Z5 (tm rfl) (tm rfl) aA aA) ?_);refine .e0 (yU Z5 (tm rfl) (tm rfl) (oS _ _ _) (by(have:=(atG (ts:=ts) hks (show j≤n by omega)).2;omega))) ?_;try first|rw[sS]|rw[sU aB]
    iterate 2 refine AX ?_
    refine .mk ⟨b27,c27,((ds.take n).map UInt8.toNat).take (j-1)++[(((ds.take n).map UInt8.toNat).take j++List.replicate (n-j) 48++ts).getD (j-1) 0+1]++List.replicate (n-j) 48,ts,by rw[aN aB,cmW hkd aA aA htr,hkn,hgr],by rw[aP,aP,aS,cE,aX,bN];omega,hcm27,hb27,rfl,by rw[bvG hks aA hj]⟩ (zI rfl (zI rfl (zI rfl (zM rfl (by rw[aP,aP,aS,cE,aX,bN];congr 1;omega) yJ)))) (hRa _)
   iterate 2 refine AX ?_
   refine .mk ⟨b27,c27,((ds.take n).map UInt8.toNat),ts,by rw[aL (by(rw[hc91];decide))],by omega,hcm27,hb27,rfl,rfl⟩ (zI rfl (zI rfl (zI rfl (zM rfl (by rw[hks]) yJ)))) (hRa _)
 rintro _ _ ⟨b,c,zs,ts2,hzs,hzc,hcm,hbz,rfl,rfl⟩;have hne6:=Heap.fresh_ne hbz;iterate 2 refine AX ?_
 refine .p rfl (zA U58 rfl Z4 (tm rfl)) ?_;iterate 2 refine AX ?_
 refine .e rfl (bdB (l:=(if upB (ds.drop n)=true then ayK (ds.take n)else ds.take n)) U142 U9 U5 (tm rfl) (oS _ _ _) (by rw[hzs,eS]) (by rw[cU,boW,fZ,hzs,clF]) (aZ hzc hcm)) ?_;refine AX ?_;refine .cl rfl C104 (evs3 rfl rfl rfl) (ajB neg (if upB (ds.drop n)=true then ayK (ds.take n)else ds.take n) _ (by split;exact auU hkd;exact hkd) (by split<;>omega) (by constructor<;>omega) _) ?_;iterate 6 refine AX ?_
 refine .dropb (bkA hbz _) ?_;refine .frz (t:=6) rfl hb6 ?_;iterate 2 refine AX ?_
 refine⟨?_,rfl⟩;rfl
theorem bqI(neg:Bool)(ds:List UInt8)(e:Int)(n:Nat)(hr:qE ds e=true)(hn:0<n)(hn2:n≤100000):Fn 78 [dA neg ds e,.int .i64 (n:Int),.int .i64 1] (dT (caK neg ds e n)):=by
 intro H;have hk1:(!qE ds e)=false:=by rw[hr];rfl
 have hrl:=qT hr;have hdd:=qJ hr;refine .of_body func78 rfl ntmps78 results78 rfl ?_;iterate 3 refine AX ?_
 refine .al zr58 (λb6 hb6=>?_);iterate 6 refine AX ?_
 refine .cl rfl call147 (evs1 rfl) (akI neg ds e (by rw[zJ];omega) _) ?_;iterate 22 refine AX ?_
 refine .cond_false (tm rfl) (by exact bB aA) ?_;iterate 5 refine AX ?_
 refine .p rfl (zA U58 rfl Z9 (tm rfl)) ?_;iterate 6 refine AX ?_
 refine .cx rfl (λhc30=>?_) (λhc30=>?_)
 ·iterate 7 refine AX ?_
  refine .frz (t:=6) rfl (hb6) ?_;iterate 3 refine AX ?_
  refine⟨?_,rfl⟩;unfold caK;rw[aJ];rfl
 iterate 7 refine AX ?_
 refine .cl rfl call148 (evs3 rfl rfl rfl) (biL neg ds e n hdd hn aA aA aA _) ?_;iterate 6 refine AX ?_
 refine .frz (t:=6) rfl (hb6) ?_;iterate 2 refine AX ?_
 refine⟨?_,rfl⟩;unfold caK;rw[aI];rfl
end
end Go.Proofs.YtmmgbnolccpjoaaGreatDoor
