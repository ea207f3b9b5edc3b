import Derived.Test.YtmmgbnolccpjoaaGreatDoorB3
namespace Go.Proofs.YtmmgbnolccpjoaaGreatDoor
open Go.Proofs.Tryz
open Go Go.RowKit Go.Lib
variable{c:UInt8}{B W Z d d0 d1 dd t v y z:List UInt8}{gr neg x:Bool}{k:Nat}{kd:Int}
def awD:List (List UInt8):=[[32],[9],[194,160],[226,128,175]]
inductive Blanks:List UInt8→Prop
 |nil:Blanks []
 |cons {e b:List UInt8} (he:e∈awD) (hb:Blanks b):Blanks (e++b)
theorem Blanks.one{e:List UInt8}(he:e∈awD):Blanks e:=by
 have:=Blanks.cons he .nil
 grind
theorem Blanks.app{a b:List UInt8}(ha:Blanks a)(hb:Blanks b):Blanks (a++b):=by
 induction ha with
 |nil=>exact hb
 |cons he _ ih=>rw[aQ];exact .cons he ih
theorem Blanks.last{b:List UInt8}(h:Blanks b):b=[]∨∃e∈awD,∃c,Blanks c∧b=c++e:=by
 induction h with
 |nil=>exact .inl rfl
 | @cons e b he hb ih=>
  refine .inr ?_;rcases ih with rfl|⟨e2,he2,c,hc,rfl⟩
  ·exact⟨e,he,[],.nil,by simp⟩
  exact⟨e2,he2,e++c,.cons he hc,by simp⟩
theorem adF{e:List UInt8}(he:e∈awD):e=[32]∨e=[9]∨e=[194,160]∨e=[226,128,175]:=by
 simpa[awD]using he
theorem alJ{e:List UInt8}(he:e∈awD)(r:List UInt8):zQ (decodeL (e++r)).1=true∧(decodeL (e++r)).2=e.length:=by
 rcases adF he with rfl|rfl|rfl|rfl
 ·rw[show decodeL (([32]:List UInt8)++r)=(32,1) by rw[decodeL_N];exact decodeN_ascii _ _ _ _ _ (show(32:UInt8).toNat<128 by decide)];exact⟨by decide,rfl⟩
 ·rw[show decodeL (([9]:List UInt8)++r)=(9,1) by rw[decodeL_N];exact decodeN_ascii _ _ _ _ _ (show(9:UInt8).toNat<128 by decide)];exact⟨by decide,rfl⟩
 ·have:decodeL (([194,160]:List UInt8)++r)=(160,2):=by
   rw[decodeL_N];simp only[cR,cJ,cI,dG,aX];unfold decodeN;simp
  rw[this];exact⟨by decide,rfl⟩
 have:decodeL (([226,128,175]:List UInt8)++r)=(8239,3):=by
  rw[decodeL_N];simp only[cR,cJ,cI,dG,aX];unfold decodeN;simp
 rw[this];exact⟨by decide,rfl⟩
theorem ckJ{n b0 b1 b2 b3:Nat}(h0:b0<256)(h1:b1<256)(h2:b2<256)(h:zQ (decodeN n b0 b1 b2 b3).1=true):b0=32∨b0=9∨(1<n∧b0=194∧b1=160)∨(2<n∧b0=226∧b1=128∧b2=175):=by
 unfold zQ at h;simp only[cN,beq_iff_eq]at h;unfold decodeN at h
 repeat' split at h
 all_goals (simp only at h;omega)
theorem abM{d:UInt8}(h:c.toNat=d.toNat):c=d:=UInt8.toNat_inj.1 h
theorem byT{l:List UInt8}(h:zQ (decodeL l).1=true):∃e∈awD,∃r,l=e++r:=by
 rw[decodeL_N]at h;have k:=ckJ (UInt8.toNat_lt _) (UInt8.toNat_lt _) (UInt8.toNat_lt _) h
 match l,k with
 | [],k=>simp at k
 |a::t,k=>
  simp only[cI,aX]at k;rcases k with k|k|⟨hn,k,k1⟩|⟨hn,k,k1,k2⟩
  ·obtain rfl:a=32:=abM k;exact⟨[32],by simp[awD],t,rfl⟩
  ·obtain rfl:a=9:=abM k;exact⟨[9],by simp[awD],t,rfl⟩
  ·obtain rfl:a=194:=abM k
   match t,hn,k1 with
   |b::t,_,k1=>
    obtain rfl:b=160:=abM k1;exact⟨[194,160],by simp[awD],t,rfl⟩
  obtain rfl:a=226:=abM k
  match t,hn,k1,k2 with
  | [b],hn,_,_=>simp at hn
  |b::c::t,_,k1,k2=>
   obtain rfl:b=128:=abM k1;obtain rfl:c=175:=abM k2;exact⟨[226,128,175],by simp[awD],t,rfl⟩
theorem avC{e:List UInt8}(he:e∈awD)(r:List UInt8):zQ (decodeLastL (r++e)).1=true∧(decodeLastL (r++e)).2=e.length:=by
 rcases adF he with rfl|rfl|rfl|rfl
 ·have:decodeLastL (r++[32])=(32,1):=by
   unfold decodeLastL;rw[aL aF,abZ aF,aN aC];rfl
  rw[this];exact⟨by decide,rfl⟩
 ·have:decodeLastL (r++[9])=(9,1):=by
   unfold decodeLastL;rw[aL aF,abZ aF,aN aC];rfl
  rw[this];exact⟨by decide,rfl⟩
 ·have hst:lastStart (r++[194,160])=r.length:=by
   have g2:(r++[194,160]).getD ((r++[194,160]).length-2) 0=194:=by grind
   unfold lastStart;simp only[g2];rw[aL aF,aN aC];simp
  have:decodeLastL (r++[194,160])=(160,2):=by
   unfold decodeLastL;rw[aL aF,abZ aF,aL aC,hst,cX,show decodeL [194,160]=(160,2) by decide+kernel];simp
  rw[this];exact⟨by decide,rfl⟩
 have hst:lastStart (r++[226,128,175])=r.length:=by
  have g2:(r++[226,128,175]).getD ((r++[226,128,175]).length-2) 0=128:=by grind
  have g3:(r++[226,128,175]).getD ((r++[226,128,175]).length-3) 0=226:=by grind
  unfold lastStart;simp only[g2,g3];rw[aL aF,aL aC,aL aF,aN aC];simp
 have:decodeLastL (r++[226,128,175])=(8239,3):=by
  unfold decodeLastL;rw[aL aF,abZ aF,aL aC,hst,cX,show decodeL [226,128,175]=(8239,3) by decide+kernel];simp
 rw[this];exact⟨by decide,rfl⟩
theorem cjS{l:List UInt8}(h:zQ (decodeLastL l).1=true):∃e∈awD,∃r,l=r++e:=by
 unfold decodeLastL at h;split at h
 ·exact absurd h aC
 rename_i hn
 have hl:=bS.2 hn;split at h
 ·have e:l=l.take (l.length-1)++[l.getD (l.length-1) 0]:=by
   have h1:l.drop (l.length-1)=[l.getD (l.length-1) 0]:=by
    rw[cD aA,fV aA]
    grind
   rw[←h1,dB]
  unfold zQ at h;simp only[cN,beq_iff_eq]at h;rcases(by omega:(l.getD (l.length-1) 0).toNat=32∨(l.getD (l.length-1) 0).toNat=9)with k|k
  ·exact⟨[32],by simp[awD],l.take (l.length-1),by rw[abM (d:=32) k]at e;exact e⟩
  exact⟨[9],by simp[awD],l.take (l.length-1),by rw[abM (d:=9) k]at e;exact e⟩
 simp only at h;split at h
 ·rename_i hw
  obtain⟨e,he,r,hr⟩:=byT h;have hw2:=(alJ he r).2;rw[←hr]at hw2;have hlen:=congrArg List.length hr;rw[bD,aP]at hlen;have hr0:r=[]:=cF.1 aA;subst hr0;rw[bP]at hr;exact⟨e,he,l.take (lastStart l),by rw[←hr,dB]⟩
 exact absurd h aC
theorem aiW:∀(f:Nat)(l:List UInt8),l.length≤f→∃B,Blanks B∧l=B++qU zQ f l∧(qU zQ f l=[]∨zQ (decodeL (qU zQ f l)).1=false)
 |f,[],_=>⟨[],.nil,by rw[abJ];rfl,.inl (abJ _ _)⟩
 |0,x::l,h=>by simp at h
 |f+1,x::l,h=>by
  rw[agJ _ _ aF];split
  ·rename_i hb
   obtain⟨e,he,r,hr⟩:=byT hb;have hw:=(alJ he r).2;have hd:(x::l).drop (decodeL (x::l)).2=r:=by rw[hr,hw,cX]
   rw[hd];have hlen:=congrArg List.length hr;have he1:1≤e.length:=by rcases adF he with rfl|rfl|rfl|rfl<;>simp
   rw[aP]at hlen;obtain⟨B,hB,h1,h2⟩:=aiW f r aA;exact⟨e++B,.cons he hB,by rw[aQ,←h1];exact hr,h2⟩
  rename_i hb
  exact⟨[],.nil,rfl,.inr (by simpa using hb)⟩
theorem ajZ{x:List UInt8}(hB:Blanks B)(hx:x=[]∨zQ (decodeL x).1=false):∀f,(B++x).length≤f→qU zQ f (B++x)=x:=by
 induction hB with
 |nil=>intro f _;exact axB hx f
 | @cons e b he _ ih=>
  intro f hf;have he1:1≤e.length:=by rcases adF he with rfl|rfl|rfl|rfl<;>simp
  have hne:e++(b++x)≠[]:=by intro q;rw[(List.append_eq_nil_iff.1 q).1]at he1;simp at he1
  rw[aQ]at hf ⊢;rw[aP]at hf;obtain⟨g,rfl⟩:∃g,f=g+1:=⟨f-1,by omega⟩;rw[agJ _ _ hne,aN (alJ he _).1,(alJ he _).2,cX];exact ih g aA
theorem bcV(hB:Blanks B)(f:Nat)(hf:B.length≤f):qU zQ f B=[]:=by
 have:=ajZ (x:=[]) hB (.inl rfl) f (by rwa[bP])
 grind
def zU(s:List UInt8):List UInt8:=qU zQ s.length s
theorem abC(s:List UInt8):∃B,Blanks B∧s=B++zU s:=by
 obtain⟨B,h1,h2,_⟩:=aiW s.length s (aV _);exact⟨B,h1,h2⟩
theorem aaY{x:List UInt8}(hB:Blanks B)(hx:x=[]∨zQ (decodeL x).1=false):zU (B++x)=x:=ajZ hB hx _ (aV _)
theorem apP(hB:Blanks B):zU B=[]:=bcV hB _ (aV _)
theorem auP{x:List UInt8}(hx:x=[]∨zQ (decodeL x).1=false):zU x=x:=aaY .nil hx
theorem aiV:∀(f:Nat)(l:List UInt8),l.length≤f→∃B,Blanks B∧l=abR zQ f l++B
 |f,[],_=>⟨[],.nil,by rw[abW];rfl⟩
 |0,x::l,h=>by simp at h
 |f+1,x::l,h=>by
  rw[amB _ _ aF];split
  ·rename_i hb
   obtain⟨e,he,r,hr⟩:=cjS hb;have hw:=(avC he r).2;have hd:(x::l).take ((x::l).length-(decodeLastL (x::l)).2)=r:=by
    rw[hr,hw,aP,gA,fZ]
   rw[hd];have hlen:=congrArg List.length hr;have he1:1≤e.length:=by rcases adF he with rfl|rfl|rfl|rfl<;>simp
   rw[aP]at hlen;obtain⟨B,hB,h1⟩:=aiV f r aA;exact⟨B++e,hB.app (.one he),by rw[←aQ,←h1];exact hr⟩
  exact⟨[],.nil,by simp⟩
theorem anB{x:List UInt8}(hx:x=[]∨zQ (decodeLastL x).1=false):∀(n:Nat)(B:List UInt8),B.length≤n→Blanks B→∀f,(x++B).length≤f→abR zQ f (x++B)=x
 |n,B,hn,hB,f,hf=>by
  rcases hB.last with rfl|⟨e,he,c,hc,rfl⟩
  ·rw[bP];cases f with
   |zero=>rfl
   |succ f=>
    by_cases h0:x=[]
    ·subst h0;exact abW _ _
    rw[amB _ _ h0,aL (by rw[hx.resolve_left h0];decide)]
  have he1:1≤e.length:=by rcases adF he with rfl|rfl|rfl|rfl<;>simp
  rw[←aQ]at hf ⊢;rw[aP]at hf hn;obtain⟨g,rfl⟩:∃g,f=g+1:=⟨f-1,by omega⟩;obtain⟨m,rfl⟩:∃m,n=m+1:=⟨n-1,by omega⟩;have hne:(x++c)++e≠[]:=by intro q;rw[(List.append_eq_nil_iff.1 q).2]at he1;simp at he1
  rw[amB _ _ hne,aN (avC he _).1,(avC he _).2,aP,gA,fZ];exact anB hx m c aA hc g aA
theorem awY(s:List UInt8):∃B C,Blanks B∧Blanks C∧s=B++aaQ zQ s++C:=by
 unfold aaQ;obtain⟨B,hB,h1,_⟩:=aiW s.length s (aV _);obtain⟨C,hC,h2⟩:=aiV s.length (qU zQ s.length s) (acZ _ _ _)
 grind
theorem arN{C x:List UInt8}(hB:Blanks B)(hC:Blanks C)(hl:x=[]∨zQ (decodeL (x++C)).1=false)(hr:x=[]∨zQ (decodeLastL x).1=false):aaQ zQ (B++x++C)=x:=by
 unfold aaQ;by_cases h0:x=[]
 ·subst h0;rw[bP,bcV (hB.app hC) _ (aV _),abW]
 rw[aQ,ajZ hB (.inr (hl.resolve_left h0)) _ (aV _)];exact anB hr C.length C (aV _) hC _ (by simp only[aP];omega)
def cnU(l:Loc):Nat:=l.second
def alO(l:Loc)(n:Nat):Prop:=3≤n∧(n-3)%cnU l=0
instance (l:Loc) (n:Nat):Decidable (alO l n):=by unfold alO;exact inferInstance
def gRo(l:Loc)(o:Nat):List UInt8→Bool→List UInt8
 | [],_=>[]
 |c::t,b=>(if b=false∧alO l (t.length+1+o)then l.grp else [])++c::gRo l o t false
def gR(l:Loc)(d:List UInt8):List UInt8:=gRo l 0 d true
theorem byJ(l:Loc)(o:Nat):∀(a b:List UInt8)(f:Bool),gRo l o (a++b) f=gRo l (o+b.length) a f++gRo l o b (f&&a.isEmpty)
 | [],b,f=>by simp[gRo]
 |c::t,b,f=>by
  rw[cR,gRo,byJ l o t b false,gRo];have e:(t++b).length+1+o=t.length+1+(o+b.length):=by rw[aP];omega
  rw[e];simp
theorem bbJ(l:Loc)(o:Nat):∀(d:List UInt8)(f:Bool),(∀n,o<n→n≤o+d.length→(f=true→n<o+d.length)→¬alO l n)→gRo l o d f=d
 | [],_,_=>rfl
 |c::t,f,h=>by
  rw[gRo,bbJ l o t false (λn h1 h2 _=>h n h1 (by simp only[aX];omega) (λ_=>by simp only[aX];omega))];rw[aL]
  ·rfl
  rintro⟨hf,hm⟩;exact h _ aA (by simp only[aX];omega) (λq=>by rw[q]at hf;cases hf) hm
def bwN(l:Loc)(i:Nat):Nat:=if i=0 then 0 else if l.second=2 then 3+(i-1)*2 else 3+(i-1)*3
theorem bnA{l:Loc}(hs:l.second=2∨l.second=3)(i n:Nat)(h1:bwN l i<n)(h2:n<bwN l i+abS l i):¬alO l n:=by
 unfold bwN at h1 h2;unfold abS at h2;unfold alO cnU
 grind
theorem ccL{l:Loc}(hs:l.second=2∨l.second=3)(i:Nat):bwN l (i+1)=bwN l i+abS l i∧alO l (bwN l (i+1)):=by
 unfold bwN abS alO cnU
 grind
theorem bfN{l:Loc}(hs:l.second=2∨l.second=3):∀(f i:Nat)(d s:List UInt8),d.length≤f→bbH l f i d s=gRo l (bwN l i) d true++s
 |0,i,d,s,h=>by
  have:d=[]:=cF.1 aA;subst this;rfl
 |f+1,i,d,s,h=>by
  have h2:=akC l i;unfold bbH;split
  ·rename_i hc
   rw[bfN hs f (i+1) _ _ (by rw[aS];omega)];have hl:(d.drop (d.length-abS l i)).length=abS l i:=by rw[bD];omega
   have hn:=ccL hs i
   conv=>rhs;rw[←dB (d.length-abS l i) d]
   rw[byJ,hl,←hn.1];have hem:(d.take (d.length-abS l i)).isEmpty=false:=by
    rw[List.isEmpty_eq_false_iff_exists_mem];refine⟨(d.take (d.length-abS l i))[0]'(by rw[aS];omega),eX _⟩
   rw[hem,Bool.and_false];have hg:gRo l (bwN l i) (d.drop (d.length-abS l i)) false=l.grp++d.drop (d.length-abS l i):=by
    cases hd:d.drop (d.length-abS l i)with
    |nil=>rw[hd]at hl;simp at hl;omega
    |cons c t=>
     rw[hd]at hl;simp only[aX]at hl;rw[gRo,aN ⟨rfl,by rw[show t.length+1+bwN l i=bwN l (i+1) by omega];exact hn.2⟩];rw[bbJ l _ t false (λn h3 h4 _=>bnA hs i n h3 aA)]
   rw[hg];simp only[aQ]
  rename_i hc
  rw[bbJ l _ d true (λn h3 h4 h5=>bnA hs i n h3 (by have:=h5 rfl;omega))]
theorem bjY{l:Loc}(hs:l.second=2∨l.second=3)(d:List UInt8):arB l d=gR l d:=by
 unfold arB gR;rw[bfN hs _ _ _ _ (aV _),bP];rfl
theorem bjT:∀l∈locs,l.second=2∨l.second=3:=by
 intro l hl;simp only[locs,cP,eW,or_false]at hl
 grind
/-! ### chains -/
inductive Ch (l:Loc):List UInt8→List UInt8→Prop
 |nil:Ch l [] []
 |cons {r s d:List UInt8} (hr:Digs r) (hn:r≠[]) (hs:Ch l s d):Ch l (l.grp++r++s) (r++d)
theorem Ch.digs{l:Loc}{s:List UInt8}(h:Ch l s d):Digs d:=by
 induction h with
 |nil=>intro b hb;simp at hb
 |cons hr _ _ ih=>exact Digs.app hr ih
theorem Ch.repl{l:Loc}(hl:l.fine){s:List UInt8}(h:Ch l s d):replaceAll s l.grp []=d∧(s=[]∨∃z,s=l.grp++z):=by
 obtain⟨c,q,hg,hc,_⟩:=hl.grp;induction h with
 |nil=>exact⟨by rw[hg];exact bmI,.inl rfl⟩
 | @cons r s d hr hn hs ih=>
  refine⟨?_,.inr ⟨r++s,by rw[aQ]⟩⟩;rw[hg]at ih ⊢;have:=baD (c:=c) (q:=q) (a:=[]) (z:=r++s) aF;rw[cJ,cJ]at this;rw[aQ,this,bdV (boK hr hc) ih.2,ih.1]
theorem Ch.len{l:Loc}(hl:l.fine){s:List UInt8}(h:Ch l s d):d.length≤s.length∧(s≠[]→d.length<s.length):=by
 obtain⟨c,q,hg,hc,_⟩:=hl.grp;induction h with
 |nil=>exact⟨aV _,λh=>absurd rfl h⟩
 | @cons r s d hr hn hs ih=>
  have:1≤l.grp.length:=by rw[hg];simp
  have e:(l.grp++r++s).length=l.grp.length+r.length+s.length:=by simp only[aP]
  rw[e,aP];exact⟨by omega,λ_=>by omega⟩
theorem bgI{l:Loc}:∀(f i:Nat)(d s e:List UInt8),Digs d→d≠[]→Ch l s e→∃d0 s0 e0,bbH l f i d s=d0++s0∧d0≠[]∧Digs d0∧Ch l s0 e0∧d0++e0=d++e
 |0,_,d,s,e,hd,hn,hs=>⟨d,s,e,rfl,hn,hd,hs,rfl⟩
 |f+1,i,d,s,e,hd,hn,hs=>by
  have h2:=akC l i;unfold bbH;split
  ·rename_i hc
   have ht:Digs (d.take (d.length-abS l i)):=λb hb=>hd b (gF hb);have hp:Digs (d.drop (d.length-abS l i)):=λb hb=>hd b (List.mem_of_mem_drop hb);have hpn:d.drop (d.length-abS l i)≠[]:=by
    intro q;have:=congrArg List.length q;rw[bD]at this;simp at this;omega
   have htn:d.take (d.length-abS l i)≠[]:=by
    intro q;have:=congrArg List.length q;rw[aS]at this;simp at this;omega
   obtain⟨d0,s0,e0,h3,h4,h5,h6,h7⟩:=bgI f (i+1) _ _ _ ht htn (.cons hp hpn hs);exact⟨d0,s0,e0,h3,h4,h5,h6,by rw[h7,←aQ,dB]⟩
  exact⟨d,s,e,rfl,hn,hd,hs,rfl⟩
theorem bjH{l:Loc}(hl:l.fine){w:List UInt8}(h:adW l w=some d):∃d0 s0 d1,w=d0++s0∧d0≠[]∧Digs d0∧Ch l s0 d1∧d=d0++d1:=by
 have hs:=auF h;unfold adW at h;split at h
 ·cases h
 split at h
 ·cases h
 rename_i h1 h2
 injection h with h
 rw[h]at h1 h2;by_cases he:d=w
 ·exact⟨d,[],[],by rw[bP,he],hs.2.2,hs.1,.nil,by simp⟩
 have hg:arB l d=w:=by grind
 obtain⟨d0,s0,e0,h3,h4,h5,h6,h7⟩:=bgI (l:=l) d.length 0 d [] [] hs.1 hs.2.2 .nil;exact⟨d0,s0,e0,by rw[←h3];exact hg.symm,h4,h5,h6,by rw[h7,bP]⟩
theorem amR{l:Loc}(hl:l.fine){s0:List UInt8}(h0:d0≠[])(hd:Digs d0)(hc:Ch l s0 d1):
  adW l (d0++s0)=(if s0≠[]∧arB l (d0++d1)≠d0++s0 then none else some (d0++d1))∧((d0++d1=d0++s0)↔s0=[]):=by
 obtain⟨c,q,hg,hcd,_⟩:=hl.grp;have hr:=hc.repl hl;have hlen:=hc.len hl;have e:replaceAll (d0++s0) l.grp []=d0++d1:=by
  rw[hg]at hr ⊢;rw[bdV (boK hd hcd) hr.2,hr.1]
 have hiff:(d0++d1=d0++s0)↔s0=[]:=by
  constructor
  ·intro h;have h1:=List.append_cancel_left h
   grind
  rintro rfl;have:d1=[]:=cF.1 (by have:=hlen.1;simpa using this);rw[this]
 refine⟨?_,hiff⟩;unfold adW;rw[e,aL]
 ·grind
 rintro(h|h)
 ·simp[h0]at h
 exact asF.1 h (Digs.app hd hc.digs)
/-! ### as the document reads them -/
def apQ(c:UInt8):Bool:=decide (48≤c.toNat)&&decide (c.toNat≤57)
theorem ajG:apQ c=true↔isD c:=by unfold apQ isD;simp
theorem bjX:apQ c=false↔¬isD c:=by rw[←ajG];simp
def aeJ(l:Loc):Nat→List UInt8→Option (List UInt8×Bool)
 |0,_=>some ([],false)
 |f+1,s=>if s=[]then some ([],false)else if apQ (s.getD 0 0)=true then(match aeJ l f (s.drop 1)with|none=>none|some (d,m)=>some (s.getD 0 0::d,m))
  else if hasPrefix s l.grp=true then(match aeJ l f (s.drop l.grp.length)with|none=>none|some (d,_)=>some (d,true))else none
def afK(l:Loc)(s:List UInt8):Option (List UInt8):=
 match aeJ l s.length s with
 |none=>none
 |some (d,m)=>if d=[]∨(m=true∧gR l d≠s)then none else some d
theorem atB{l:Loc}:∀(d s:List UInt8)(f:Nat),Digs d→(d++s).length≤f→aeJ l f (d++s)=(match aeJ l (f-d.length) s with|none=>none|some (e,m)=>some (d++e,m))
 | [],s,f,_,_=>by
  simp only[cJ,bN,gL];cases aeJ l f s<;>rfl
 |c::d,s,f,hd,hf=>by
  obtain⟨g,rfl⟩:∃g,f=g+1:=⟨f-1,by simp only[cR,aX]at hf;omega⟩;have ih:=atB (l:=l) d s g (λb hb=>hd b (by simp[hb])) (by simp only[cR,aX]at hf;omega);rw[cR,aeJ,aL aF,cI,aN (ajG.2 (hd c aF)),fI,cU,ih];have:g+1-(c::d).length=g-d.length:=by simp only[aX];omega
  rw[this];cases aeJ l (g-d.length) s<;>rfl
theorem bpS{l:Loc}(hl:l.fine){s:List UInt8}(h:Ch l s d):∀f,s.length≤f→aeJ l f s=some (d,!decide (s=[])):=by
 obtain⟨c,q,hg,hcd,_⟩:=hl.grp;induction h with
 |nil=>
  intro f _;cases f<;>simp[aeJ]
 | @cons r s d hr hn hs ih=>
  intro f hf;have e:l.grp++r++s=c::(q++(r++s)):=by rw[hg];simp
  have hlen:(l.grp++r++s).length=l.grp.length+(r++s).length:=by simp only[aP];omega
  have hg1:1≤l.grp.length:=by rw[hg];simp
  obtain⟨g,rfl⟩:∃g,f=g+1:=⟨f-1,by omega⟩;have hne:l.grp++r++s≠[]:=by rw[e];simp
  have h0:(l.grp++r++s).getD 0 0=c:=by rw[e];rfl
  have hp:hasPrefix (l.grp++r++s) l.grp=true:=by
   unfold hasPrefix;rw[List.isPrefixOf_iff_prefix,aQ];exact List.prefix_append _ _
  rw[aeJ,aL hne,h0,aL (by rw[bjX.2 hcd];decide),aN hp,aQ,cX,atB r s g hr aA,ih _ (by have h9:(r++s).length=r.length+s.length:=aP;omega)];have:decide (l.grp++(r++s)=[])=false:=bB (by rw[←aQ];exact hne);rw[this];rfl
theorem beQ{l:Loc}(hl:l.fine)(hs:l.second=2∨l.second=3){s0:List UInt8}(h0:d0≠[])(hd:Digs d0)(hc:Ch l s0 d1):afK l (d0++s0)=adW l (d0++s0):=by
 rw[(amR hl h0 hd hc).1];unfold afK;rw[atB d0 s0 _ hd (aV _),bpS hl hc _ (by rw[aP];omega)];simp only;rw[←bjY hs];have hn:¬d0++d1=[]:=by simp[h0]
 grind
/-! ### rows of digits -/
def acC(s:List UInt8):List UInt8:=s.takeWhile apQ
def abI(s:List UInt8):List UInt8:=s.dropWhile apQ
def NoD(s:List UInt8):Prop:=∀c t,s=c::t→¬isD c
theorem acE(s:List UInt8):acC s++abI s=s:=List.takeWhile_append_dropWhile
theorem aiE(s:List UInt8):Digs (acC s):=by
 intro b hb;exact ajG.1 (fM.1 (List.all_takeWhile (p:=apQ) (l:=s)) b hb)
theorem cbW(s:List UInt8):NoD (abI s):=by
 intro c t h;have hn:=List.head?_dropWhile_not (p:=apQ) (l:=s);unfold abI at h;rw[h]at hn;simp only[List.head?_cons]at hn;exact bjX.1 (by simpa using hn)
theorem aiZ:∀{d y:List UInt8},Digs d→NoD y→acC (d++y)=d∧abI (d++y)=y
 | [],y,_,hy=>by
  unfold acC abI;cases y with
  |nil=>exact⟨rfl,rfl⟩
  |cons c t=>
   have:=bjX.2 (hy c t rfl);simp[this]
 |c::d,y,hd,hy=>by
  have ih:=aiZ (d:=d) (y:=y) (λb hb=>hd b (by simp[hb])) hy;have hc:=ajG.2 (hd c aF);unfold acC abI at ih ⊢;simp only[cR,List.takeWhile_cons,eF,hc,if_true];exact⟨by rw[ih.1],ih.2⟩
/-! ### signs -/
def cnY(l:Loc)(g:List UInt8)(b:Bool):Prop:=(g=[]∧b=false)∨(g=[43]∧b=false)∨(g=[45]∧b=true)∨(g=l.minus∧b=true)
def cnS(l:Loc)(s:List UInt8):Prop:=hasPrefix s [43]=false∧hasPrefix s [45]=false∧hasPrefix s l.minus=false
theorem acX(a b:List UInt8):hasPrefix (a++b) a=true:=by
 unfold hasPrefix;rw[List.isPrefixOf_iff_prefix];exact List.prefix_append _ _
theorem adQ{s p:List UInt8}:hasPrefix s p=true↔∃z,s=p++z:=by
 unfold hasPrefix;rw[List.isPrefixOf_iff_prefix];exact⟨λ⟨z,h⟩=>⟨z,h.symm⟩,λ⟨z,h⟩=>⟨z,h.symm⟩⟩
theorem amC{s p:List UInt8}:hasSuffix s p=true↔∃z,s=z++p:=by
 unfold hasSuffix;rw[List.isSuffixOf_iff_suffix];exact⟨λ⟨z,h⟩=>⟨z,h.symm⟩,λ⟨z,h⟩=>⟨z,h.symm⟩⟩
theorem adZ(a b:List UInt8):trimPrefix (a++b) a=b:=by
 unfold trimPrefix;rw[aN (acX a b),cX]
theorem akU(a b:List UInt8):trimSuffix (a++b) b=a:=by
 unfold trimSuffix;rw[aN (amC.2 ⟨a,rfl⟩),aP,gA,fZ]
theorem apA{l:Loc}(hl:l.fine){g:List UInt8}{b:Bool}(hg:cnY l g b){x:List UInt8}(hx:g=[]→cnS l x):yE l (g++x)=(x,b):=by
 obtain⟨c,r,hm,hc,hc2,hc3,hc4,_⟩:=hl.minus;unfold yE;rcases hg with⟨rfl,rfl⟩|⟨rfl,rfl⟩|⟨rfl,rfl⟩|⟨rfl,rfl⟩
 ·have h:=hx rfl;rw[cJ,h.1,h.2.1,h.2.2];rfl
 ·rw[aN (acX _ _),adZ]
 ·rw[aL (by rw[zZ aF];decide),aN (acX _ _),adZ]
 rw[aL (by rw[hm,zZ (by simpa using hc2)];decide)];by_cases h45:c=45
 ·have hm2:l.minus=[45]:=by grind
  rw[hm2,aN (acX _ _),adZ]
 rw[aL (by rw[hm,zZ (by simpa using h45)];decide),aN (acX _ _),adZ]
theorem aiD(l:Loc)(s:List UInt8):∃g,cnY l g (yE l s).2∧s=g++(yE l s).1:=by
 unfold yE;split
 ·rename_i h
  obtain⟨z,rfl⟩:=adQ.1 h;exact⟨[43],.inr (.inl ⟨rfl,rfl⟩),by rw[adZ]⟩
 split
 ·rename_i h
  obtain⟨z,rfl⟩:=adQ.1 h;exact⟨[45],.inr (.inr (.inl ⟨rfl,rfl⟩)),by rw[adZ]⟩
 split
 ·rename_i h
  obtain⟨z,rfl⟩:=adQ.1 h;exact⟨l.minus,.inr (.inr (.inr ⟨rfl,rfl⟩)),by rw[adZ]⟩
 exact⟨[],.inl ⟨rfl,rfl⟩,rfl⟩
theorem bgO{l:Loc}(hl:l.fine)(h1:c≠43)(h2:c≠45)(h3:∀d r,l.minus=d::r→c≠d):cnS l (c::t):=by
 obtain⟨d,r,hm,_⟩:=hl.minus;exact⟨zZ (by simpa using h1),zZ (by simpa using h2),by rw[hm];exact zZ (by simpa using h3 d r hm)⟩
theorem azB{l:Loc}(hl:l.fine)(hc:isD c):cnS l (c::t):=by
 obtain⟨d,r,hm,hd,_⟩:=hl.minus;exact bgO hl (by rintro rfl;exact absurd hc (notD aC)) (by rintro rfl;exact absurd hc (notD aC)) (λd2 r2 h2=>by rw[hm]at h2;injection h2 with h2 _;subst h2;rintro rfl;exact hd hc)
theorem cbD{l:Loc}(hl:l.fine){s:List UInt8}(hn:(yE l s).1≠[])(hd:Digs (yE l s).1)(z:List UInt8):yE l (s++z)=((yE l s).1++z,(yE l s).2):=by
 obtain⟨g,hg,hs⟩:=aiD l s;have e:s++z=g++((yE l s).1++z):=by grind
 rw[e];refine apA hl hg λ_=>?_;cases hp:(yE l s).1 with
 |nil=>exact absurd hp hn
 |cons c t=>exact azB hl (hd c (by rw[hp];simp))
/-! ### whole digits -/
def ahW(l:Loc)(t s:List UInt8):Bool:=(!t.isEmpty&&hasPrefix s l.grp)&&(decide (l.grp.length<s.length)&&apQ (s.getD l.grp.length 0))
def acT(l:Loc):Nat→List UInt8→List UInt8→List UInt8→Bool→List UInt8×List UInt8×List UInt8×Bool
 |0,a,t,s,g=>(a,t,s,g)
 |f+1,a,t,s,g=>if ahW l t s=true then acT l f (a++acC (s.drop l.grp.length)) (t++l.grp++acC (s.drop l.grp.length)) (abI (s.drop l.grp.length)) true else(a,t,s,g)
def cfH(l:Loc)(y:List UInt8):Prop:=NoD y∧¬(hasPrefix y l.grp=true∧isD (y.getD l.grp.length 0))
theorem axD{l:Loc}(h:cfH l y):ahW l t y=false:=by
 unfold ahW;rw[Bool.eq_false_iff];intro q;simp only[bL]at q;exact h.2 ⟨q.1.2,ajG.1 q.2.2⟩
theorem abP{l:Loc}(h:ahW l t y=false)(f:Nat)(a:List UInt8)(g:Bool):acT l f a t y g=(a,t,y,g):=by
 cases f with
 |zero=>rfl
 |succ f=>rw[acT,aL (by rw[h];decide)]
theorem bzM{l:Loc}(hl:l.fine){s:List UInt8}(h:Ch l s d)(hy:NoD y):NoD (s++y):=by
 obtain⟨c,q,hg,hc,_⟩:=hl.grp;cases h with
 |nil=>exact hy
 |cons hr hn hs=>
  intro b t hb;rw[hg]at hb;simp only[cR]at hb;injection hb with hb _
  subst hb;exact hc
theorem bcT{l:Loc}(hl:l.fine){s:List UInt8}(h:Ch l s d)(hy:cfH l y):∀(f:Nat)(a t:List UInt8)(g:Bool),t≠[]→s.length≤f→acT l f a t (s++y) g=(a++d,t++s,y,g|| !decide (s=[])):=by
 obtain⟨c,q,hg,hc,_⟩:=hl.grp;induction h with
 |nil=>
  intro f a t g ht _;rw[cJ,abP (axD hy)];simp
 | @cons r s d hr hn hs ih=>
  intro f a t g ht hf;have hg1:1≤l.grp.length:=by rw[hg];simp
  have e:(l.grp++r++s).length=l.grp.length+(r.length+s.length):=by simp only[aP];omega
  obtain⟨f,rfl⟩:∃k,f=k+1:=⟨f-1,by omega⟩;have hr1:1≤r.length:=bS.2 hn;have e2:l.grp++r++s++y=l.grp++(r++(s++y)):=by simp only[aQ]
  have hm:ahW l t (l.grp++r++s++y)=true:=by
   unfold ahW;rw[e2,acX];have h1:(l.grp++(r++(s++y))).getD l.grp.length 0=r.getD 0 0:=by
    grind
   have h2:isD (r.getD 0 0):=by
    cases hr0:r with
    |nil=>exact absurd hr0 hn
    |cons x z=>rw[hr0]at hr;exact hr x aF
   rw[h1,ajG.2 h2]
   grind
  rw[acT,aN hm,e2,cX,(aiZ hr (bzM hl hs hy.1)).1,(aiZ hr (bzM hl hs hy.1)).2,ih _ _ _ _ (by simp[ht]) aA];have h5:decide (l.grp++r++s=[])=false:=bB (by rw[hg];simp);rw[h5];simp only[aQ,Bool.true_or,Bool.not_false,Bool.or_true]
theorem aqG{l:Loc}(hl:l.fine):∀(f:Nat)(a t s:List UInt8)(g:Bool),∃s0 d y,Ch l s0 d∧s=s0++y∧acT l f a t s g=(a++d,t++s0,y,g|| !decide (s0=[]))
 |0,a,t,s,g=>⟨[],[],s,.nil,rfl,by simp[acT]⟩
 |f+1,a,t,s,g=>by
  obtain⟨c,q,hg,hc,_⟩:=hl.grp;cases hm:ahW l t s with
  |false=>exact⟨[],[],s,.nil,rfl,by rw[abP hm];simp⟩
  |true=>
   rw[acT,aN hm];unfold ahW at hm;simp only[bL]at hm;obtain⟨x,rfl⟩:=adQ.1 hm.1.2;rw[cX];have hrn:acC x≠[]:=by
    have h1:(l.grp++x).getD l.grp.length 0=x.getD 0 0:=by
     cases x with
     |nil=>simp[List.getD]
     |cons b z=>simp[List.getD,dW]
    rw[h1]at hm;intro h0;have h2:=acE x;rw[h0,cJ]at h2;cases x with
    |nil=>exact absurd hm.2.2 aC
    |cons b z=>exact cbW (b::z) b z h2 (ajG.1 hm.2.2)
   obtain⟨s0,d,y,h1,h2,h3⟩:=aqG hl f (a++acC x) (t++l.grp++acC x) (abI x) true;refine⟨l.grp++acC x++s0,acC x++d,y,.cons (aiE x) hrn h1,?_,?_⟩
   ·rw[aQ,aQ,←h2,acE]
   rw[h3];have h5:decide (l.grp++acC x++s0=[])=false:=bB (by rw[hg];simp);rw[h5];simp only[aQ,Bool.true_or,Bool.not_false,Bool.or_true]
/-! ### numbers, as the document reads them -/
def wR(l:Loc)(s:List UInt8):List UInt8×List UInt8×List UInt8×Bool:=acT l s.length (acC s) (acC s) (abI s) false
def pR(l:Loc)(s:List UInt8):List UInt8×List UInt8:=if hasPrefix s l.dc=true then(acC (s.drop l.dc.length),abI (s.drop l.dc.length))else([],s)
def aoY(l:Loc)(s:List UInt8):Option (Int×Bool×List UInt8):=
 if s=[]∨(s.getD 0 0≠101∧s.getD 0 0≠69)then some (0,false,s)
 else if acC (yE l (s.drop 1)).1=[]∨9<(acC (yE l (s.drop 1)).1).length then none
 else some (if(yE l (s.drop 1)).2=true then-(num (acC (yE l (s.drop 1)).1):Int)else(num (acC (yE l (s.drop 1)).1):Int),true,abI (yE l (s.drop 1)).1)
def aoQ(l:Loc)(s:List UInt8):Option (List UInt8×Int×Nat×Bool×Bool×List UInt8):=
 if(wR l s).2.1≠[]∧afK l (wR l s).2.1=none then none
 else if(wR l s).1=[]∧(pR l (wR l s).2.2.1).1=[]then none
 else match aoY l (pR l (wR l s).2.2.1).2 with
  |none=>none
  |some (n,x,z)=>some ((wR l s).1++(pR l (wR l s).2.2.1).1,n-((pR l (wR l s).2.2.1).1.length:Int),(pR l (wR l s).2.2.1).1.length,(wR l s).2.2.2,x,z)
/-! ### what a number is -/
def cfI(l:Loc)(E:List UInt8)(n:Int)(x:Bool):Prop:=(E=[]∧n=0∧x=false)∨(∃c S,E=c::S∧(c=69∨c=101)∧bfZ l S=some n∧x=true)
def bgS(l:Loc)(t d:List UInt8)(e:Int)(k:Nat)(gr x:Bool):Prop:=
 ∃(W R E:List UInt8)(p:Bool)(dd:List UInt8)(n:Int),t=W++((if p=true then l.dc++R else [])++E)∧(p=false→R=[])∧acU l W=some (dd,gr)∧Digs R∧¬(dd=[]∧R=[])∧cfI l E n x∧d=dd++R∧k=R.length∧e=n-(R.length:Int)
structure CleanZ (l:Loc) (z:List UInt8):Prop where
 noD:∀b∈z,¬isD b
 head:∀c t,z=c::t→c≠69∧c≠101∧l.dc≠[c]
theorem CleanZ.no{l:Loc}(h:CleanZ l z):NoD z:=λc t e=>h.noD c (by rw[e];simp)
theorem boB{l:Loc}{S:List UInt8}{n:Int}(h:bfZ l S=some n):(yE l S).1≠[]∧Digs (yE l S).1∧(yE l S).1.length≤9∧n=(if(yE l S).2=true then-(num (yE l S).1:Int)else(num (yE l S).1:Int)):=by
 unfold bfZ at h;split at h
 ·rename_i hc
  injection h with h
  exact⟨hc.1,aeX.1 hc.2.1,hc.2.2,h.symm⟩
 cases h
theorem chR{l:Loc}(hl:l.fine){E:List UInt8}{n:Int}(h:cfI l E n x)(hz:CleanZ l Z):aoY l (E++Z)=some (n,x,Z):=by
 rcases h with⟨rfl,rfl,rfl⟩|⟨c,S,rfl,hc,he,rfl⟩
 ·unfold aoY;rw[cJ,aN];cases Z with
  |nil=>exact .inl rfl
  |cons b t=>have:=hz.head b t rfl;exact .inr ⟨this.2.1,this.1⟩
 obtain⟨h1,h2,h3,h4⟩:=boB he;have hs:=cbD hl h1 h2 Z;have hr:=aiZ h2 hz.no;unfold aoY
 grind
theorem bpK{l:Loc}(hl:l.fine){s:List UInt8}{n:Int}(h:aoY l s=some (n,x,Z)):∃E,s=E++Z∧cfI l E n x:=by
 unfold aoY at h;split at h
 ·injection h with h
  injection h with h1 h2
  injection h2 with h2 h3
  exact⟨[],h3,.inl ⟨rfl,h1.symm,h2.symm⟩⟩
 rename_i hc
 split at h
 ·cases h
 rename_i hr
 injection h with h
 injection h with h1 h2
 injection h2 with h2 h3
 cases s with
 |nil=>exact absurd (.inl rfl) hc
 |cons c S1=>
  rw[fI,cU]at *;obtain⟨g,hg,hs⟩:=aiD l S1;have hrr:=acE (yE l S1).1;have hd:=aiE (yE l S1).1;have hn:acC (yE l S1).1≠[]:=λq=>hr (.inl q);have hsg:yE l (g++acC (yE l S1).1)=(acC (yE l S1).1,(yE l S1).2):=by
   refine apA hl hg λ_=>?_;cases hp:acC (yE l S1).1 with
   |nil=>exact absurd hp hn
   |cons b t=>exact azB hl (hd b (by rw[hp];simp))
  refine⟨c::(g++acC (yE l S1).1),?_,.inr ⟨c,_,rfl,?_,?_,h2.symm⟩⟩
  ·rw[←h3,cR,aQ,hrr,←hs]
  ·rw[cI]at hc;by_cases q:c=69
   ·exact .inl q
   exact .inr (Decidable.by_contra λq2=>hc (.inr ⟨q2,q⟩))
  unfold bfZ;rw[hsg];simp only;rw[aN ⟨hn,aeX.2 hd,Nat.le_of_not_lt λq=>hr (.inr q)⟩,h1]
theorem adS{l:Loc}(hl:l.fine)(h:acU l W=some (dd,gr)):(W=[]∧dd=[]∧gr=false)∨∃d0 s0 d1,W=d0++s0∧d0≠[]∧Digs d0∧Ch l s0 d1∧dd=d0++d1∧gr= !decide (s0=[])∧adW l W=some dd:=by
 unfold acU at h;split at h
 ·grind
 cases hp:adW l W with
 |none=>rw[hp]at h;cases h
 |some q=>
  rw[hp]at h;injection h with h
  injection h with h1 h2
  subst h1;obtain⟨d0,s0,d1,rfl,h3,h4,h5,h6⟩:=bjH hl hp;refine .inr ⟨d0,s0,d1,rfl,h3,h4,h5,h6,?_,rfl⟩;have:=(amR hl h3 h4 h5).2;rw[←h2,h6];congr 1;exact aT.2 this
theorem caO{l:Loc}(hl:l.fine){s0:List UInt8}(h0:d0≠[])(hd:Digs d0)(hc:Ch l s0 d1)(hp:adW l (d0++s0)≠none):acU l (d0++s0)=some (d0++d1,!decide (s0=[])):=by
 have h:=amR hl h0 hd hc;have hp2:adW l (d0++s0)=some (d0++d1):=by
  grind
 unfold acU;rw[aL (by simp[h0]),hp2]
 grind
theorem cnZ{l:Loc}(hl:l.fine){Y:List UInt8}(h:acU l W=some (dd,gr))(hy:cfH l Y):wR l (W++Y)=(dd,W,Y,gr):=by
 unfold wR;rcases adS hl h with⟨rfl,rfl,rfl⟩|⟨d0,s0,d1,rfl,h0,hd,hc,rfl,rfl,_⟩
 ·have hr:=aiZ (d:=[]) (λb hb=>by simp at hb) hy.1;rw[hr.1,hr.2];exact abP (axD hy) _ _ _
 have hr:=aiZ hd (bzM hl hc hy.1);rw[aQ,hr.1,hr.2,bcT hl hc hy _ _ _ _ h0 (by simp only[aP];omega),Bool.false_or]
theorem caP{l:Loc}(hl:l.fine)(hs:l.second=2∨l.second=3)(s:List UInt8)(h:¬((wR l s).2.1≠[]∧afK l (wR l s).2.1=none)):s=(wR l s).2.1++(wR l s).2.2.1∧acU l (wR l s).2.1=some ((wR l s).1,(wR l s).2.2.2):=by
 have hr:=acE s;unfold wR at h ⊢;by_cases h0:acC s=[]
 ·have hm:ahW l (acC s) (abI s)=false:=by unfold ahW;rw[h0];rfl
  rw[abP hm]at h ⊢;simp only;refine⟨hr.symm,?_⟩;rw[h0];rfl
 obtain⟨s0,d,y,h1,h2,h3⟩:=aqG hl s.length (acC s) (acC s) (abI s) false;rw[h3]at h ⊢;simp only at h ⊢;refine⟨by rw[aQ,←h2,hr],?_⟩;rw[Bool.false_or];refine caO hl h0 (aiE s) h1 λq=>h ⟨by simp[h0],?_⟩;rw[beQ hl hs h0 (aiE s) h1,q]
theorem bxB{l:Loc}(hl:l.fine)(h:acU l W=some (dd,gr)):∀b∈W,isD b∨b∈l.grp:=by
 have hch:∀{s d:List UInt8},Ch l s d→∀b∈s,isD b∨b∈l.grp:=by
  intro s d hc;induction hc with
  |nil=>intro b hb;simp at hb
  |cons hr _ _ ih=>
   intro b hb;rcases dP.1 hb with hb|hb
   ·rcases dP.1 hb with hb|hb
    ·exact .inr hb
    exact .inl (hr b hb)
   exact ih b hb
 rcases adS hl h with⟨rfl,_,_⟩|⟨d0,s0,d1,rfl,_,hd,hc,_,_,_⟩
 ·grind
 intro b hb;rcases dP.1 hb with hb|hb
 ·exact .inl (hd b hb)
 grind
theorem ciX{l:Loc}(hl:l.fine)(hs:l.second=2∨l.second=3)(hgo:l.grpOk){e:Int}(h:bgS l t d e k gr x)(hz:CleanZ l Z):aoQ l (t++Z)=some (d,e,k,gr,x,Z):=by
 obtain⟨W,R,E,p,dd,n,rfl,hp,hw,hR,hne,hE,rfl,rfl,rfl⟩:=h;obtain⟨c,hdc,hcd,hc69,hc101⟩:=hl.dc;obtain⟨g0,gq,hg,hg0,hgd⟩:=hl.grp;have hEZ:NoD (E++Z):=by
  rcases hE with⟨rfl,_,_⟩|⟨b,S,rfl,hb,_,_⟩
  ·exact hz.no
  intro b2 t2 h2;injection h2 with h2 _
  subst h2;rcases hb with rfl|rfl<;>exact notD aC
 have hEZp:hasPrefix (E++Z) l.dc=false:=by
  rw[hdc];refine zZ ?_;rcases hE with⟨rfl,_,_⟩|⟨b,S,rfl,hb,_,_⟩
  ·cases Z with
   |nil=>simp
   |cons b t=>
    have:=(hz.head b t rfl).2.2;rw[hdc]at this;intro q;simp at q;exact this (by rw[q])
  grind
 have hst:cfH l ((if p=true then l.dc++R else [])++(E++Z)):=by
  cases p with
  |true=>
   rw[aN rfl,hdc];refine⟨λb t h=>?_,λq=>?_⟩
   ·injection h with h _;subst h;exact hcd
   rw[hg,zZ (by simpa using(hgd c hdc).symm)]at q;cases q.1
  |false=>
   rw[aL aC,cJ];refine⟨hEZ,λq=>?_⟩;rcases hE with⟨rfl,_,_⟩|⟨b,S,rfl,hb,_,_⟩
   ·rw[cJ]at q;have hq:=q.2;by_cases hlt:l.grp.length<Z.length
    ·refine hz.noD _ ?_ hq;rw[List.getD,bG hlt,eN];exact eX _
    rw[List.getD,List.getElem?_eq_none aA]at hq;exact absurd hq (notD aC)
   have:=hgo g0 (by rw[hg];simp);rw[hg,zZ]at q
   ·cases q.1
   rw[cR,List.head?_cons];intro q2;injection q2 with q2
   rcases hb with rfl|rfl
   ·exact this.1 q2.symm
   exact this.2.1 q2.symm
 have e1:W++((if p=true then l.dc++R else [])++E)++Z=W++((if p=true then l.dc++R else [])++(E++Z)):=by grind
 have hpl:¬(W≠[]∧afK l W=none):=by
  rintro⟨h1,h2⟩;rcases adS hl hw with⟨h3,_,_⟩|⟨d0,s0,d1,rfl,h0,hd,hc,_,_,hpp⟩
  ·exact h1 h3
  rw[beQ hl hs h0 hd hc,hpp]at h2;cases h2
 have hpR:pR l ((if p=true then l.dc++R else [])++(E++Z))=(R,E++Z):=by
  unfold pR;cases p with
  |true=>
   have hr:=aiZ hR hEZ;simp only[if_true];rw[aQ,aN (acX _ _),cX,hr.1,hr.2]
  |false=>
   simp only[eT,if_false,cJ];rw[aL (by rw[hEZp];decide),hp rfl]
 unfold aoQ;rw[e1,cnZ hl hw hst];simp only;rw[aL hpl,hpR];simp only;rw[aL hne,chR hl hE hz]
theorem baX{l:Loc}(hl:l.fine)(hs:l.second=2∨l.second=3){T:List UInt8}{e:Int}(h:aoQ l T=some (d,e,k,gr,x,Z)):∃t,T=t++Z∧bgS l t d e k gr x:=by
 unfold aoQ at h;split at h
 ·cases h
 rename_i h1
 obtain⟨hT,hw⟩:=caP hl hs T h1;split at h
 ·cases h
 rename_i h2
 cases ht:aoY l (pR l (wR l T).2.2.1).2 with
 |none=>rw[ht]at h;cases h
 |some q=>
  obtain⟨n,y,z⟩:=q;rw[ht]at h;injection h with h
  injection h with h3 h4
  injection h4 with h4 h5
  injection h5 with h5 h6
  injection h6 with h6 h7
  injection h7 with h7 h8
  subst h7;subst h8;obtain⟨E,hE,hEO⟩:=bpK hl ht;have hpp:∃p:Bool,(wR l T).2.2.1=(if p=true then l.dc++(pR l (wR l T).2.2.1).1 else [])++(pR l (wR l T).2.2.1).2∧(p=false→(pR l (wR l T).2.2.1).1=[])∧Digs (pR l (wR l T).2.2.1).1:=by
   unfold pR;split
   ·rename_i hp
    obtain⟨z2,hz2⟩:=adQ.1 hp;refine⟨true,?_,(λq=>by cases q),aiE _⟩;simp only[if_true];rw[hz2,cX,aQ,acE]
   exact⟨false,rfl,λ_=>rfl,λb hb=>by simp at hb⟩
  obtain⟨p,hp1,hp2,hp3⟩:=hpp;refine⟨(wR l T).2.1++((if p=true then l.dc++(pR l (wR l T).2.2.1).1 else [])++E),?_,(wR l T).2.1,_,E,p,_,n,rfl,hp2,by rw[hw,h6],hp3,h2,hEO,h3.symm,h5.symm,h4.symm⟩;rw[aQ,aQ,←hE,←hp1,←hT]
theorem bvS{d:UInt8}{a:List UInt8}(ha:c∉a)(hcd:c≠d):replaceAll (a++([c]++z)) [c] [d]=a++([d]++replaceAll z [c] [d]):=by
 have he:∀s,replaceAll s [c] [d]=replaceK [c] [d] (count s [c]) s:=by
  intro s;unfold replaceAll replace;rw[aL (by simpa using hcd)];unfold replaceNum
  grind
 have hi:=asC (c:=c) (r:=[]) (z:=z) ha;rw[aQ]at hi;have hd:(a++([c]++z)).drop (a.length+[c].length)=z:=by grind
 have ht:(a++([c]++z)).take a.length=a:=by grind
 rw[he,he];have hc:count (a++([c]++z)) [c]=count z [c]+1:=by
  unfold count;rw[countFrom,aL (by rw[hi,beq_iff_eq];omega),hi,dL,hd,dS 1];congr 1;exact countFrom_fuel aF _ z (by simp only[aP,aX];omega) _ aA
 rw[hc,replaceK_hit _ _ _ _ _ hi,ht,hd,aQ]
theorem bfF{c:UInt8}:∀{s:List UInt8},c∈s→∃a z,s=a++([c]++z)∧c∉a
 |b::t,h=>by
  by_cases hb:c=b
  ·subst hb;exact⟨[],t,rfl,by simp⟩
  obtain⟨a,z,h1,h2⟩:=bfF (s:=t) ((cP.1 h).resolve_left hb);exact⟨b::a,z,by rw[h1];rfl,by simp[hb,h2]⟩
theorem bmJ{c d:UInt8}(hcd:c≠d):∀(n:Nat)(s:List UInt8),s.length≤n→replaceAll s [c] [d]=s.map λb=>if b=c then d else b
 |n,s,hn=>by
  by_cases h:c∈s
  ·obtain⟨a,z,rfl,ha⟩:=bfF h;have hl:a.length+(1+z.length)≤n:=by simp only[aP,aX,bN]at hn;omega
   obtain⟨m,rfl⟩:∃m,n=m+1:=⟨n-1,by omega⟩;rw[bvS ha hcd,bmJ hcd m z aA,fU,fU];have e:(a.map λb=>if b=c then d else b)=a:=by
    rw[List.map_congr_left (g:=id) λb hb=>by rw[aL (λq=>ha (by rw[←q];exact hb))];rfl,List.map_id]
   rw[e];simp
  rw[atN (asB h),List.map_congr_left (g:=id) λb hb=>by rw[aL (λq=>h (by rw[←q];exact hb))];rfl,List.map_id]
def cnX(b:UInt8):UInt8:=if b=69 then 101 else b
theorem boF(b:UInt8):cnX b=101↔(b=69∨b=101):=by
 unfold cnX
 grind
theorem bnU{c:UInt8}:∀{s:List UInt8},c∉s→indexByte s c= -1
 | [],_=>rfl
 |b::t,h=>by
  have h1:¬(b==c)=true:=by intro q;exact h (by rw[beq_iff_eq.1 q];simp)
  rw[indexByte,aL h1,bnU (λq=>h (by simp[q]))];rfl
theorem cgQ{c:UInt8}{z:List UInt8}:∀{a:List UInt8},c∉a→indexByte (a++c::z) c=(a.length:Int)
 | [],_=>by simp[indexByte]
 |b::t,h=>by
  have h1:¬(b==c)=true:=by intro q;exact h (by rw[beq_iff_eq.1 q];simp)
  have ih:=cgQ (c:=c) (z:=z) (a:=t) (λq=>h (by simp[q]));rw[cR,indexByte,aL h1,ih,aL (by rw[beq_iff_eq];omega),aX];omega
theorem byV(s:List UInt8):eAt s=indexByte (s.map cnX) 101:=by
 unfold eAt;rw[bmJ aC s.length s (aV _)];rfl
def NoE(s:List UInt8):Prop:=∀b∈s,b≠69∧b≠101
theorem bwV{s:List UInt8}(h:NoE s):(101:UInt8)∉s.map cnX:=by
 intro q;obtain⟨b,hb,hq⟩:=List.mem_map.1 q;rcases(boF b).1 hq with h1|h1
 ·exact(h b hb).1 h1
 exact(h b hb).2 h1
theorem cgV{s:List UInt8}(h:NoE s):eAt s= -1:=by rw[byV,bnU (bwV h)]
theorem cgW{m:List UInt8}(h:NoE m)(hc:c=69∨c=101):eAt (m++c::z)=(m.length:Int):=by
 rw[byV,fU,fA,(boF c).2 hc,cgQ (bwV h),eS]
theorem byU(s:List UInt8)(h:0≤eAt s):∃m c z,s=m++c::z∧NoE m∧(c=69∨c=101):=by
 refine Classical.byContradiction λq=>?_;have hn:NoE s:=by
  intro b hb;refine Decidable.by_contra λq2=>?_;have key:∀(s:List UInt8)(b:UInt8),b∈s→(b=69∨b=101)→∃m c z,s=m++c::z∧NoE m∧(c=69∨c=101):=by
   intro s;induction s with
   |nil=>intro b hb;simp at hb
   |cons a t ih=>
    intro b hb h2;by_cases ha:a=69∨a=101
    ·exact⟨[],a,t,rfl,λ_ hb=>by simp at hb,ha⟩
    rcases cP.1 hb with rfl|hb
    ·exact absurd h2 ha
    obtain⟨m,c,z,h3,h4,h5⟩:=ih b hb h2;refine⟨a::m,c,z,by rw[h3];rfl,λb2 hb2=>?_,h5⟩;rcases cP.1 hb2 with rfl|hb2
    ·exact⟨λq=>ha (.inl q),λq=>ha (.inr q)⟩
    exact h4 b2 hb2
  grind
 rw[cgV hn]at h;omega
theorem bwR{l:Loc}(hl:l.fine){e:Int}(h:arJ l t=some (d,e,k,gr,x)):bgS l t d e k gr x:=by
 unfold arJ at h;cases hh:alP l t with
 |none=>rw[hh]at h;cases h
 |some q=>
  obtain⟨t1,n,y⟩:=q;rw[hh]at h;simp only at h;cases hb:aoM l t1 with
  |none=>rw[hb]at h;cases h
  |some q=>
   obtain⟨d2,k2,g2⟩:=q;rw[hb]at h;injection h with h
   injection h with h1 h2
   injection h2 with h2 h3
   injection h3 with h3 h4
   injection h4 with h4 h5
   subst h1;subst h3;subst h4;subst h5;have hE:∃E,t=t1++E∧cfI l E n y:=by
    unfold alP at hh;split at hh
    ·rename_i h0
     obtain⟨m,c,z,rfl,hm,hc⟩:=byU t h0;have he:=cgW (z:=z) hm hc;rw[he,dL]at hh;have hdr:(m++c::z).drop (m.length+1)=z:=by rw[show m++c::z=(m++[c])++z by simp,show m.length+1=(m++[c]).length by simp];exact cX
     rw[hdr,fZ]at hh;cases hx:bfZ l z with
     |none=>rw[hx]at hh;cases hh
     |some n2=>
      rw[hx]at hh;injection hh with hh
      injection hh with h6 h7
      injection h7 with h7 h8
      subst h6;subst h7;exact⟨c::z,rfl,.inr ⟨c,z,rfl,hc,hx,h8.symm⟩⟩
    injection hh with hh
    injection hh with h6 h7
    injection h7 with h7 h8
    exact⟨[],by rw[h6,bP],.inl ⟨rfl,h7.symm,h8.symm⟩⟩
   obtain⟨E,hE1,hE2⟩:=hE;unfold aoM at hb;split at hb
   ·cases hb
   rename_i hbad
   have hbad2:ceW (cut t1 l.dc).1 (cut t1 l.dc).2.1=false:=by simpa using hbad
   cases hw:acU l (cut t1 l.dc).1 with
   |none=>rw[hw]at hb;cases hb
   |some q=>
    obtain⟨dd,g3⟩:=q;rw[hw]at hb;injection hb with hb
    injection hb with h6 h7
    injection h7 with h7 h8
    subst h6;subst h7;subst h8;have hp:∃p:Bool,t1=(cut t1 l.dc).1++(if p=true then l.dc++(cut t1 l.dc).2.1 else [])∧(p=false→(cut t1 l.dc).2.1=[]):=by
     unfold cut;split
     ·rename_i h0
      rcases index_spec t1 l.dc with⟨h9,_⟩|⟨i,h9,h10,h11,_⟩
      ·omega
      refine⟨true,?_,λq=>by cases q⟩;simp only[if_true];rw[h9,dL];have h12:l.dc<+:t1.drop i:=by
       unfold occAt at h11
       grind
      obtain⟨z,hz⟩:=h12;have:t1.drop (i+l.dc.length)=z:=by rw[←fY,←hz,cX]
      rw[this,hz,dB]
     exact⟨false,by simp,λ_=>rfl⟩
    obtain⟨p,hp1,hp2⟩:=hp;refine⟨(cut t1 l.dc).1,(cut t1 l.dc).2.1,E,p,dd,n,?_,hp2,hw,azC hbad2,?_,hE2,rfl,rfl,h2.symm⟩
    ·rw[←aQ,←hp1,hE1]
    rintro⟨q1,q2⟩;rcases adS hl hw with⟨h9,_,_⟩|⟨d0,s0,d1,_,h0,_,_,h10,_,_⟩
    ·unfold ceW at hbad2;rw[h9,q2]at hbad2;simp at hbad2
    rw[q1]at h10;have:=congrArg List.length h10;simp only[aP,bN]at this;exact h0 (cF.1 aA)
theorem bnC{l:Loc}(hl:l.fine)(hgo:l.grpOk){e:Int}(h:bgS l t d e k gr x):arJ l t=some (d,e,k,gr,x):=by
 obtain⟨W,R,E,p,dd,n,rfl,hp,hw,hR,hne,hE,rfl,rfl,rfl⟩:=h;obtain⟨c,hdc,hcd,hc69,hc101⟩:=hl.dc;have hW:=bxB hl hw;have hWE:NoE W:=by
  intro b hb;rcases hW b hb with h1|h1
  ·exact⟨by rintro rfl;exact absurd h1 (notD aC),by rintro rfl;exact absurd h1 (notD aC)⟩
  exact⟨(hgo b h1).1,(hgo b h1).2.1⟩
 have hRE:NoE R:=λb hb=>⟨by rintro rfl;exact absurd (hR _ hb) (notD aC),by rintro rfl;exact absurd (hR _ hb) (notD aC)⟩;have hM:NoE (W++(if p=true then l.dc++R else [])):=by
  intro b hb;rcases dP.1 hb with hb|hb
  ·exact hWE b hb
  cases p with
  |false=>rw[aL aC]at hb;simp at hb
  |true=>
   rw[aN rfl,hdc]at hb;rcases dP.1 hb with hb|hb
   ·have:b=c:=by simpa using hb
    rw[this];exact⟨hc69,hc101⟩
   exact hRE b hb
 have hbody:aoM l (W++(if p=true then l.dc++R else []))=some (dd++R,R.length,gr):=by
  have hcW:c∉W:=by
   intro hb;rcases hW c hb with h1|h1
   ·exact hcd h1
   exact(hgo c h1).2.2 hdc
  have hcut:cut (W++(if p=true then l.dc++R else [])) l.dc=(W,R,p):=by
   cases p with
   |true=>rw[aN rfl,hdc,←aQ,ceJ hcW]
   |false=>rw[aL aC,bP,hdc,ceK hcW,hp rfl]
  have hbad:ceW W R=false:=by
   unfold ceW;rw[cC];refine⟨?_,?_⟩
   ·rw[bX];by_cases h1:W=[]
    ·right
     refine bB λh2=>?_;rcases adS hl hw with⟨_,h3,_⟩|⟨d0,s0,d1,h3,h0,_,_,_,_,_⟩
     ·grind
     rw[h1]at h3;have:=congrArg List.length h3;simp only[aP,bN]at this;exact h0 (cF.1 aA)
    grind
   exact bB λq=>q (byY hR)
  unfold aoM
  grind
 have hhead:alP l (W++((if p=true then l.dc++R else [])++E))=some (W++(if p=true then l.dc++R else []),n,x):=by
  rw[←aQ];unfold alP;rcases hE with⟨rfl,rfl,rfl⟩|⟨b,S,rfl,hb,he,rfl⟩
  ·rw[bP,cgV hM,aL aC]
  have hdr:((W++(if p=true then l.dc++R else []))++b::S).drop ((W++(if p=true then l.dc++R else [])).length+1)=S:=by
   rw[show(W++(if p=true then l.dc++R else []))++b::S=((W++(if p=true then l.dc++R else []))++[b])++S by simp,show(W++(if p=true then l.dc++R else [])).length+1=((W++(if p=true then l.dc++R else []))++[b]).length by simp only[aP,aX,bN]]
   grind
  rw[cgW hM hb,aJ,dL,hdr,he,fZ]
 unfold arJ
 grind
structure Loc.entOk (l:Loc):Prop where
 fine:l.fine
 grpOk:l.grpOk
 second:l.second=2∨l.second=3
 money:l.moneyOk
 cur:∀b∈l.cur,¬isD b
 head:∃c r,l.cur=c::r∧c≠69∧c≠101∧l.dc≠[c]∧c≠37∧c≠41
 last:∃c r,l.cur=r++[c]∧l.dc≠[c]∧c≠37∧¬isD c
 dc:∃c,l.dc=[c]∧c.toNat<128∧zQ c.toNat=false∧c≠37∧c≠40∧c≠41∧c≠43∧c≠45∧(∀d r,l.minus=d::r→c≠d)∧c≠32∧c≠9∧c≠194∧c≠226
theorem bnP:∀l∈locs,l.entOk:=by
 intro l hl;have h1:=bxN l hl;have h2:=brR l hl;have h3:=bjT l hl;have h4:=brQ l hl;simp only[locs,cP,eW,or_false]at hl;rcases hl with rfl|rfl|rfl|rfl|rfl|rfl
 all_goals exact{fine:=h1,grpOk:=h2,second:=h3,money:=h4,cur:=λb hb=>by(simp at hb;rcases hb with rfl|rfl|rfl)<;>exact notD aC,head:=⟨_,_,rfl,by decide,by decide,by decide,by decide,by decide⟩,last:=by first|exact⟨_,[],rfl,by decide,by decide,notD aC⟩|exact⟨_,[_],rfl,by decide,by decide,notD aC⟩|exact⟨_,[_,_],rfl,by decide,by decide,notD aC⟩,dc:=⟨_,rfl,by decide,by decide,by decide,by decide,by decide,by decide,by decide,λd r hd=>by injection hd with hd _;subst hd;decide,by decide,by decide,by decide,by decide⟩}
/-! ### the ends of a number -/
def Edge(l:Loc)(c:UInt8):Prop:=isD c∨l.dc=[c]
theorem agC{l:Loc}(hl:l.entOk)(h:Edge l c):c.toNat<128∧zQ c.toNat=false∧c≠37∧c≠40∧c≠41∧c≠43∧c≠45∧(∀d r,l.minus=d::r→c≠d):=by
 rcases h with h|h
 ·have hn:∀{d:UInt8},d.toNat<48∨57<d.toNat→c≠d:=λhd q=>notD hd (q▸h);refine⟨by unfold isD at h;omega,bkS h,hn aC,hn aC,hn aC,hn aC,hn aC,λd r hm q=>?_⟩;obtain⟨d2,r2,hm2,hd2,_⟩:=hl.fine.minus
  grind
 obtain⟨d,hd,h1,h2,h3,h4,h5,h6,h7,h8,_⟩:=hl.dc
 grind
theorem aoJ{s:List UInt8}(hd:Digs s)(hn:s≠[]):∃r c,s=r++[c]∧isD c:=by
 refine⟨s.dropLast,s.getLast hn,(List.dropLast_concat_getLast hn).symm,hd _ (List.getLast_mem hn)⟩
theorem ckW{l:Loc}{s:List UInt8}(h:Ch l s d):s=[]∨∃r c,s=r++[c]∧isD c:=by
 induction h with
 |nil=>exact .inl rfl
 | @cons r s d hr hn _ ih=>
  refine .inr ?_;rcases ih with rfl|⟨r2,c,rfl,hc⟩
  ·obtain⟨r2,c,h1,hc⟩:=aoJ hr hn;exact⟨l.grp++r2,c,by rw[h1];simp,hc⟩
  grind
theorem baY{l:Loc}(hl:l.fine){e:Int}(h:bgS l t d e k gr x):∃c r,t=c::r∧Edge l c:=by
 obtain⟨W,R,E,p,dd,n,rfl,hp,hw,hR,hne,hE,rfl,rfl,rfl⟩:=h;rcases adS hl hw with⟨rfl,rfl,_⟩|⟨d0,s0,d1,rfl,h0,hd,_,_,_,_⟩
 ·cases p with
  |false=>exact absurd ⟨rfl,hp rfl⟩ hne
  |true=>
   obtain⟨c,hdc,_⟩:=hl.dc;exact⟨c,R++E,by simp[hdc],.inr hdc⟩
 cases d0 with
 |nil=>exact absurd rfl h0
 |cons c r=>exact⟨c,_,rfl,.inl (hd c aF)⟩
theorem bfA{l:Loc}(hl:l.fine){e:Int}(h:bgS l t d e k gr x):∃r c,t=r++[c]∧Edge l c:=by
 obtain⟨W,R,E,p,dd,n,rfl,hp,hw,hR,hne,hE,rfl,rfl,rfl⟩:=h;rcases hE with⟨rfl,_,_⟩|⟨b,S,rfl,_,he,_⟩
 ·cases p with
  |true=>
   by_cases hR0:R=[]
   ·obtain⟨c,hdc,_⟩:=hl.dc;exact⟨W,c,by simp[hdc,hR0],.inr hdc⟩
   obtain⟨r,c,h1,hc⟩:=aoJ hR hR0;exact⟨W++l.dc++r,c,by simp[h1],.inl hc⟩
  |false=>
   rcases adS hl hw with⟨rfl,rfl,_⟩|⟨d0,s0,d1,rfl,h0,hd,hc,_,_,_⟩
   ·grind
   rcases ckW hc with rfl|⟨r,c,rfl,h1⟩
   ·obtain⟨r,c,h1,h2⟩:=aoJ hd h0;exact⟨r,c,by simp[h1],.inl h2⟩
   exact⟨d0++r,c,by simp,.inl h1⟩
 obtain⟨h1,h2,_,_⟩:=boB he;obtain⟨g,_,hs⟩:=aiD l S;obtain⟨r,c,h3,h4⟩:=aoJ h2 h1;refine⟨W++((if p=true then l.dc++R else [])++(b::(g++r))),c,?_,.inl h4⟩
 grind
theorem avD{l:Loc}(hl:l.entOk)(h:Edge l c)(t:List UInt8):zQ (decodeL (c::t)).1=false:=
 abL [] t (agC hl h).1 (agC hl h).2.1
theorem alK{l:Loc}(hl:l.entOk)(h:Edge l c)(z:List UInt8):zQ (decodeLastL (z++[c])).1=false:=
 aeQ [] z (agC hl h).1 (agC hl h).2.1
theorem boE{l:Loc}(hl:l.entOk)(h:Edge l c)(t:List UInt8):hasPrefix (c::t) l.cur=false:=by
 obtain⟨b,r,hc,h1,h2,h3,_⟩:=hl.head;rw[hc];refine zZ λq=>?_;injection q with q
 subst q;rcases h with h|h
 ·exact hl.cur c (by rw[hc];simp) h
 exact h3 h
theorem cdX{l:Loc}(hl:l.entOk)(h:Edge l c)(t:List UInt8):hasSuffix (t++[c]) l.cur=false∧hasSuffix (t++[c]) l.pct=false:=by
 obtain⟨b,r,hc,h1,h2,h3⟩:=hl.last;refine⟨auV hl.money.ne ?_,auV (by rw[hl.fine.pct];simp) ?_⟩
 ·rw[hc,abZ aF,abZ aF];simp only[aX,bN,bZ,Nat.sub_self,cI];rintro rfl;rcases h with h|h
  ·exact h3 h
  exact h1 h
 rw[hl.fine.pct,abZ aF];exact λq=>(agC hl h).2.2.1 q.symm
/-! ### amounts -/
def btM(l:Loc)(v:List UInt8)(kd:Int)(d:List UInt8)(e:Int)(k:Nat)(gr x:Bool):Prop:=
 ∃(t B:List UInt8)(e0:Int),bgS l t d e0 k gr x∧Blanks B∧((v=l.cur++(B++t)∧kd=2∧e=e0)∨(v=t++(B++l.cur)∧kd=2∧e=e0)∨(v=t++(B++l.pct)∧kd=1∧e=e0-2)∨(v=t∧kd=0∧e=e0))
abbrev chD:=Int×List UInt8×Int×Nat×Bool×Bool
variable{a:chD}
def ajV(l:Loc)(s:List UInt8):Option (chD×List UInt8):=
 if hasPrefix s l.cur=true then(match aoQ l (zU (s.drop l.cur.length))with|none=>none|some (d,e,k,gr,x,z)=>some ((2,d,e,k,gr,x),z))
 else match aoQ l s with
  |none=>none
  |some (d,e,k,gr,x,z)=>
   if hasPrefix (zU z) l.pct=true then some ((1,d,e-2,k,gr,x),(zU z).drop l.pct.length)
   else if hasPrefix (zU z) l.cur=true then some ((2,d,e,k,gr,x),(zU z).drop l.cur.length)
   else some ((0,d,e,k,gr,x),z)
def chA(l:Loc)(v:List UInt8):Option chD:=
 match arJ l (adG l v).2.1 with
 |none=>none
 |some (d,e,k,gr,x)=>some ((adG l v).1,d,e+(adG l v).2.2,k,gr,x)
theorem ceZ{l:Loc}(hl:l.entOk){e:Int}(h:btM l v kd d e k gr x):chA l v=some (kd,d,e,k,gr,x):=by
 obtain⟨t,B,e0,hn,hB,h⟩:=h;obtain⟨c,r,hc,hce⟩:=baY hl.fine hn;obtain⟨r2,c2,hc2,hce2⟩:=bfA hl.fine hn;have hp:=bnC hl.fine hl.grpOk hn;have key:∀sh,adG l v=(kd,t,sh)→e=e0+sh→chA l v=some (kd,d,e,k,gr,x):=by
  intro sh h1 h2;unfold chA
  grind
 have hno:∀z,hasPrefix (t++z) l.cur=false:=by intro z;rw[hc];exact boE hl hce _
 rcases h with⟨rfl,rfl,rfl⟩|⟨rfl,rfl,rfl⟩|⟨rfl,rfl,rfl⟩|⟨rfl,rfl,rfl⟩
 ·refine key 0 ?_ aA;unfold adG;rw[aN (acX _ _),adZ,ajZ hB (.inr (by rw[hc];exact avD hl hce r)) _ (aV _)]
 ·refine key 0 ?_ aA;unfold adG;rw[aL (by rw[hno];decide),aN (amC.2 ⟨t++B,by rw[aQ]⟩),←aQ,akU,anB (.inr (by rw[hc2];exact alK hl hce2 _)) _ B (aV _) hB _ (aV _)]
 ·refine key (-2) ?_ aA;obtain⟨b,r3,hb,_,hb2,_⟩:=hl.last;have hs:hasSuffix (t++(B++l.pct)) l.cur=false:=by
   refine auV hl.money.ne ?_;rw[hb,abZ aF,←aQ,hl.fine.pct,abZ aF];exact hb2
  unfold adG;rw[aL (by rw[hno];decide),aL (by rw[hs];decide),aN (amC.2 ⟨t++B,by rw[aQ]⟩),←aQ,akU,anB (.inr (by rw[hc2];exact alK hl hce2 _)) _ B (aV _) hB _ (aV _)]
 refine key 0 ?_ aA;have h1:=hno [];rw[bP]at h1;have h2:=cdX hl hce2 r2;rw[←hc2]at h2;unfold adG
 grind
theorem bzW{l:Loc}(hl:l.entOk){e:Int}(h:chA l v=some (kd,d,e,k,gr,x)):btM l v kd d e k gr x:=by
 unfold chA at h;cases hn:arJ l (adG l v).2.1 with
 |none=>rw[hn]at h;cases h
 |some q=>
  obtain⟨d2,e0,k2,g2,x2⟩:=q;rw[hn]at h;injection h with h
  injection h with h1 h2
  injection h2 with h2 h3
  injection h3 with h3 h4
  injection h4 with h4 h5
  injection h5 with h5 h6
  subst h2;subst h4;subst h5;subst h6;have hO:=bwR hl.fine hn;unfold adG at h1 h3 hO;split at hO
  ·rename_i hc
   rw[aN hc]at h1 h3;obtain⟨z,rfl⟩:=adQ.1 hc;rw[adZ]at hO;obtain⟨B,hB,hz,_⟩:=aiW z.length z (aV _);exact⟨_,B,e0,hO,hB,.inl ⟨by rw[←hz],h1.symm,by simp only at h3;omega⟩⟩
  rename_i hc
  rw[aL hc]at h1 h3;split at hO
  ·rename_i hc2
   rw[aN hc2]at h1 h3;obtain⟨z,rfl⟩:=amC.1 hc2;rw[akU]at hO;obtain⟨B,hB,hz⟩:=aiV z.length z (aV _);exact⟨_,B,e0,hO,hB,.inr (.inl ⟨by rw[←aQ,←hz],h1.symm,by simp only at h3;omega⟩)⟩
  rename_i hc2
  rw[aL hc2]at h1 h3;split at hO
  ·rename_i hc3
   rw[aN hc3]at h1 h3;obtain⟨z,rfl⟩:=amC.1 hc3;rw[akU]at hO;obtain⟨B,hB,hz⟩:=aiV z.length z (aV _);exact⟨_,B,e0,hO,hB,.inr (.inr (.inl ⟨by rw[←aQ,←hz],h1.symm,by simp only at h3;omega⟩))⟩
  rename_i hc3
  rw[aL hc3]at h1 h3;exact⟨_,[],e0,hO,.nil,.inr (.inr (.inr ⟨rfl,h1.symm,by simp only at h3;omega⟩))⟩
def cfG(z:List UInt8):Prop:=∃B Q,Blanks B∧z=B++Q∧(Q=[]∨∃r,Q=41::r∧∀b∈r,¬isD b)
theorem ayZ(h:Blanks B):∀b∈B,¬isD b:=by
 induction h with
 |nil=>intro b hb;simp at hb
 | @cons e b he _ ih=>
  intro c hc;rcases dP.1 hc with hc|hc
  ·rcases adF he with rfl|rfl|rfl|rfl<;>(simp at hc;first|(subst hc;exact notD aC)|(rcases hc with rfl|rfl<;>exact notD aC)|(rcases hc with rfl|rfl|rfl<;>exact notD aC))
  grind
theorem bkR(h:Blanks B):∀c t,B=c::t→c=32∨c=9∨c=194∨c=226:=by
 intro c t hc;cases h with
 |nil=>cases hc
 | @cons e b he _=>
  rcases adF he with rfl|rfl|rfl|rfl<;>(injection hc with hc _;subst hc;simp)
theorem avI{l:Loc}(hl:l.entOk){Q:List UInt8}(hB:Blanks B)(hQ:CleanZ l Q):CleanZ l (B++Q):=by
 refine⟨λb hb=>?_,λc t h=>?_⟩
 ·rcases dP.1 hb with hb|hb
  ·exact ayZ hB b hb
  exact hQ.noD b hb
 cases hb:B with
 |nil=>rw[hb]at h;exact hQ.head c t h
 |cons b r=>
  rw[hb]at h;injection h with h _
  subst h;obtain⟨d,hd,_,_,_,_,_,_,_,_,h1,h2,h3,h4⟩:=hl.dc;rw[hd];rcases bkR hB b r hb with rfl|rfl|rfl|rfl
  ·grind
  ·grind
  ·grind
  grind
theorem bzL(l:Loc):CleanZ l []:=⟨λb hb=>by simp at hb,λc t h=>by cases h⟩
theorem akX{l:Loc}(hl:l.entOk)(h:cfG z):CleanZ l z:=by
 obtain⟨B,Q,hB,rfl,hQ⟩:=h;refine avI hl hB ?_;rcases hQ with rfl|⟨r,rfl,hr⟩
 ·exact bzL l
 obtain⟨d,hd,_,_,_,_,h1,_⟩:=hl.dc;refine⟨λb hb=>?_,λc t h=>?_⟩
 ·rcases cP.1 hb with rfl|hb
  ·exact notD aC
  grind
 grind
theorem bkZ{l:Loc}(hl:l.entOk){e:Int}(h:btM l v kd d e k gr x)(hz:cfG Z):ajV l (v++Z)=some ((kd,d,e,k,gr,x),Z):=by
 obtain⟨t,B,e0,hn,hB,h⟩:=h;obtain⟨c,r,hc,hce⟩:=baY hl.fine hn;have hnr:∀z,CleanZ l z→aoQ l (t++z)=some (d,e0,k,gr,x,z):=λz h=>ciX hl.fine hl.second hl.grpOk hn h;have hno:∀z,hasPrefix (t++z) l.cur=false:=by intro z;rw[hc];exact boE hl hce _
 obtain⟨b,cr,hcur,hb1,hb2,hb3,hb4,hb5⟩:=hl.head;have hcz:CleanZ l (l.cur++Z):=by
  refine⟨λa ha=>?_,λa s ha=>?_⟩
  ·rcases dP.1 ha with ha|ha
   ·exact hl.cur a ha
   exact(akX hl hz).noD a ha
  grind
 have hpz:CleanZ l (l.pct++Z):=by
  obtain⟨dd,hd,_,_,h1,_⟩:=hl.dc;rw[hl.fine.pct];refine⟨λa ha=>?_,λa s ha=>?_⟩
  ·rcases dP.1 ha with ha|ha
   ·have:a=37:=by grind
    rw[this];exact notD aC
   exact(akX hl hz).noD a ha
  grind
 rcases h with⟨rfl,rfl,rfl⟩|⟨rfl,rfl,rfl⟩|⟨rfl,rfl,rfl⟩|⟨rfl,rfl,rfl⟩
 ·unfold ajV;rw[aQ,aN (acX _ _),cX,aQ,aaY hB (.inr (by rw[hc];exact avD hl hce _)),hnr Z (akX hl hz)]
 ·unfold ajV;have h1:zU (B++(l.cur++Z))=l.cur++Z:=aaY hB (.inr (hl.money.left Z));have h2:hasPrefix (l.cur++Z) l.pct=false:=by rw[hl.fine.pct,hcur];exact zZ (by simpa using hb4)
  rw[aQ,aQ,aL (by rw[hno];decide),hnr _ (avI hl hB hcz)];simp only;rw[h1,aL (by rw[h2];decide),aN (acX _ _),cX]
 ·unfold ajV;have h1:zU (B++(l.pct++Z))=l.pct++Z:=aaY hB (.inr (by rw[hl.fine.pct];exact abL [] Z aC aC));rw[aQ,aQ,aL (by rw[hno];decide),hnr _ (avI hl hB hpz)];simp only;rw[h1,aN (acX _ _),cX]
 unfold ajV;have hQ:hasPrefix (zU Z) l.pct=false∧hasPrefix (zU Z) l.cur=false:=by
  obtain⟨B2,Q,hB2,rfl,hQ⟩:=hz;rcases hQ with rfl|⟨r,rfl,_⟩
  ·rw[aaY hB2 (.inl rfl),hl.fine.pct,hcur];exact⟨rfl,rfl⟩
  have h41:zU (B2++(41::r))=41::r:=aaY hB2 (.inr (abL [] r aC aC));rw[h41,hl.fine.pct,hcur];exact⟨zZ aF,zZ (by simpa using hb5.symm)⟩
 rw[aL (by rw[hno];decide),hnr _ (akX hl hz)]
 grind
theorem boT{l:Loc}(hl:l.entOk){T:List UInt8}{e:Int}(h:ajV l T=some ((kd,d,e,k,gr,x),Z)):∃v,T=v++Z∧btM l v kd d e k gr x:=by
 unfold ajV at h;split at h
 ·rename_i hc
  obtain⟨y,rfl⟩:=adQ.1 hc;rw[cX]at h;cases hn:aoQ l (zU y)with
  |none=>rw[hn]at h;cases h
  |some q=>
   obtain⟨d2,e2,k2,g2,x2,z2⟩:=q;rw[hn]at h;simp only[Option.some.injEq,Prod.mk.injEq]at h;obtain⟨⟨rfl,rfl,rfl,rfl,rfl,rfl⟩,rfl⟩:=h;obtain⟨t,ht,hO⟩:=baX hl.fine hl.second hn;obtain⟨B,hB,hy⟩:=abC y;exact⟨l.cur++(B++t),by rw[aQ,aQ,←ht,←hy],t,B,_,hO,hB,.inl ⟨rfl,rfl,rfl⟩⟩
 cases hn:aoQ l T with
 |none=>rw[hn]at h;cases h
 |some q=>
  obtain⟨d2,e2,k2,g2,x2,z2⟩:=q;rw[hn]at h;simp only at h;obtain⟨t,rfl,hO⟩:=baX hl.fine hl.second hn;obtain⟨B,hB,hz⟩:=abC z2;split at h
  ·rename_i hc
   obtain⟨y,hy⟩:=adQ.1 hc;rw[hy,cX]at h;simp only[Option.some.injEq,Prod.mk.injEq]at h;obtain⟨⟨rfl,rfl,rfl,rfl,rfl,rfl⟩,rfl⟩:=h;exact⟨t++(B++l.pct),by rw[aQ,aQ,←hy,←hz],t,B,_,hO,hB,.inr (.inr (.inl ⟨rfl,rfl,rfl⟩))⟩
  split at h
  ·rename_i hc
   obtain⟨y,hy⟩:=adQ.1 hc;rw[hy,cX]at h;simp only[Option.some.injEq,Prod.mk.injEq]at h;obtain⟨⟨rfl,rfl,rfl,rfl,rfl,rfl⟩,rfl⟩:=h;exact⟨t++(B++l.cur),by rw[aQ,aQ,←hy,←hz],t,B,_,hO,hB,.inr (.inl ⟨rfl,rfl,rfl⟩)⟩
  simp only[Option.some.injEq,Prod.mk.injEq]at h;obtain⟨⟨rfl,rfl,rfl,rfl,rfl,rfl⟩,rfl⟩:=h;exact⟨t,rfl,t,[],_,hO,.nil,.inr (.inr (.inr ⟨rfl,rfl,rfl⟩))⟩
theorem boU{l:Loc}(hl:l.entOk){e:Int}(h:btM l v kd d e k gr x):v≠[]∧(∀z,zQ (decodeL (v++z)).1=false)∧(∀z,cnS l (v++z)∧hasPrefix (v++z) [40]=false)∧(∀z,zQ (decodeLastL (z++v)).1=false):=by
 obtain⟨t,B,e0,hn,hB,h⟩:=h;obtain⟨c,r,hc,hce⟩:=baY hl.fine hn;obtain⟨r2,c2,hc2,hce2⟩:=bfA hl.fine hn;have hea:=agC hl hce;have ht:∀z,zQ (decodeL (t++z)).1=false∧cnS l (t++z)∧hasPrefix (t++z) [40]=false:=by
  intro z;rw[hc];exact⟨avD hl hce _,bgO hl.fine hea.2.2.2.2.2.1 hea.2.2.2.2.2.2.1 hea.2.2.2.2.2.2.2,zZ (by simpa using hea.2.2.2.1)⟩
 have htn:t≠[]:=by grind
 rcases h with⟨rfl,_,_⟩|⟨rfl,_,_⟩|⟨rfl,_,_⟩|⟨rfl,_,_⟩
 ·refine⟨by simp[htn],λz=>by rw[aQ];exact hl.money.left _,λz=>?_,λz=>?_⟩
  ·rw[aQ];have:=hl.money.signs (B++t++z);exact⟨⟨this.2.1,this.2.2.1,this.2.2.2⟩,this.1⟩
  rw[hc2,←aQ,←aQ,←aQ];exact alK hl hce2 _
 ·refine⟨by simp[htn],λz=>by rw[aQ];exact(ht _).1,λz=>by rw[aQ];exact(ht _).2,λz=>?_⟩;rw[←aQ,←aQ];exact hl.money.right _
 ·refine⟨by simp[htn],λz=>by rw[aQ];exact(ht _).1,λz=>by rw[aQ];exact(ht _).2,λz=>?_⟩;rw[←aQ,←aQ,hl.fine.pct];exact aeQ [] _ aC aC
 exact⟨htn,λz=>(ht z).1,λz=>(ht z).2,λz=>by rw[hc2,←aQ];exact alK hl hce2 _⟩
/-! ### entries -/
abbrev coN:=Bool×chD
def bhA(l:Loc)(s:List UInt8):Option coN:=
 if hasPrefix (zU s) [40]=true then(match ajV l (zU ((zU s).drop 1))with|none=>none|some (a,z)=>if hasPrefix (zU z) [41]=true∧zU ((zU z).drop 1)=[]then some (true,a)else none)
 else match ajV l (zU (yE l (zU s)).1)with|none=>none|some (a,z)=>if zU z=[]then some ((yE l (zU s)).2,a)else none
def cfF(l:Loc)(u:List UInt8):Option coN:=
 match aeI l u with
 |none=>none
 |some (v,neg)=>match chA l v with|none=>none|some a=>some (neg,a)
def cfJ(l:Loc)(s:List UInt8)(neg:Bool)(a:chD):Prop:=
 ∃v B0 B1 B3,btM l v a.1 a.2.1 a.2.2.1 a.2.2.2.1 a.2.2.2.2.1 a.2.2.2.2.2∧Blanks B0∧Blanks B1∧Blanks B3∧
  ((neg=true∧∃B2,Blanks B2∧s=B0++(40::(B1++(v++(B2++(41::B3))))))∨∃g,cnY l g neg∧s=B0++(g++(B1++(v++B3))))
theorem azT{l:Loc}(hl:l.entOk){g:List UInt8}{b:Bool}(hg:cnY l g b)(hn:g≠[])(z:List UInt8):zQ (decodeL (g++z)).1=false∧hasPrefix (g++z) [40]=false:=by
 rcases hg with⟨h,_⟩|⟨rfl,_⟩|⟨rfl,_⟩|⟨rfl,_⟩
 ·grind
 ·exact⟨abL [] z aC aC,zZ aF⟩
 ·exact⟨abL [] z aC aC,zZ aF⟩
 obtain⟨c,r,hm,_,_,h40,_,hb⟩:=hl.fine.minus;exact⟨hb z,by rw[hm];exact zZ (by simpa using h40)⟩
theorem ckI{l:Loc}(hl:l.entOk){s:List UInt8}(h:cfJ l s neg a):bhA l s=some (neg,a):=by
 obtain⟨v,B0,B1,B3,hA,hB0,hB1,hB3,h⟩:=h;have hv:=boU hl hA;rcases h with⟨rfl,B2,hB2,rfl⟩|⟨g,hg,rfl⟩
 ·have hT:cfG (B2++41::B3):=⟨B2,_,hB2,rfl,.inr ⟨B3,rfl,ayZ hB3⟩⟩;have e1:zU (B0++(40::(B1++(v++(B2++(41::B3))))))=40::(B1++(v++(B2++(41::B3)))):=aaY hB0 (.inr (abL [] _ aC aC));have e2:zU (B1++(v++(B2++(41::B3))))=v++(B2++(41::B3)):=aaY hB1 (.inr (hv.2.1 _));have e3:zU (B2++41::B3)=41::B3:=aaY hB2 (.inr (abL [] _ aC aC));unfold bhA;have h40:hasPrefix (40::(B1++(v++(B2++(41::B3))))) [40]=true:=acX [40] _;have h41:hasPrefix (41::B3) [41]=true:=acX [41] _;rw[e1,aN h40,fI,cU,e2,bkZ hl hA hT];simp only;rw[e3,aN ⟨h41,by rw[fI,cU];exact apP hB3⟩]
 have hT:cfG B3:=⟨B3,[],hB3,by rw[bP],.inl rfl⟩;by_cases hg0:g=[]
 ·subst hg0;have hneg:neg=false:=by
   rcases hg with⟨_,h⟩|⟨h,_⟩|⟨h,_⟩|⟨h,_⟩
   ·exact h
   ·cases h
   ·cases h
   obtain⟨c,r,hm,_⟩:=hl.fine.minus
   grind
  have e1:zU (B0++([]++(B1++(v++B3))))=v++B3:=by
   rw[cJ,←aQ];exact aaY (hB0.app hB1) (.inr (hv.2.1 _))
  have e2:yE l (v++B3)=(v++B3,neg):=apA hl.fine hg λ_=>(hv.2.2.1 B3).1;unfold bhA;rw[e1,aL (by rw[(hv.2.2.1 B3).2];decide),e2];simp only;rw[auP (.inr (hv.2.1 _)),bkZ hl hA hT];simp only;rw[aN (apP hB3)]
 have e1:zU (B0++(g++(B1++(v++B3))))=g++(B1++(v++B3)):=aaY hB0 (.inr (azT hl hg hg0 _).1);have e2:yE l (g++(B1++(v++B3)))=(B1++(v++B3),neg):=apA hl.fine hg λq=>absurd q hg0;unfold bhA;rw[e1,aL (by rw[(azT hl hg hg0 _).2];decide),e2];simp only;rw[aaY hB1 (.inr (hv.2.1 _)),bkZ hl hA hT];simp only;rw[aN (apP hB3)]
theorem cdV{l:Loc}(hl:l.entOk){s:List UInt8}(h:bhA l s=some (neg,a)):cfJ l s neg a:=by
 obtain⟨B0,hB0,h0⟩:=abC s;unfold bhA at h;split at h
 ·rename_i hc
  obtain⟨y,hy⟩:=adQ.1 hc;rw[hy]at h h0;have hd:([40]++y:List UInt8).drop 1=y:=rfl;rw[hd]at h;cases ha:ajV l (zU y)with
  |none=>rw[ha]at h;cases h
  |some q=>
   obtain⟨a2,z⟩:=q;rw[ha]at h;simp only at h;split at h
   ·rename_i hc2
    simp only[Option.some.injEq,Prod.mk.injEq]at h;obtain⟨rfl,rfl⟩:=h;obtain⟨v,hv,hA⟩:=boT (kd:=a2.1) (d:=a2.2.1) (e:=a2.2.2.1) (k:=a2.2.2.2.1) (gr:=a2.2.2.2.2.1) (x:=a2.2.2.2.2.2) hl ha;obtain⟨w,hw⟩:=adQ.1 hc2.1;have hd2:([41]++w:List UInt8).drop 1=w:=rfl;rw[hw,hd2]at hc2;obtain⟨B1,hB1,h1⟩:=abC y;obtain⟨B2,hB2,h2⟩:=abC z;obtain⟨B3,hB3,h3⟩:=abC w;rw[hc2.2,bP]at h3;refine⟨v,B0,B1,B3,hA,hB0,hB1,hB3,.inl ⟨rfl,B2,hB2,?_⟩⟩;rw[h0,h1,hv,h2,hw,h3];rfl
   cases h
 cases ha:ajV l (zU (yE l (zU s)).1)with
 |none=>rw[ha]at h;cases h
 |some q=>
  obtain⟨a2,z⟩:=q;rw[ha]at h;simp only at h;split at h
  ·rename_i hz
   simp only[Option.some.injEq,Prod.mk.injEq]at h;obtain⟨rfl,rfl⟩:=h;obtain⟨v,hv,hA⟩:=boT (kd:=a2.1) (d:=a2.2.1) (e:=a2.2.2.1) (k:=a2.2.2.2.1) (gr:=a2.2.2.2.2.1) (x:=a2.2.2.2.2.2) hl ha;obtain⟨g,hg,h1⟩:=aiD l (zU s);obtain⟨B1,hB1,h2⟩:=abC (yE l (zU s)).1;obtain⟨B3,hB3,h3⟩:=abC z;rw[hz,bP]at h3;refine⟨v,B0,B1,B3,hA,hB0,hB1,hB3,.inr ⟨g,hg,?_⟩⟩;rw[←h3,←hv,←h2,←h1];exact h0
  cases h
theorem cdW{l:Loc}(hl:l.entOk){s:List UInt8}(h:cfJ l s neg a):cfF l (aaQ zQ s)=some (neg,a):=by
 obtain⟨v,B0,B1,B3,hA,hB0,hB1,hB3,h⟩:=h;have hv:=boU hl hA;have hq:=ceZ hl hA;have key:∀u,aeI l u=some (v,neg)→cfF l u=some (neg,a):=by
  intro u hu;unfold cfF
  grind
 rcases h with⟨rfl,B2,hB2,rfl⟩|⟨g,hg,rfl⟩
 ·have e0:B0++(40::(B1++(v++(B2++(41::B3)))))=B0++([40]++((B1++(v++B2))++[41]))++B3:=by simp
  have e1:aaQ zQ (B0++(40::(B1++(v++(B2++(41::B3))))))=[40]++((B1++(v++B2))++[41]):=by
   rw[e0];refine arN hB0 hB3 (.inr ?_) (.inr ?_)
   ·rw[aQ];exact abL [] _ aC aC
   rw[←aQ];exact aeQ [] _ aC aC
  rw[e1];refine key _ ?_;have e2:aaQ zQ (B1++(v++B2))=v:=by
   rw[←aQ];exact arN hB1 hB2 (.inr (hv.2.1 _)) (.inr (hv.2.2.2 []))
  unfold aeI;rw[aN (acX _ _),adZ,aN (amC.2 ⟨_,rfl⟩),akU,e2]
 by_cases hg0:g=[]
 ·subst hg0;have e1:aaQ zQ (B0++([]++(B1++(v++B3))))=v:=by
   rw[cJ,←aQ,←aQ];exact arN (hB0.app hB1) hB3 (.inr (hv.2.1 _)) (.inr (hv.2.2.2 []))
  rw[e1];refine key _ ?_;have hvn:=hv.2.1 [];have hvb:=hv.2.2.1 [];rw[bP]at hvn hvb;have e2:yE l v=(v,neg):=apA hl.fine (x:=v) hg λ_=>hvb.1;unfold aeI;rw[aL (by rw[hvb.2];decide),e2];simp only;rw[axB (.inr hvn)]
 have e0:B0++(g++(B1++(v++B3)))=B0++(g++(B1++v))++B3:=by simp
 have e1:aaQ zQ (B0++(g++(B1++(v++B3))))=g++(B1++v):=by
  rw[e0];refine arN hB0 hB3 (.inr ?_) (.inr ?_)
  ·rw[aQ];exact(azT hl hg hg0 _).1
  grind
 rw[e1];refine key _ ?_;have hvn:=hv.2.1 [];rw[bP]at hvn;have e2:yE l (g++(B1++v))=(B1++v,neg):=apA hl.fine hg λq=>absurd q hg0;unfold aeI;rw[aL (by rw[(azT hl hg hg0 _).2];decide),e2];simp only;rw[ajZ hB1 (.inr hvn) _ (aV _)]
theorem byS{l:Loc}(hl:l.entOk){s:List UInt8}(h:cfF l (aaQ zQ s)=some (neg,a)):cfJ l s neg a:=by
 obtain⟨B0,B3,hB0,hB3,hs⟩:=awY s;unfold cfF at h;cases hi:aeI l (aaQ zQ s)with
 |none=>rw[hi]at h;cases h
 |some q=>
  obtain⟨v,n2⟩:=q;rw[hi]at h;simp only at h;cases hq:chA l v with
  |none=>rw[hq]at h;cases h
  |some a2=>
   rw[hq]at h;simp only[Option.some.injEq,Prod.mk.injEq]at h;obtain⟨rfl,rfl⟩:=h;have hA:=bzW (kd:=a2.1) (d:=a2.2.1) (e:=a2.2.2.1) (k:=a2.2.2.2.1) (gr:=a2.2.2.2.2.1) (x:=a2.2.2.2.2.2) hl hq;unfold aeI at hi;split at hi
   ·rename_i hc
    obtain⟨y,hy⟩:=adQ.1 hc;rw[hy,adZ]at hi;split at hi
    ·rename_i hc2
     obtain⟨w,hw⟩:=amC.1 hc2;rw[hw,akU]at hi;simp only[Option.some.injEq,Prod.mk.injEq]at hi;obtain⟨hv,rfl⟩:=hi;obtain⟨B1,B2,hB1,hB2,h1⟩:=awY w;rw[hv]at h1;refine⟨v,B0,B1,B3,hA,hB0,hB1,hB3,.inl ⟨rfl,B2,hB2,?_⟩⟩;rw[hs,hy,hw,h1];simp
    grind
   simp only[Option.some.injEq,Prod.mk.injEq]at hi;obtain⟨hv,rfl⟩:=hi;obtain⟨g,hg,h1⟩:=aiD l (aaQ zQ s);obtain⟨B1,hB1,h2⟩:=abC (yE l (aaQ zQ s)).1;unfold zU at h2;rw[hv]at h2;refine⟨v,B0,B1,B3,hA,hB0,hB1,hB3,.inr ⟨g,hg,?_⟩⟩;have h3:s=B0++(g++(B1++v))++B3:=by rw[←h2,←h1];exact hs
   rw[h3];simp only[aQ]
theorem cnO{l:Loc}(hl:l.entOk)(s:List UInt8):bhA l s=cfF l (aaQ zQ s):=by
 cases h:bhA l s with
 |some q=>obtain⟨n,a⟩:=q;exact(cdW hl (cdV hl h)).symm
 |none=>
  cases h2:cfF l (aaQ zQ s)with
  |none=>rfl
  |some q=>
   obtain⟨n,a⟩:=q;rw[ckI hl (byS hl h2)]at h;cases h
def bjP(o:Option coN):EntN×Int:=
 match o with
 |none=>(EntN.zero,3)
 |some (neg,kd,d,e,k,gr,x)=>
  if(mkN neg d e).2≠0 then(EntN.zero,2)
  else if zK (akQ (mkN neg d e).1.1 (mkN neg d e).1.2.1 (mkN neg d e).1.2.2)=3 then(EntN.zero,2)
  else(⟨akQ (mkN neg d e).1.1 (mkN neg d e).1.2.1 (mkN neg d e).1.2.2,kd,k,gr,x⟩,0)
theorem brK(l:Loc)(u:List UInt8):acB l u=bjP (cfF l u):=by
 unfold acB cfF;cases aeI l u with
 |none=>rfl
 |some q=>
  obtain⟨v,neg⟩:=q;simp only;unfold bbM chA;cases arJ l (adG l v).2.1 with
  |none=>rfl
  |some q=>obtain⟨d,e,k,gr,x⟩:=q;rfl
theorem ccV{l:Loc}(hl:l.entOk)(s:List UInt8):bjP (bhA l s)=acB l (aaQ zQ s):=by rw[cnO hl,brK]
end Go.Proofs.YtmmgbnolccpjoaaGreatDoor
