import Derived.Test.YteedncdcbgplfaaGreatDoorT1
import Derived.Lib.TrimUEq
namespace Go.Proofs.YteedncdcbgplfaaGreatDoor
open Go.Proofs.Tryz
open Go Go.RowKit Go.Lib
variable{g:G}{T:TypeId}{ms:Array (String×TypeId)}
def aaV(p:Nat→Bool):Nat→List UInt8→List UInt8
 |0,l=>l
 |f+1,l=>if l=[]then []else if p (decodeL l).1 then aaV p f (l.drop (decodeL l).2)else l
def abQ(p:Nat→Bool):Nat→List UInt8→List UInt8
 |0,l=>l
 |f+1,l=>if l=[]then []else if p (decodeLastL l).1 then abQ p f (l.take (l.length-(decodeLastL l).2))else l
def acO(p:Nat→Bool)(l:List UInt8):List UInt8:=abQ p l.length (aaV p l.length l)
theorem anN(p:Nat→Bool):∀f,aaV p f []=[]
 |0=>rfl
 |f+1=>by simp[aaV]
theorem acV(p:Nat→Bool):∀f,abQ p f []=[]
 |0=>rfl
 |f+1=>by simp[abQ]
theorem aqF(p:Nat→Bool)(f:Nat){l:List UInt8}(h:l≠[]):aaV p (f+1) l=if p (decodeL l).1=true then aaV p f (l.drop (decodeL l).2)else l:=by
 simp[aaV,h]
theorem bdU(p:Nat→Bool)(f:Nat){l:List UInt8}(h:l≠[]):abQ p (f+1) l=if p (decodeLastL l).1=true then abQ p f (l.take (l.length-(decodeLastL l).2))else l:=by
 simp[abQ,h]
theorem bjS(p:Nat→Bool)(s:ByteArray):∀(f pos:Nat),s.size≤pos+f→
  aaV p f (s.data.toList.drop pos)=if idxFuncFrom p false s f pos= -1 then []else s.data.toList.drop (idxFuncFrom p false s f pos).toNat
 |0,pos,h=>by
  have:s.data.toList.drop pos=[]:=gK (by rw[←size_eq];omega);simp[aaV,idxFuncFrom,this]
 |f+1,pos,h=>by
  by_cases hp:pos<s.size
  ·have hne:s.data.toList.drop pos≠[]:=by
    intro h0;have:=congrArg List.length h0;rw[bO,←size_eq]at this;simp at this;omega
   have hw:=width_pos s pos;simp only[aaV,idxFuncFrom,aM hne,aN hp,decodeL_drop];cases hsp:p (Utf8.decode s pos).1 with
   |true=>
    simp only[if_true,gT,Bool.true_eq_false,if_false];exact bjS p s f _ aA
   |false=>
    simp only[dN,if_false,if_true];rw[aJ,dZ]
  have:s.data.toList.drop pos=[]:=gK (by rw[←size_eq];omega);rw[this,anN,idxFuncFrom_end p false s _ _ hp,aN rfl]
theorem aiV(p:Nat→Bool)(s:ByteArray):(trimLeftF p s).data.toList=aaV p s.data.toList.length s.data.toList:=by
 have h:=bjS p s s.size 0 aA;rw[dL]at h;rw[←size_eq,h];unfold trimLeftF idxFunc;split
 ·rfl
 rw[extract_data,aY (by rw[bO,←size_eq];exact aZ _)]
theorem aeC(p:Nat→Bool):∀(f:Nat)(l:List UInt8),(aaV p f l).length≤l.length
 |0,_=>aZ _
 |f+1,l=>by
  unfold aaV;split
  ·simp
  split
  ·exact bC (aeC p f _) (by rw[bO];omega)
  exact aZ _
theorem afL(p:Nat→Bool):∀(f:Nat)(l:List UInt8),(abQ p f l).length≤l.length
 |0,_=>aZ _
 |f+1,l=>by
  unfold abQ;split
  ·simp
  split
  ·exact bC (afL p f _) (by rw[aV];omega)
  exact aZ _
theorem aqE(p:Nat→Bool):∀(f g:Nat)(l:List UInt8),l.length≤f→l.length≤g→abQ p f l=abQ p g l
 |0,g,l,hf,_=>by
  have:l=[]:=cW aA;rw[this,acV,acV]
 |f+1,0,l,_,hg=>by
  have:l=[]:=cW aA;rw[this,acV,acV]
 |f+1,g+1,l,hf,hg=>by
  by_cases hne:l=[]
  ·rw[hne,acV,acV]
  have hw:=decodeLastL_width l (bV.2 hne);simp only[abQ,aM hne];split
  ·exact aqE p f g _ (by rw[aV];omega) (by rw[aV];omega)
  rfl
theorem opensP(p:Nat→Bool)(hp:p 65533=false)(l:List UInt8)(i:Nat)(hi:0<i)(hil:i≤l.length)(hsp:p (decodeLastL (l.take i)).1=true):OpenAt l (i-(decodeLastL (l.take i)).2):=by
 rcases last_cases l i hi hil with⟨ha,hd⟩|⟨ha,hd⟩|⟨ha,st,hst,hd,hsum⟩
 ·rw[hd];exact .inr (by show(l.getD (i-1) 0).toNat/64≠2;omega)
 ·rw[hd]at hsp;exact absurd hsp (by rw[hp];decide)
 rw[hd]at hsp ⊢;rw[show i-(decodeL ((l.take i).drop st)).2=st by omega];refine .inr λhc=>?_;rw[decodeL_N,getD_dropU,cA,getD_takeU l i st hst,decodeN_cont _ _ _ _ _ hc]at hsp;exact absurd hsp (by rw[hp];decide)
theorem baW(p:Nat→Bool)(hp:p 65533=false)(s:ByteArray):∀(f i:Nat),i≤f→i≤s.data.toList.length→OpenAt s.data.toList i→
  abQ p f (s.data.toList.take i)=s.data.toList.take (if 0≤lastIdxFuncFrom p false s f i then(lastIdxFuncFrom p false s f i).toNat+(decodeL (s.data.toList.drop (lastIdxFuncFrom p false s f i).toNat)).2 else 0)
 |0,i,hf,_,_=>by
  obtain rfl:i=0:=by omega
  simp[abQ,lastIdxFuncFrom]
 |f+1,i,hf,hil,ho=>by
  by_cases hi:0<i
  ·have hlen:(s.data.toList.take i).length=i:=by rw[aV];omega
   have hne:s.data.toList.take i≠[]:=λh=>by rw[h]at hlen;simp at hlen;omega
   have hw:=decodeLastL_width (s.data.toList.take i) aA;rw[hlen]at hw;simp only[abQ,lastIdxFuncFrom,aM hne,aN hi,hlen];cases hsp:p (decodeLastL (s.data.toList.take i)).1 with
   |true=>
    simp only[if_true,Bool.true_eq_false,if_false];rw[List.take_take,cZ aA];exact baW p hp s f _ aA aA (opensP p hp _ i hi hil hsp)
   |false=>
    simp only[dN,if_false,if_true];rw[aK,dZ,fw_width _ i hi hil ho,Nat.sub_add_cancel hw.2]
  obtain rfl:i=0:=by omega
  rw[lastIdxFuncFrom_zero];simp[acV]
theorem avZ(p:Nat→Bool)(s:ByteArray):∀(f i:Nat),i≤s.size→lastIdxFuncFrom p false s f i= -1∨(0≤lastIdxFuncFrom p false s f i∧lastIdxFuncFrom p false s f i<i)
 |0,_,_=>.inl rfl
 |f+1,i,hi=>by
  unfold lastIdxFuncFrom;split
  ·rename_i h0
   have hw:=decodeLastL_width (s.data.toList.take i) (by rw[aV,←size_eq];omega);rw[aV,←size_eq,cZ hi]at hw;split
   ·exact .inr ⟨by omega,by omega⟩
   rcases avZ p s f (i-(decodeLastL (s.data.toList.take i)).2) aA with h|h
   ·exact .inl h
   exact .inr ⟨h.1,by omega⟩
  exact .inl rfl
theorem alV(p:Nat→Bool)(hp:p 65533=false)(s:ByteArray):(trimRightF p s).data.toList=abQ p s.data.toList.length s.data.toList:=by
 have h:=baW p hp s s.size s.size (aZ _) (by rw[←size_eq];exact aZ _) (.inl (size_eq s));rw[aY (by rw[←size_eq];exact aZ _)]at h;rw[←size_eq,h];unfold trimRightF rightEndF lastIdxFunc;rw[extract_data,dL,gU];congr 1;split
 ·rename_i h0
  congr 2
  rcases avZ p s s.size s.size (aZ _)with hm|hlt
  ·omega
  have hx:s.extract (lastIdxFuncFrom p false s s.size s.size).toNat s.size=⟨(s.data.toList.drop (lastIdxFuncFrom p false s s.size s.size).toNat).toArray⟩:=by
   rw[extract_eq,aY (by rw[bO,←size_eq];exact aZ _)]
  have hxs:(⟨(s.data.toList.drop (lastIdxFuncFrom p false s s.size s.size).toNat).toArray⟩:ByteArray).size≠0:=by
   rw[size_eq];simp only[bO];rw[←size_eq];omega
  rw[hx];unfold decodeGoB decodeL;rw[aM hxs]
 rfl
theorem bxX(p:Nat→Bool)(hp:p 65533=false)(s:ByteArray):(trimF p s).data.toList=acO p s.data.toList:=by
 unfold trimF acO;rw[alV p hp,aiV];exact aqE p _ _ _ (aZ _) (aeC p _ _)
/-! ### the blanks of an entry -/
def yP(r:Nat):Bool:=r==32||r==9||r==160||r==8239
def aeQ(r:Nat):Bool:=decide (48≤r)&&decide (r≤57)
section
open Go Go.RowKit
set_option maxRecDepth 100000
theorem mDisable(w:World):(callFunc 339 #[]).run prog w= .ok (.value (.tuple #[])) w:=run_call_mark0 func339 (by kernel_rfl) (by kernel_rfl) (by kernel_rfl) .disable (by kernel_rfl) w
theorem mEnable(w:World):(callFunc 341 #[]).run prog w= .ok (.value (.tuple #[])) w:=run_call_mark0 func341 (by kernel_rfl) (by kernel_rfl) (by kernel_rfl) .enable (by kernel_rfl) w
theorem mAcquire(a:Addr)(w:World):(callFunc 342 #[.pointer (some a)]).run prog w= .ok (.value (.tuple #[])) w:=run_call_marked func342 (by kernel_rfl) (by kernel_rfl) (by kernel_rfl) .acquire (by kernel_rfl) a w
theorem mRelease(a:Addr)(w:World):(callFunc 344 #[.pointer (some a)]).run prog w= .ok (.value (.tuple #[])) w:=run_call_marked func344 (by kernel_rfl) (by kernel_rfl) (by kernel_rfl) .releaseMerge (by kernel_rfl) a w
theorem asX(a:Addr)(x:Value)(u:FrameMode)(w:World)(hc:w.cell? a=some x)(hz:w.frozen? a=false):
  CallsD prog 333 #[.pointer (some a),.bool true] u w λe u' w'=>u'=u∧(e= .returned (.tuple #[])∧w'=w.drew.setCell a (.int .u32 1)):=by
 have hc':w.drew.cell? a=some x:=by go_simp
 have hz':w.drew.frozen? a=false:=by go_simp
 have hst:=run_call_store (P:=prog) func337 (by kernel_rfl) (by kernel_rfl) (by kernel_rfl) (by kernel_rfl) (k:=.u32) (y:=1) hc' hz'
 go_enter_d func333,ntmps333
 go_wp2
 go_region_calls
 all_goals (go_end0;exact⟨rfl,rfl⟩)
theorem iunlock(a:Addr)(w:World)(hc:w.cell? a=some (.int .i32 1))(hz:w.frozen? a=false):
  Calls prog 336 #[.pointer (some a)] w λe w'=>e= .returned (.tuple #[])∧w'=w.setCell a (.int .i32 0):=by
 have hd:=mDisable;have he:=mEnable;have hr:=mRelease;have hadd:=run_call_add (P:=prog) func345 (by kernel_rfl) (by kernel_rfl) (by kernel_rfl) .i32 (by kernel_rfl) (y:= -1) (s:=0) hc hz (by simp[go_sem];rfl);have hcv:=run_convert_to_unsafe (P:=prog) (src:=387) (dst:=342) underlying387 underlying342 (by kernel_rfl) hc
 go_enter func336,ntmps336
 go_wp2
 go_end0
 go_wp2
theorem aqC(a:Addr)(u:FrameMode)(w:World)(hc:w.cell? a=some (.int .i32 1))(hz:w.frozen? a=false):
  CallsD prog 332 #[.pointer (some a)] u w λe u' w'=>u'=u∧(e= .returned (.tuple #[])∧w'=w.setCell a (.int .i32 0)):=by
 go_enter_d func332,ntmps332
 go_wp2_with (go_at_call 336;refine(iunlock a _ (by go_simp) (by go_simp)).mono ?_;rintro e w' ⟨rfl,rfl⟩)
 go_end0
 exact⟨rfl,rfl⟩
theorem ilock(a:Addr)(w:World)(hc:w.cell? a=some (.int .i32 0))(hz:w.frozen? a=false):
  Calls prog 335 #[.pointer (some a)] w λe w'=>e= .returned (.tuple #[])∧w'=w.setCell a (.int .i32 1):=by
 have hd:=mDisable;have he:=mEnable;have ha:=mAcquire;have hcas:=run_call_cas_hit (P:=prog) func340 (by kernel_rfl) (by kernel_rfl) (by kernel_rfl) .i32 (by kernel_rfl) (y:=1) hc hz;have hc':(w.setCell a (.int .i32 1)).cell? a=some (.int .i32 1):=World.cell?_setCell_same w a _ hc;have hcv:=run_convert_to_unsafe (P:=prog) (src:=387) (dst:=342) underlying387 underlying342 (by kernel_rfl) hc'
 go_enter func335,ntmps335
 go_wp2
 first|go_end0|(simp only[Exit.inBlock,Exit.then];refine bodyPost_ret (results_none rfl _ _ _) rfl ?_)|refine bodyPost_ret (results_none rfl _ _ _) rfl ?_
 go_wp2
theorem mlock(a:Addr)(w:World)(hc:w.cell? a=some (.int .i32 0))(hz:w.frozen? a=false):
  Calls prog 331 #[.pointer (some a)] w λe w'=>e= .returned (.tuple #[])∧w'=w.setCell a (.int .i32 1):=by
 go_enter func331,ntmps331
 go_wp2_with (go_at_call 335;refine(ilock a _ (by go_simp) (by go_simp)).mono ?_;rintro e w' ⟨rfl,rfl⟩)
 go_end0
 exact⟨rfl,rfl⟩
theorem bload(a:Addr)(x:Int)(w:World)(hc:w.cell? a=some (.int .u32 x)):
  Calls prog 320 #[.pointer (some a)] w λe w'=>e= .returned (.bool (x !=0))∧w'=w:=by
 have hl:=run_call_load (P:=prog) func330 (by kernel_rfl) (by kernel_rfl) (by kernel_rfl) .u32 (by kernel_rfl) hc
 go_enter func320,ntmps320
 go_wp2
 refine⟨rfl,.bool (x !=0),?_,rfl,rfl⟩;simp[results,results320]
theorem ciL(a:Addr)(f:Value)(x:Int)(w:World)(hc:w.cell? a=some (.int .u32 x))(hx:x≠0):
  Calls prog 299 #[.pointer (some a),f] w λe w'=>e= .returned (.tuple #[])∧w'=w:=by
 have hnot:∀(x:Bool)(w:World),(Op.unary .not (.bool x)).run prog w= .ok (.bool (!x)) w:=λ_ _=>rfl;have hxx:(x !=0)=true:=by simpa using hx
 go_enter func299,ntmps299
 go_wp2_with (go_at_call 320;refine(bload a x _ hc).mono ?_;rintro e w' ⟨rfl,rfl⟩;rw[hxx])
 go_end0
 exact⟨rfl,rfl⟩
set_option maxHeartbeats 1600000 in
theorem blR(b off:Nat)(f:FuncId)(cap:Array Value)(hent:∀args w,(callFunc f args).run prog w= .ok (.enter f args) w)(w:World)(X:World→Prop)
  (h0:w.cell? ⟨b,off,none⟩=some (.int .u32 0))(h1:w.cell? ⟨b,off+1,none⟩=some (.int .i32 0))(f1:w.frozen? ⟨b,off+1,none⟩=false)
  (hf:Calls prog f cap (w.setCell ⟨b,off+1,none⟩ (.int .i32 1)) λe w2=>e= .returned (.tuple #[])∧X w2)
  (hX:∀w2,X w2→w2.cell? ⟨b,off,none⟩=some (.int .u32 0)∧w2.cell? ⟨b,off+1,none⟩=some (.int .i32 1)∧w2.frozen? ⟨b,off,none⟩=false∧w2.frozen? ⟨b,off+1,none⟩=false):
  Calls prog 321 #[.pointer (some ⟨b,off,none⟩),.func (.func f) #[] cap] w λe w'=>e= .returned (.tuple #[])∧∃w2,X w2∧w'=(w2.drew.setCell ⟨b,off,none⟩ (.int .u32 1)).setCell ⟨b,off+1,none⟩ (.int .i32 0):=by
 have hl:(w.setCell ⟨b,off+1,none⟩ (.int .i32 1)).cell? ⟨b,off,none⟩=some (.int .u32 0):=(World.cell?_setCell_other _ ⟨b,off+1,none⟩ ⟨b,off,none⟩ _ aF).trans h0;have hnot:∀(x:Bool)(w:World),(Op.unary .not (.bool x)).run prog w= .ok (.bool (!x)) w:=λ_ _=>rfl;have hz:((0:Int)!=0)=false:=rfl
 go_enter_defers func321,ntmps321
 go_wp2_with (go_at_call 331;refine(mlock ⟨b,off+1,none⟩ _ (by go_simp) (by go_simp)).mono ?_;rintro e w' ⟨rfl,rfl⟩)
 go_wp2_with (go_at_call 320;refine(bload ⟨b,off,none⟩ 0 _ hl).mono ?_;rintro e w' ⟨rfl,rfl⟩;rw[hz])
 refine hf.mono ?_;rintro e w2 ⟨rfl,hx⟩;obtain⟨x0,x1,z0,z1⟩:=hX w2 hx
 go_wp2
 refine leaves_cons (f:=333) (args:= #[.pointer (some ⟨b,off,none⟩),.bool true]) aF (by simp[go_sem]) ?_;refine(asX ⟨b,off,none⟩ (.int .u32 0) .returning _ x0 z0).mono ?_;rintro e u' w'' ⟨rfl,rfl,rfl⟩;refine leaves_cons (f:=332) (args:= #[.pointer (some ⟨b,off+1,none⟩)]) (by simp[settle]) (by simp[go_sem]) ?_;refine(aqC ⟨b,off+1,none⟩ _ _ ?_ (by simp[z1])).mono ?_
 ·refine(World.cell?_setCell_other _ ⟨b,off,none⟩ ⟨b,off+1,none⟩ _ aF).trans ?_;rw[World.cell?_drew];exact x1
 rintro e u' w'' ⟨rfl,rfl,rfl⟩;simp[Leaves,settle,results,results321];exact⟨_,hx,rfl⟩
theorem cbX(b off:Nat)(f:FuncId)(cap:Array Value)(hent:∀args w,(callFunc f args).run prog w= .ok (.enter f args) w)(w:World)(X:World→Prop)
  (h0:w.cell? ⟨b,off,none⟩=some (.int .u32 0))(h1:w.cell? ⟨b,off+1,none⟩=some (.int .i32 0))(f1:w.frozen? ⟨b,off+1,none⟩=false)
  (hf:Calls prog f cap (w.setCell ⟨b,off+1,none⟩ (.int .i32 1)) λe w2=>e= .returned (.tuple #[])∧X w2)
  (hX:∀w2,X w2→w2.cell? ⟨b,off,none⟩=some (.int .u32 0)∧w2.cell? ⟨b,off+1,none⟩=some (.int .i32 1)∧w2.frozen? ⟨b,off,none⟩=false∧w2.frozen? ⟨b,off+1,none⟩=false):
  Calls prog 299 #[.pointer (some ⟨b,off,none⟩),.func (.func f) #[] cap] w λe w'=>e= .returned (.tuple #[])∧∃w2,X w2∧w'=(w2.drew.setCell ⟨b,off,none⟩ (.int .u32 1)).setCell ⟨b,off+1,none⟩ (.int .i32 0):=by
 have hnot:∀(x:Bool)(w:World),(Op.unary .not (.bool x)).run prog w= .ok (.bool (!x)) w:=λ_ _=>rfl;have hz:((0:Int)!=0)=false:=rfl;have hs:=blR b off f cap hent w X h0 h1 f1 hf hX
 go_enter func299,ntmps299
 go_wp2_with (go_at_call 320;refine(bload ⟨b,off,none⟩ 0 _ h0).mono ?_;rintro e w' ⟨rfl,rfl⟩;rw[hz])
 go_wp2_with (go_at_call 321;refine hs.mono ?_;rintro e w' ⟨rfl,w2,hx,rfl⟩)
 go_end0
 exact⟨rfl,w2,hx,rfl⟩
theorem relnone{v:Value}(h:RelV g (.tuple []) v):v= .tuple #[]:=by
 cases h with
 |tuple _ vs hn _=>
  have:vs= #[]:=Array.eq_empty_of_size_eq_zero (by simpa using hn.symm);rw[this]
theorem tup0(g:G):RelV g (.tuple []) (.tuple #[]):=.tuple _ _ rfl (λi c v hc _=>by simp at hc)
theorem bnJ{b o:Nat}{cs ds:List AV}(f:FuncId)(cap:List AV)(hent:∀args w,(callFunc f args).run prog w= .ok (.enter f args) w)(H:Heap)(hb:H.objs b=some (.box T cs))
  (h0:cs[o]?=some (.int .u32 0))(h1:cs[o+1]?=some (.int .i32 0))(d0:ds[o]?=some (.int .u32 0))(d1:ds[o+1]?=some (.int .i32 1))
  (hf:ACall prog f cap (H.set b (.box T (cs.set (o+1) (.int .i32 1)))) (λy H'=>y= .tuple []∧H'=H.set b (.box T ds))):
  ACall prog 299 [.ptr (some ⟨b,o,none⟩),.func f cap] H (λy H'=>y= .tuple []∧H'=H.set b (.box T ((ds.set o (.int .u32 1)).set (o+1) (.int .i32 0)))):=by
 intro g vs w k s;obtain⟨v0,v1,rfl,h0v,h1v⟩:=relvs2 k;cases h0v
 cases h1v with
 |func _ _ us hn hr=>
  obtain⟨c0,z0⟩:=s.cellInt hb h0;obtain⟨c1,z1⟩:=s.cellInt hb h1;have s1:=s.setCell (o:=o+1) (v:=.int .i32 1) hb (bT.1 h1).1 (RelV.int .i32 1);have hcall:=hf g us.toList _ ⟨by simpa using hn,λi c v hc hv=>hr i c v hc (by simpa using hv)⟩ s1;rw[show us.toList.toArray=us by simp]at hcall;refine(cbX b o f us hent w (λw2=>∃g',g.le g'∧Sat g' (H.set b (.box T ds)) w2) c0 c1 z1 (hcall.mono ?_) ?_).mono ?_
  ·rintro e w2 ⟨v,rfl,g',x,H',hle,hx,s2,rfl,rfl⟩;exact⟨by rw[relnone hx],g',hle,s2⟩
  ·rintro w2 ⟨g',hle,s2⟩;obtain⟨q0,y0⟩:=s2.cellInt (oS _ _ _) d0;obtain⟨q1,y1⟩:=s2.cellInt (oS _ _ _) d1;exact⟨q0,q1,y0,y1⟩
  rintro e w' ⟨rfl,w2,⟨g',hle,s2⟩,rfl⟩;have s3:=s2.drew.setCell (o:=o) (v:=.int .u32 1) (oS _ _ _) (bT.1 d0).1 (RelV.int .u32 1);rw[sS]at s3;have s4:=s3.setCell (o:=o+1) (v:=.int .i32 0) (oS _ _ _) (by rw[cP];exact(bT.1 d1).1) (RelV.int .i32 0);rw[sS]at s4;exact⟨_,rfl,g',.tuple [],_,hle,tup0 g',s4,rfl,rfl⟩
theorem btI{b o:Nat}{cs:List AV}(f:FuncId)(cap:List AV)(H:Heap)(hb:H.objs b=some (.box T cs))(h0:cs[o]?=some (.int .u32 1)):
  ACall prog 299 [.ptr (some ⟨b,o,none⟩),.func f cap] H (λy H'=>y= .tuple []∧H'=H):=by
 intro g vs w k s;obtain⟨v0,v1,rfl,h0v,h1v⟩:=relvs2 k;cases h0v
 obtain⟨c0,z0⟩:=s.cellInt hb h0;refine(ciL ⟨b,o,none⟩ v1 1 w c0 aC).mono ?_;rintro e w' ⟨rfl,rfl⟩;exact⟨_,rfl,g,.tuple [],_,.id,tup0 g,s,rfl,rfl⟩
end
section
open Go Go.RowKit Go.Lib
set_option maxRecDepth 100000
theorem ccR(x:Nat)(W:World):Calls prog 65 #[.int .i32 (x:Int)] W λe w'=>e= .returned (.bool (yP x))∧∃q,w'=W.drewN q:=by
 by_cases h1:x=32
 ·subst h1
  go_enter func65,ntmps65
  go_wp2
  refine⟨rfl,_,by simp[results,results65];rfl,?_,0,rfl⟩;rfl
 by_cases h2:x=9
 ·subst h2
  go_enter func65,ntmps65
  go_wp2
  refine⟨rfl,_,by simp[results,results65];rfl,?_,0,rfl⟩;rfl
 by_cases h3:x=160
 ·subst h3
  go_enter func65,ntmps65
  go_wp2
  refine⟨rfl,_,by simp[results,results65];rfl,?_,0,rfl⟩;rfl
 by_cases h4:x=8239
 ·subst h4
  go_enter func65,ntmps65
  go_wp2
  refine⟨rfl,_,by simp[results,results65];rfl,?_,0,rfl⟩;rfl
 have b1:((x:Int)==32)=false:=by simp;omega
 have b2:((x:Int)==9)=false:=by simp;omega
 have b3:((x:Int)==160)=false:=by simp;omega
 have b4:((x:Int)==8239)=false:=by simp;omega
 have c1:¬(x:Int)=32:=by omega
 have c2:¬(x:Int)=9:=by omega
 have c3:¬(x:Int)=160:=by omega
 have c4:¬(x:Int)=8239:=by omega
 have hb:yP x=false:=by simp[yP,h1,h2,h3,h4]
 rw[hb]
 go_enter func65,ntmps65
 go_wp2
 refine⟨rfl,_,by simp[results,results65];rfl,?_,0,rfl⟩;rfl
theorem cbY(x:Nat)(W:World):Calls prog 225 #[.int .i32 (x:Int)] W λe w'=>e= .returned (.bool (aeQ x))∧∃q,w'=W.drewN q:=by
 have hd:aeQ x=(decide ((48:Int)≤(x:Int))&&decide ((x:Int)≤57)):=by
  unfold aeQ;rw[show decide (48≤x)=decide ((48:Int)≤(x:Int))from aQ.2 aA,show decide (x≤57)=decide ((x:Int)≤57)from aQ.2 aA]
 rw[hd];by_cases h1:(48:Int)≤(x:Int)
 ·rw[aU h1]
  go_enter func225,ntmps225
  go_wp2
  refine⟨rfl,_,by simp[results,results225];rfl,?_,0,rfl⟩;rfl
 rw[aS h1]
 go_enter func225,ntmps225
 go_wp2
 refine⟨rfl,_,by simp[results,results225];rfl,?_,0,rfl⟩;rfl
theorem relfn{f:FuncId}{v:Value}(h:RelV g (.func f []) v):v= .func (.func f) #[] #[]:=by
 cases h with
 |func _ _ vs hn _=>
  have:vs= #[]:=Array.eq_empty_of_size_eq_zero (by simpa using hn.symm);rw[this]
theorem aqG(p:Nat→Bool)(s:List UInt8):(acO p s).length≤s.length:=bC (afL p _ _) (aeC p _ _)
theorem biC{b:ByteArray}{l:List UInt8}(h:b.data.toList=l)(hl:l.length≤maxLen):RelV g (.str l) (.string b):=by
 have e:b=⟨l.toArray⟩:=by subst h;simp
 rw[e];exact .str l hl
theorem aoE(w:World):PredAt prog 65 #[] encR yP w:=λW x _=>ccR x W
theorem boW(w:World):PredAt prog 225 #[] encR aeQ w:=λW x _=>cbY x W
theorem trimFuncA(s:List UInt8):Fn 64 [.str s,.func 65 []] (.str (acO yP s)):=by
 intro H;refine .lib _ λg vs w k st=>?_;obtain⟨v,u,rfl,hv,hu⟩:=relvs2 k;cases hv with|str _ hs=>?_
 rw[relfn hu];refine(Tryz.strings_TrimFunc 65 #[] call65 yP ⟨s.toArray⟩ w (by show s.toArray.size≤_;rw[zQ]at hs;simpa using hs) st.utf8 (aoE w)).mono ?_;rintro e w' ⟨rfl,hb⟩;exact⟨_,rfl,biC (bxX yP aC _) (bC (aqG _ _) hs),hb⟩
theorem trimRightFuncA(s:List UInt8):Fn 145 [.str s,.func 65 []] (.str (abQ yP s.length s)):=by
 intro H;refine .lib _ λg vs w k st=>?_;obtain⟨v,u,rfl,hv,hu⟩:=relvs2 k;cases hv with|str _ hs=>?_
 rw[relfn hu];refine(Tryz.strings_TrimRightFunc 65 #[] call65 yP ⟨s.toArray⟩ w (by show s.toArray.size≤_;rw[zQ]at hs;simpa using hs) st.utf8 (aoE w)).mono ?_;rintro e w' ⟨rfl,hb⟩;exact⟨_,rfl,biC (alV yP aC _) (bC (afL _ _ _) hs),hb⟩
theorem trimLeftFuncA(s:List UInt8):Fn 69 [.str s,.func 65 []] (.str (aaV yP s.length s)):=by
 intro H;refine .lib _ λg vs w k st=>?_;obtain⟨v,u,rfl,hv,hu⟩:=relvs2 k;cases hv with|str _ hs=>?_
 rw[relfn hu];refine(Tryz.strings_TrimLeftFunc 65 #[] call65 yP ⟨s.toArray⟩ w (aoE w)).mono ?_;rintro e w' ⟨rfl,hb⟩;exact⟨_,rfl,biC (aiV yP _) (bC (aeC _ _ _) hs),hb⟩
theorem trimDigitsA(s:List UInt8):Fn 69 [.str s,.func 225 []] (.str (aaV aeQ s.length s)):=by
 intro H;refine .lib _ λg vs w k st=>?_;obtain⟨v,u,rfl,hv,hu⟩:=relvs2 k;cases hv with|str _ hs=>?_
 rw[relfn hu];refine(Tryz.strings_TrimLeftFunc 225 #[] call225 aeQ ⟨s.toArray⟩ w (boW w)).mono ?_;rintro e w' ⟨rfl,hb⟩;exact⟨_,rfl,biC (aiV aeQ _) (bC (aeC _ _ _) hs),hb⟩
theorem aoP(old new:List UInt8):∀(k:Nat)(s:List UInt8),(Lib.replaceK old new k s).length≤s.length+k*new.length
 |0,s=>by rw[Lib.replaceK];omega
 |k+1,s=>by
  rw[Lib.replaceK];split
  ·omega
  have h:=aoP old new k (s.drop ((Lib.index s old).toNat+old.length));simp only[aO,aV,bO]at *;rw[bY];omega
theorem azC(sub:List UInt8):∀(f:Nat)(s:List UInt8),Lib.countFrom sub f s≤f
 |0,s=>aZ _
 |f+1,s=>by
  rw[Lib.countFrom];split
  ·omega
  have:=azC sub f (s.drop ((Lib.index s sub).toNat+sub.length));omega
theorem akU(s old new:List UInt8):(Lib.replaceAll s old new).length≤s.length+(s.length+1)*new.length:=by
 unfold Lib.replaceAll Lib.replace;split
 ·omega
 refine bC (aoP _ _ _ _) (Nat.add_le_add_left (bD _ ?_) _);unfold Lib.replaceNum;rw[aN (.inl aC)];exact azC _ _ _
theorem replaceA(s old new:List UInt8)(hs:s.length≤100000)(ho:1≤old.length)(hn:new.length≤10):Fn 222 [.str s,.str old,.str new] (.str (Lib.replaceAll s old new)):=by
 intro H;refine .lib _ λg vs w k st=>?_;obtain⟨v,u,x,rfl,hv,hu,hx⟩:=relvs3 k;cases hv with|str _ hs2=>?_
 cases hu;cases hx
 obtain⟨m,hm⟩:=st.maxCell;have hc:Lib.countB ⟨s.toArray⟩ ⟨old.toArray⟩≤s.length+1:=by
  show Lib.count s old≤_;exact azC _ _ _
 have hcn:Lib.countB ⟨s.toArray⟩ ⟨old.toArray⟩*new.length≤(s.length+1)*10:=eN hc hn;have hl:=akU s old new;have hl2:(s.length+1)*new.length≤(s.length+1)*10:=bS _ hn;refine(Tryz.strings_ReplaceAll ⟨s.toArray⟩ ⟨old.toArray⟩ ⟨new.toArray⟩ m w (by show s.toArray.size<_;rw[eH];omega) hm (by show 1≤old.toArray.size;rw[eH];omega) (by show s.toArray.size+_*new.toArray.size≤_;rw[eH,eH];omega)).mono ?_;rintro e w' ⟨rfl,hb⟩;exact⟨_,rfl,.str _ (by rw[zQ];show(Lib.replaceAll s old new).length≤_;omega),hb⟩
def clV(b:Bool)(x:AV):Prop:=(b=false∧x= .nilIface)∨(b=true∧∃t y,x= .iface t y)
def anH(s:List UInt8):Bool:=match Lib.atoiAll s with| .ok _=>false|_=>true
theorem ACall.libE{P:Program}{f:FuncId}{xs:List AV}{H:Heap}(Y:AV→Prop)(h:∀g vs w,RelVs g xs vs→Sat g H w→Calls P f vs.toArray w (λe w'=>∃v y,e= .returned v∧RelV g y v∧Y y∧Below w.heap.size w w')):ACall P f xs H (λz H'=>Y z∧H'=H):=
 λg vs w k s=>(h g vs w k s).mono λ_ _ ⟨v,y,he,hr,hy,hb⟩=>⟨v,he,g,y,H,.id,hr,s.grow hb,hy,rfl⟩
theorem atoiAny(s:List UInt8)(hs:s.length≤100000)(H:Heap):ACall prog 102 [.str s] H (λz H'=>(∃v ev,z= .tuple [.int .i64 v,ev]∧clV (anH s) ev∧(anH s=false→Lib.atoiAll s= .ok v))∧H'=H):=by
 refine .libE _ λg vs w k st=>?_;obtain⟨x,rfl,hx⟩:=relvs1 k;cases hx with|str _ hs2=>?_
 have cell:∀n,n=4∨n=5→∃te pe,w.cell? ⟨n,0,none⟩=some (.iface te pe):=λn hn=>by
  obtain⟨te,pe,h⟩:=g.hinv.errs n hn;have hlt:=World.block_lt_of_cell? _ (a:=⟨n,0,none⟩) h;exact⟨te,pe,by rw[World.cell?_of_block (w:=g.base) (st.below.block n hlt)];exact h⟩
 cases hr:Lib.atoiAll s with
 |ok v=>
  refine(Tryz.strconv_Atoi_ok ⟨s.toArray⟩ (by show s.toArray.size≤_;rw[eH];omega) v hr w).mono ?_;rintro e w' ⟨rfl,hw⟩;refine⟨_,_,rfl,RelV.two (.int _ _) .nilIface,⟨v,_,rfl,.inl ⟨by unfold anH;rw[hr],rfl⟩,λ_=>rfl⟩,?_⟩;rcases hw with rfl|⟨t,rfl⟩
  ·exact Below.refl _ _
  exact⟨rfl,rfl,rfl,by rw[Lib.bytesWorld_size];omega,λk hk=>Lib.bytesWorld_at_old _ _ _ k hk⟩
 |range=>
  obtain⟨te,pe,hc⟩:=cell 5 (.inr rfl);refine(Tryz.strconv_Atoi_range ⟨s.toArray⟩ (by show s.toArray.size≤_;rw[eH];omega) hr _ w hc (.inr ⟨te,pe,rfl⟩)).mono ?_;rintro e w' ⟨N,rfl,_,_,hb⟩;exact⟨_,_,rfl,RelV.two (.int _ _) (.iface _ _ _ (.ptr _)),⟨_,_,rfl,.inr ⟨by unfold anH;rw[hr],_,_,rfl⟩,λh=>by unfold anH at h;rw[hr]at h;cases h⟩,hb⟩
 |_=>
  obtain⟨te,pe,hc⟩:=cell 4 (.inl rfl);refine(Tryz.strconv_Atoi_syntax ⟨s.toArray⟩ (by show s.toArray.size≤_;rw[eH];omega) (by show Lib.atoiAll s=_;rw[hr]<;>rfl) _ w hc (.inr ⟨te,pe,rfl⟩)).mono ?_;rintro e w' ⟨N,rfl,_,_,hb⟩;exact⟨_,_,rfl,RelV.two (.int _ _) (.iface _ _ _ (.ptr _)),⟨_,_,rfl,.inr ⟨by unfold anH;rw[hr],_,_,rfl⟩,λh=>by unfold anH at h;rw[hr]at h;cases h⟩,hb⟩
section
variable{P:Program}{env:Env}{H:Heap}{dst:Option Tmp}{ty:TypeId}{pos:String}{af:Array Edge}{gd:Option (Nat×Bool)}
theorem axK(hu:P.underlying T=some (.interface ms))(t:TypeId)(v:Value)(w:World):(Op.equal T (.iface t v) .nilIface).run P w= .ok false w:=by
 have key:∀d,(Op.equalIn (d+1) T (.iface t v) .nilIface).run P w= .ok false w:=λd=>by simp[Op.equalIn,underlying,hu]
 exact key 9999
theorem beI(hu:P.underlying T=some (.interface ms))(w:World):(Op.equal T .nilIface .nilIface).run P w= .ok true w:=by
 have key:∀d,(Op.equalIn (d+1) T .nilIface .nilIface).run P w= .ok true w:=λd=>by simp[Op.equalIn,underlying,hu]
 exact key 9999
theorem bmW{T':TypeId}{x:Operand}{b:Bool}{e:AV}(hu:P.underlying T=some (.interface ms))(hx:Ev env x e)(hb:clV b e):APure P ⟨dst,.binOp .neq T x (.const .nilIface) T',ty,pos,af,gd⟩ env (.bool b):=by
 intro g n a ka;obtain⟨v,he,hv⟩:=ev1 hx ka;rcases hb with⟨rfl,rfl⟩|⟨rfl,t,z,rfl⟩
 ·cases hv
  exact⟨_,.bool _,λw _=>aiI he rfl (by cases x<;>rfl) (auY rfl (beI hu w))⟩
 cases hv
 exact⟨_,.bool _,λw _=>aiI he rfl rfl (auY rfl (axK hu _ _ w))⟩
end
/-! ### digits alone -/
theorem ccH{n b0 b1 b2 b3:Nat}(h:128≤b0):128≤(decodeN n b0 b1 b2 b3).1:=by
 unfold decodeN
 repeat' split
 all_goals (simp only;omega)
theorem bcV{x:UInt8}{l:List UInt8}:aeQ (decodeL (x::l)).1=true↔isD x:=by
 rw[decodeL_N];simp only[eP];unfold aeQ isD;rcases bX x.toNat 128 with h|h
 ·rw[decodeN_ascii _ _ _ _ _ h];simp
 have:=@ccH (x::l).length x.toNat ((x::l).getD 1 0).toNat ((x::l).getD 2 0).toNat ((x::l).getD 3 0).toNat h;simp only[bN,aT];omega
theorem bwB{x:UInt8}{l:List UInt8}(h:isD x):(decodeL (x::l)).2=1:=by
 rw[decodeL_N];simp only[eP];rw[decodeN_ascii _ _ _ _ _ (by unfold isD at h;omega)]
theorem afJ:∀(f:Nat)(s:List UInt8),s.length≤f→(aaV aeQ f s=[]↔Digs s)
 |f,[],_=>by rw[anN];exact⟨λ_ _ h=>by simp at h,λ_=>rfl⟩
 |0,x::l,h=>by simp at h
 |f+1,x::l,h=>by
  rw[aqF _ _ aF];by_cases hx:isD x
  ·rw[aN (bcV.2 hx),bwB hx,List.drop_succ_cons,dL,afJ f l (by simpa using h)];exact⟨λq b hb=>by rcases dG.1 hb with rfl|hb;exact hx;exact q b hb,λq b hb=>q b (by simp[hb])⟩
  rw[aM (λq=>hx (bcV.1 q))];exact⟨λq=>by simp at q,λq=>absurd (q x aF) hx⟩
end
end Go.Proofs.YteedncdcbgplfaaGreatDoor
