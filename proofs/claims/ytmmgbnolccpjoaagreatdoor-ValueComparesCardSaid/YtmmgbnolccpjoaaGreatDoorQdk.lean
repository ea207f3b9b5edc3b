import Derived.Test.YtmmgbnolccpjoaaGreatDoorX1
namespace Go.Proofs.YtmmgbnolccpjoaaGreatDoor
open Go.Proofs.Tryz
open Go Go.RowKit
set_option maxRecDepth 100000
theorem mDisable(w:World):(callFunc 356 #[]).run prog w= .ok (.value (.tuple #[])) w:=run_call_mark0 func356 (by kernel_rfl) (by kernel_rfl) (by kernel_rfl) .disable (by kernel_rfl) w
theorem mEnable(w:World):(callFunc 358 #[]).run prog w= .ok (.value (.tuple #[])) w:=run_call_mark0 func358 (by kernel_rfl) (by kernel_rfl) (by kernel_rfl) .enable (by kernel_rfl) w
theorem mAcquire(a:Addr)(w:World):(callFunc 359 #[.pointer (some a)]).run prog w= .ok (.value (.tuple #[])) w:=run_call_marked func359 (by kernel_rfl) (by kernel_rfl) (by kernel_rfl) .acquire (by kernel_rfl) a w
theorem mRelease(a:Addr)(w:World):(callFunc 361 #[.pointer (some a)]).run prog w= .ok (.value (.tuple #[])) w:=run_call_marked func361 (by kernel_rfl) (by kernel_rfl) (by kernel_rfl) .releaseMerge (by kernel_rfl) a w
theorem avL(a:Addr)(x:Value)(u:FrameMode)(w:World)(hc:w.cell? a=some x)(hz:w.frozen? a=false):
  CallsD prog 351 #[.pointer (some a),.bool true] u w λe u' w'=>u'=u∧(e= .returned (.tuple #[])∧w'=w.drew.setCell a (.int .u32 1)):=by
 have hc':w.drew.cell? a=some x:=by go_simp
 have hz':w.drew.frozen? a=false:=by go_simp
 have hst:=run_call_store (P:=prog) func354 (by kernel_rfl) (by kernel_rfl) (by kernel_rfl) (by kernel_rfl) (k:=.u32) (y:=1) hc' hz'
 go_enter_d func351,ntmps351
 go_wp2
 go_region_calls
 all_goals (go_end0;exact⟨rfl,rfl⟩)
theorem iunlock(a:Addr)(w:World)(hc:w.cell? a=some (.int .i32 1))(hz:w.frozen? a=false):
  Calls prog 353 #[.pointer (some a)] w λe w'=>e= .returned (.tuple #[])∧w'=w.setCell a (.int .i32 0):=by
 have hd:=mDisable;have he:=mEnable;have hr:=mRelease;have hadd:=run_call_add (P:=prog) func362 (by kernel_rfl) (by kernel_rfl) (by kernel_rfl) .i32 (by kernel_rfl) (y:= -1) (s:=0) hc hz (by simp[go_sem];rfl);have hcv:=run_convert_to_unsafe (P:=prog) (src:=346) (dst:=330) underlying346 underlying330 (by kernel_rfl) hc
 go_enter func353,ntmps353
 go_wp2
 go_end0
 go_wp2
theorem asL(a:Addr)(u:FrameMode)(w:World)(hc:w.cell? a=some (.int .i32 1))(hz:w.frozen? a=false):
  CallsD prog 350 #[.pointer (some a)] u w λe u' w'=>u'=u∧(e= .returned (.tuple #[])∧w'=w.setCell a (.int .i32 0)):=by
 go_enter_d func350,ntmps350
 go_wp2_with (go_at_call 353;refine(iunlock a _ (by go_simp) (by go_simp)).mono ?_;rintro e w' ⟨rfl,rfl⟩)
 go_end0
 exact⟨rfl,rfl⟩
theorem ilock(a:Addr)(w:World)(hc:w.cell? a=some (.int .i32 0))(hz:w.frozen? a=false):
  Calls prog 352 #[.pointer (some a)] w λe w'=>e= .returned (.tuple #[])∧w'=w.setCell a (.int .i32 1):=by
 have hd:=mDisable;have he:=mEnable;have ha:=mAcquire;have hcas:=run_call_cas_hit (P:=prog) func357 (by kernel_rfl) (by kernel_rfl) (by kernel_rfl) .i32 (by kernel_rfl) (y:=1) hc hz;have hc':(w.setCell a (.int .i32 1)).cell? a=some (.int .i32 1):=World.cell?_setCell_same w a _ hc;have hcv:=run_convert_to_unsafe (P:=prog) (src:=346) (dst:=330) underlying346 underlying330 (by kernel_rfl) hc'
 go_enter func352,ntmps352
 go_wp2
 refine bodyPost_ret (results_none rfl _ _ _) rfl ?_
 go_wp2
theorem mlock(a:Addr)(w:World)(hc:w.cell? a=some (.int .i32 0))(hz:w.frozen? a=false):
  Calls prog 349 #[.pointer (some a)] w λe w'=>e= .returned (.tuple #[])∧w'=w.setCell a (.int .i32 1):=by
 go_enter func349,ntmps349
 go_wp2_with (go_at_call 352;refine(ilock a _ (by go_simp) (by go_simp)).mono ?_;rintro e w' ⟨rfl,rfl⟩)
 go_end0
 exact⟨rfl,rfl⟩
theorem bload(a:Addr)(x:Int)(w:World)(hc:w.cell? a=some (.int .u32 x)):
  Calls prog 336 #[.pointer (some a)] w λe w'=>e= .returned (.bool (x !=0))∧w'=w:=by
 have hl:=run_call_load (P:=prog) func348 (by kernel_rfl) (by kernel_rfl) (by kernel_rfl) .u32 (by kernel_rfl) hc
 go_enter func336,ntmps336
 go_wp2
 refine⟨rfl,.bool (x !=0),?_,rfl,rfl⟩;simp[results,results336]
theorem ckP(a:Addr)(f:Value)(x:Int)(w:World)(hc:w.cell? a=some (.int .u32 x))(hx:x≠0):
  Calls prog 306 #[.pointer (some a),f] w λe w'=>e= .returned (.tuple #[])∧w'=w:=by
 have hnot:∀(x:Bool)(w:World),(Op.unary .not (.bool x)).run prog w= .ok (.bool (!x)) w:=λ_ _=>rfl;have hxx:(x !=0)=true:=by simpa using hx
 go_enter func306,ntmps306
 go_wp2_with (go_at_call 336;refine(bload a x _ hc).mono ?_;rintro e w' ⟨rfl,rfl⟩;rw[hxx])
 go_end0
 exact⟨rfl,rfl⟩
set_option maxHeartbeats 1600000 in
theorem bpP(b off:Nat)(f:FuncId)(cap:Array Value)(hent:∀args w,(callFunc f args).run prog w= .ok (.enter f args) w)(w:World)(X:World→Prop)
  (h0:w.cell? ⟨b,off,none⟩=some (.int .u32 0))(h1:w.cell? ⟨b,off+1,none⟩=some (.int .i32 0))(f1:w.frozen? ⟨b,off+1,none⟩=false)
  (hf:Calls prog f cap (w.setCell ⟨b,off+1,none⟩ (.int .i32 1)) λe w2=>e= .returned (.tuple #[])∧X w2)
  (hX:∀w2,X w2→w2.cell? ⟨b,off,none⟩=some (.int .u32 0)∧w2.cell? ⟨b,off+1,none⟩=some (.int .i32 1)∧w2.frozen? ⟨b,off,none⟩=false∧w2.frozen? ⟨b,off+1,none⟩=false):
  Calls prog 337 #[.pointer (some ⟨b,off,none⟩),.func (.func f) #[] cap] w λe w'=>e= .returned (.tuple #[])∧∃w2,X w2∧w'=(w2.drew.setCell ⟨b,off,none⟩ (.int .u32 1)).setCell ⟨b,off+1,none⟩ (.int .i32 0):=by
 have hl:(w.setCell ⟨b,off+1,none⟩ (.int .i32 1)).cell? ⟨b,off,none⟩=some (.int .u32 0):=(World.cell?_setCell_other _ ⟨b,off+1,none⟩ ⟨b,off,none⟩ _ aF).trans h0;have hnot:∀(x:Bool)(w:World),(Op.unary .not (.bool x)).run prog w= .ok (.bool (!x)) w:=λ_ _=>rfl;have hz:((0:Int)!=0)=false:=rfl
 go_enter_defers func337,ntmps337
 go_wp2_with (go_at_call 349;refine(mlock ⟨b,off+1,none⟩ _ (by go_simp) (by go_simp)).mono ?_;rintro e w' ⟨rfl,rfl⟩)
 go_wp2_with (go_at_call 336;refine(bload ⟨b,off,none⟩ 0 _ hl).mono ?_;rintro e w' ⟨rfl,rfl⟩;rw[hz])
 refine hf.mono ?_;rintro e w2 ⟨rfl,hx⟩;obtain⟨x0,x1,z0,z1⟩:=hX w2 hx
 go_wp2
 refine leaves_cons (f:=351) (args:= #[.pointer (some ⟨b,off,none⟩),.bool true]) aF (by simp[go_sem]) ?_;refine(avL ⟨b,off,none⟩ (.int .u32 0) .returning _ x0 z0).mono ?_;rintro e u' w'' ⟨rfl,rfl,rfl⟩;refine leaves_cons (f:=350) (args:= #[.pointer (some ⟨b,off+1,none⟩)]) (by simp[settle]) (by simp[go_sem]) ?_;refine(asL ⟨b,off+1,none⟩ _ _ ?_ (by simp[z1])).mono ?_
 ·refine(World.cell?_setCell_other _ ⟨b,off,none⟩ ⟨b,off+1,none⟩ _ aF).trans ?_;rw[World.cell?_drew];exact x1
 rintro e u' w'' ⟨rfl,rfl,rfl⟩;simp[Leaves,settle,results,results337];exact⟨_,hx,rfl⟩
theorem ceC(b off:Nat)(f:FuncId)(cap:Array Value)(hent:∀args w,(callFunc f args).run prog w= .ok (.enter f args) w)(w:World)(X:World→Prop)
  (h0:w.cell? ⟨b,off,none⟩=some (.int .u32 0))(h1:w.cell? ⟨b,off+1,none⟩=some (.int .i32 0))(f1:w.frozen? ⟨b,off+1,none⟩=false)
  (hf:Calls prog f cap (w.setCell ⟨b,off+1,none⟩ (.int .i32 1)) λe w2=>e= .returned (.tuple #[])∧X w2)
  (hX:∀w2,X w2→w2.cell? ⟨b,off,none⟩=some (.int .u32 0)∧w2.cell? ⟨b,off+1,none⟩=some (.int .i32 1)∧w2.frozen? ⟨b,off,none⟩=false∧w2.frozen? ⟨b,off+1,none⟩=false):
  Calls prog 306 #[.pointer (some ⟨b,off,none⟩),.func (.func f) #[] cap] w λe w'=>e= .returned (.tuple #[])∧∃w2,X w2∧w'=(w2.drew.setCell ⟨b,off,none⟩ (.int .u32 1)).setCell ⟨b,off+1,none⟩ (.int .i32 0):=by
 have hnot:∀(x:Bool)(w:World),(Op.unary .not (.bool x)).run prog w= .ok (.bool (!x)) w:=λ_ _=>rfl;have hz:((0:Int)!=0)=false:=rfl;have hs:=bpP b off f cap hent w X h0 h1 f1 hf hX
 go_enter func306,ntmps306
 go_wp2_with (go_at_call 336;refine(bload ⟨b,off,none⟩ 0 _ h0).mono ?_;rintro e w' ⟨rfl,rfl⟩;rw[hz])
 go_wp2_with (go_at_call 337;refine hs.mono ?_;rintro e w' ⟨rfl,w2,hx,rfl⟩)
 go_end0
 exact⟨rfl,w2,hx,rfl⟩
theorem relnone{g:G}{v:Value}(h:RelV g (.tuple []) v):v= .tuple #[]:=by
 cases h with
 |tuple _ vs hn _=>
  have:vs= #[]:=Array.eq_empty_of_size_eq_zero (by simpa using hn.symm);rw[this]
theorem tup0(g:G):RelV g (.tuple []) (.tuple #[]):=.tuple _ _ rfl (λi c v hc _=>by simp at hc)
theorem brC{b o:Nat}{T:TypeId}{cs ds:List AV}(f:FuncId)(cap:List AV)(hent:∀args w,(callFunc f args).run prog w= .ok (.enter f args) w)(H:Heap)(hb:H.objs b=some (.box T cs))
  (h0:cs[o]?=some (.int .u32 0))(h1:cs[o+1]?=some (.int .i32 0))(d0:ds[o]?=some (.int .u32 0))(d1:ds[o+1]?=some (.int .i32 1))
  (hf:ACall prog f cap (H.set b (.box T (cs.set (o+1) (.int .i32 1)))) (λy H'=>y= .tuple []∧H'=H.set b (.box T ds))):
  ACall prog 306 [.ptr (some ⟨b,o,none⟩),.func f cap] H (λy H'=>y= .tuple []∧H'=H.set b (.box T ((ds.set o (.int .u32 1)).set (o+1) (.int .i32 0)))):=by
 intro g vs w k s;obtain⟨v0,v1,rfl,h0v,h1v⟩:=relvs2 k;cases h0v
 cases h1v with
 |func _ _ us hn hr=>
  obtain⟨c0,z0⟩:=s.cellInt hb h0;obtain⟨c1,z1⟩:=s.cellInt hb h1;have s1:=s.setCell (o:=o+1) (v:=.int .i32 1) hb (cW.1 h1).1 (RelV.int .i32 1);have hcall:=hf g us.toList _ ⟨by simpa using hn,λi c v hc hv=>hr i c v hc (by simpa using hv)⟩ s1;rw[show us.toList.toArray=us by simp]at hcall;refine(ceC b o f us hent w (λw2=>∃g',g.le g'∧Sat g' (H.set b (.box T ds)) w2) c0 c1 z1 (hcall.mono ?_) ?_).mono ?_
  ·rintro e w2 ⟨v,rfl,g',x,H',hle,hx,s2,rfl,rfl⟩;exact⟨by rw[relnone hx],g',hle,s2⟩
  ·rintro w2 ⟨g',hle,s2⟩;obtain⟨q0,y0⟩:=s2.cellInt (oS _ _ _) d0;obtain⟨q1,y1⟩:=s2.cellInt (oS _ _ _) d1;exact⟨q0,q1,y0,y1⟩
  rintro e w' ⟨rfl,w2,⟨g',hle,s2⟩,rfl⟩;have s3:=s2.drew.setCell (o:=o) (v:=.int .u32 1) (oS _ _ _) (cW.1 d0).1 (RelV.int .u32 1);rw[sS]at s3;have s4:=s3.setCell (o:=o+1) (v:=.int .i32 0) (oS _ _ _) (by rw[List.length_set];exact(cW.1 d1).1) (RelV.int .i32 0);rw[sS]at s4;exact⟨_,rfl,g',.tuple [],_,hle,tup0 g',s4,rfl,rfl⟩
theorem bwM{b o:Nat}{T:TypeId}{cs:List AV}(f:FuncId)(cap:List AV)(H:Heap)(hb:H.objs b=some (.box T cs))(h0:cs[o]?=some (.int .u32 1)):
  ACall prog 306 [.ptr (some ⟨b,o,none⟩),.func f cap] H (λy H'=>y= .tuple []∧H'=H):=by
 intro g vs w k s;obtain⟨v0,v1,rfl,h0v,h1v⟩:=relvs2 k;cases h0v
 obtain⟨c0,z0⟩:=s.cellInt hb h0;refine(ckP ⟨b,o,none⟩ v1 1 w c0 aC).mono ?_;rintro e w' ⟨rfl,rfl⟩;exact⟨_,rfl,g,.tuple [],_,.id,tup0 g,s,rfl,rfl⟩
end Go.Proofs.YtmmgbnolccpjoaaGreatDoor
