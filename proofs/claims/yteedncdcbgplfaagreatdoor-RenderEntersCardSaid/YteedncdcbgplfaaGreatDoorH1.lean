import Derived.Test.YteedncdcbgplfaaGreatDoorLhk
import Derived.Test.YteedncdcbgplfaaGreatDoorL1
import Derived.Test.YteedncdcbgplfaaGreatDoorSrk
namespace Go.Proofs.YteedncdcbgplfaaGreatDoor
open Go.Proofs.Tryz
open Go Go.ChangeShapes Go.WideShapes Go.ChangeAt Go.RowKit
variable{W:World}
theorem Tryz.own:ownKnob Tryz.prog.godebug=none:=by kernel_rfl
theorem Tryz.laidOut:laidOutB Tryz.prog=true:=by kernel_rfl
def laidL:List (String×DataW Unit):=Rows.renderTextsRow.laid
theorem buT:(laidL.filter λx=>x.2.handleName?.isSome)=[]:=by kernel_rfl
theorem cbD(h:laidMetH prog laidL W):laidMet prog laidL W:=by
 unfold laidMetH at h;rw[buT]at h;exact h
theorem bqN{P:Program}{sp:Nat→Bool}{t:TypeId}{ms:Array (String×TypeId)}(ht:P.underlying t=some (.interface ms)){n:Nat}{cs:List Value}{nm:String}{d:DataW Unit}{pe:List MemPlace}
  (h:DataW.trod (λ_=>()) P W 0 sp false n t cs=some (.iface nm d,pe)):∃u v,cs=[.iface u v]:=by
 cases n with
 |zero=>simp[DataW.trod]at h
 |succ n=>
  match cs,h with
  | [],h=>simp[DataW.trod,ht]at h
  | [E],h=>
   cases E with
   |nilIface=>simp[DataW.trod,ht]at h
   |iface u v=>exact⟨u,v,rfl⟩
   |_=>simp[DataW.trod,ht]at h
  |_::_::_,h=>simp[DataW.trod,ht]at h
theorem awE{n:Nat}(h:∃fuel p vs T fz,W.heap[n]?=some (.cells vs T fz)∧DataW.trod (λ_=>()) prog W 0 (λ_=>true) false fuel 169 vs.toList=some p∧∃nm d,p.1= .iface nm d):∃te pe,W.cell? ⟨n,0,none⟩=some (.iface te pe):=by
 obtain⟨fuel,⟨d0,pe⟩,vs,T,fz,h1,h2,nm,d,rfl⟩:=h;obtain⟨u,v,hc⟩:=bqN underlying169 h2;refine⟨u,v,?_⟩;unfold World.cell?;rw[h1];have:vs= #[.iface u v]:=by rw[←Array.toList_inj];exact hc
 rw[this];rfl
theorem caN:6<prog.globals.size:=of_decide_eq_true (by kernel_rfl)
theorem chH:((begin prog (λ_ _=>0) default).world.heap[6]?).bind Obj.row?=some (#[.int .i64 0],3):=by kernel_rfl
theorem buE:prog.buildable 3=true:=by kernel_rfl
theorem buD:prog.cellTypes prog.depth 3=some [3]:=by kernel_rfl
theorem caO(hs:W.ShapedOpen prog):∃m,W.cell? ⟨6,0,none⟩=some (.int .i64 m):=cell_of_shapedOpen_int hs caN chH rfl buE buD underlying3
theorem ckF:agB 4 Rows.laid_internal_strconv_uint64pow10=some (Lib.pow10Tab.map λz=>Value.int .u64 z):=by kernel_rfl
def Holds(W:World)(n:Nat)(d:DataW Unit):Prop:=∀xs,agB 4 d=some xs→∃T fz,W.heap[n]?=some (.cells xs.toArray T fz)
set_option maxRecDepth 1000000 in
theorem some0:(agB 4 Rows.laid_math_bits_deBruijn64tab).isSome=true:=by kernel_rfl
theorem ceZ(hs:W.ShapedOpen prog)(hL:laidMetH prog laidL W):Inv W:=by
 obtain⟨ps,h,_,_⟩:=cbD hL;have p8:Holds W 8 Rows.laid_math_bits_deBruijn32tab:=λxs hx=>(adU h (b:=8) (by kernel_rfl) (t:=382) (by kernel_rfl) 4 (by kernel_rfl) hx).1;obtain⟨_,_,h⟩:=acL h (b:=8) (by kernel_rfl) (t:=382) (by kernel_rfl);have p9:Holds W 9 Rows.laid_math_bits_deBruijn64tab:=λxs hx=>(adU h (b:=9) (by kernel_rfl) (t:=383) (by kernel_rfl) 4 (by kernel_rfl) hx).1;obtain⟨_,_,h⟩:=acL h (b:=9) (by kernel_rfl) (t:=383) (by kernel_rfl);have p4:Holds W 7 Rows.laid_internal_strconv_uint64pow10:=λxs hx=>(adU h (b:=7) (by kernel_rfl) (t:=361) (by kernel_rfl) 4 (by kernel_rfl) hx).1;obtain⟨_,_,h⟩:=acL h (b:=7) (by kernel_rfl) (t:=361) (by kernel_rfl);have p3:Holds W 3 Rows.laid_unicode_utf8_acceptRanges:=λxs hx=>(adU h (b:=3) (by kernel_rfl) (t:=283) (by kernel_rfl) 4 (by kernel_rfl) hx).1;obtain⟨_,_,h⟩:=acL h (b:=3) (by kernel_rfl) (t:=283) (by kernel_rfl);obtain⟨⟨f7,q7,v7,T7,z7,a7,b7⟩,_,h⟩:=acL h (b:=5) (by kernel_rfl) (t:=169) (by kernel_rfl);obtain⟨⟨f6,q6,v6,T6,z6,a6,b6⟩,_,h⟩:=acL h (b:=4) (by kernel_rfl) (t:=169) (by kernel_rfl);have p0:Holds W 0 Rows.laid_tabard_locale_names:=λxs hx=>(adU h (b:=0) (by kernel_rfl) (t:=105) (by kernel_rfl) 4 (by kernel_rfl) hx).1;obtain⟨_,_,h⟩:=acL h (b:=0) (by kernel_rfl) (t:=105) (by kernel_rfl);have p1:Holds W 1 Rows.laid_tabard_locale_signs:=λxs hx=>(adU h (b:=1) (by kernel_rfl) (t:=107) (by kernel_rfl) 4 (by kernel_rfl) hx).1;obtain⟨_,_,h⟩:=acL h (b:=1) (by kernel_rfl) (t:=107) (by kernel_rfl);have p2:Holds W 2 Rows.laid_unicode_utf8_first:=λxs hx=>(adU h (b:=2) (by kernel_rfl) (t:=280) (by kernel_rfl) 4 (by kernel_rfl) hx).1;obtain⟨_,_,h⟩:=acL h (b:=2) (by kernel_rfl) (t:=280) (by kernel_rfl);exact{
   rows:=λn d hn xs hx=>by
     simp only[asI,dG,Prod.mk.injEq,gH,or_false]at hn;rcases hn with⟨rfl,rfl⟩|⟨rfl,rfl⟩|⟨rfl,rfl⟩|⟨rfl,rfl⟩|⟨rfl,rfl⟩|⟨rfl,rfl⟩|⟨rfl,rfl⟩
     ·exact p0 xs hx
     ·exact p1 xs hx
     ·exact p2 xs hx
     ·exact p3 xs hx
     ·exact p4 xs hx
     ·exact p8 xs hx
     exact p9 xs hx
   tab:=by
     obtain⟨T,fz,e⟩:=p4 _ ckF;exact⟨T,fz,e⟩
   errs:=λn hn=>by
     rcases hn with rfl|rfl
     ·exact awE ⟨f6,_,v6,T6,z6,a6,b6,_,_,rfl⟩
     exact awE ⟨f7,_,v7,T7,z7,a7,b7,_,_,rfl⟩
   max:=caO hs
   size:=by
     obtain⟨x9,h9⟩:=Option.isSome_iff_exists.1 some0;obtain⟨_,_,e⟩:=p9 x9 h9;have:=(cG.1 e).1;omega}
/-! ### a world that fits -/
noncomputable def low:Nat:=(World.holding prog default ⟨#[],#[],[]⟩).heap.size
noncomputable def lay(h:Array Obj)(b:Nat)(vs:Array Value):Array Obj:=h.modify b fun
 | .cells _ t fz=>.cells vs t fz
 |o=>o
noncomputable def asH(os:Os):World:=
 let w0:=World.holding prog os ⟨#[.cells #[.string ⟨#[118,97,108,117,101,32,111,117,116,32,111,102,32,114,97,110,103,101]⟩] 366,.cells #[.string ⟨#[105,110,118,97,108,105,100,32,115,121,110,116,97,120]⟩] 366],#[],[]⟩
 let h:=w0.heap
 let h:=lay h 0 ((agB 4 Rows.laid_tabard_locale_names).getD []).toArray
 let h:=lay h 1 ((agB 4 Rows.laid_tabard_locale_signs).getD []).toArray
 let h:=lay h 2 ((agB 4 Rows.laid_unicode_utf8_first).getD []).toArray
 let h:=lay h 3 ((agB 4 Rows.laid_unicode_utf8_acceptRanges).getD []).toArray
 let h:=lay h 7 ((agB 4 Rows.laid_internal_strconv_uint64pow10).getD []).toArray
 let h:=lay h 8 ((agB 4 Rows.laid_math_bits_deBruijn32tab).getD []).toArray
 let h:=lay h 9 ((agB 4 Rows.laid_math_bits_deBruijn64tab).getD []).toArray
 let h:=lay h 5 #[.iface 364 (.pointer (some ⟨low,0,none⟩))]
 let h:=lay h 4 #[.iface 364 (.pointer (some ⟨low+1,0,none⟩))]
 {w0 with heap:=h}
set_option maxRecDepth 1000000 in
theorem amX(os:Os)(args:Array Value):laidMetH prog laidL ((asH os).forCall (λ_ _=>0) ⟨#[],args,[]⟩).memory:=
 laidMet_of_run' 8 (by kernel_rfl) (by kernel_rfl)
theorem wf64{n:Int}(h:(Lit.int .u64 n).wf=true):0≤n∧n<18446744073709551616:=by
 simp[Lit.wf,IntKind.min,IntKind.max,IntKind.bits,IntKind.signed]at h;omega
theorem wfi64{n:Int}(h:(Lit.int .i64 n).wf=true): -9223372036854775808≤n∧n≤9223372036854775807:=by
 simp[Lit.wf,IntKind.min,IntKind.max,IntKind.bits,IntKind.signed]at h;omega
end Go.Proofs.YteedncdcbgplfaaGreatDoor
