import Derived.Test.YteedncdcbgplfaaGreatDoorLhk
import Derived.Test.YteedncdcbgplfaaGreatDoorL1
import Derived.Test.YteedncdcbgplfaaGreatDoorSrk
namespace Go.Proofs.YteedncdcbgplfaaGreatDoor
open Go.Proofs.Tryz
open Go Go.ChangeShapes Go.WideShapes Go.ChangeAt Go.RowKit
variable{W:World}
theorem Tryz.own:ownKnob Tryz.prog.godebug=none:=by kernel_rfl
theorem Tryz.laidOut:laidOutB Tryz.prog=true:=by kernel_rfl
def laidL:List (String×DataW Unit):=Rows.renderTextsRow.laid
theorem bmS:(laidL.filter λx=>x.2.handleName?.isSome)=[]:=by kernel_rfl
theorem bqX(h:laidMetH prog laidL W):laidMet prog laidL W:=by
 unfold laidMetH at h;rw[bmS]at h;exact h
theorem bjC{P:Program}{sp:Nat→Bool}{t:TypeId}{ms:Array (String×TypeId)}(ht:P.underlying t=some (.interface ms)){n:Nat}{cs:List Value}{nm:String}{d:DataW Unit}{pe:List MemPlace}
  (h:DataW.trod (λ_=>()) P W 0 sp false n t cs=some (.iface nm d,pe)):∃u v,cs=[.iface u v]:=by
 cases n with
 |zero=>simp[DataW.trod]at h
 |succ n=>
  match cs,h with
  | [],h=>simp[DataW.trod,ht]at h
  | [E],h=>
   cases E with
   |nilIface=>simp[DataW.trod,ht]at h
   |iface u v=>exact⟨u,v,rfl⟩
   |_=>simp[DataW.trod,ht]at h
  |_::_::_,h=>simp[DataW.trod,ht]at h
theorem asZ{n:Nat}(h:∃fuel p vs T fz,W.heap[n]?=some (.cells vs T fz)∧DataW.trod (λ_=>()) prog W 0 (λ_=>true) false fuel 169 vs.toList=some p∧∃nm d,p.1= .iface nm d):∃te pe,W.cell? ⟨n,0,none⟩=some (.iface te pe):=by
 obtain⟨fuel,⟨d0,pe⟩,vs,T,fz,h1,h2,nm,d,rfl⟩:=h;obtain⟨u,v,hc⟩:=bjC underlying169 h2;refine⟨u,v,?_⟩;unfold World.cell?;rw[h1];have:vs= #[.iface u v]:=by rw[←Array.toList_inj];exact hc
 rw[this];rfl
theorem bqP:6<prog.globals.size:=of_decide_eq_true (by kernel_rfl)
theorem bwB:((begin prog (λ_ _=>0) default).world.heap[6]?).bind Obj.row?=some (#[.int .i64 0],3):=by kernel_rfl
theorem bmK:prog.buildable 3=true:=by kernel_rfl
theorem bmJ:prog.cellTypes prog.depth 3=some [3]:=by kernel_rfl
theorem bqQ(hs:W.ShapedOpen prog):∃m,W.cell? ⟨6,0,none⟩=some (.int .i64 m):=cell_of_shapedOpen_int hs bqP bwB rfl bmK bmJ underlying3
theorem byA:afD 4 Rows.laid_internal_strconv_uint64pow10=some (Lib.pow10Tab.map λz=>Value.int .u64 z):=by kernel_rfl
def Holds(W:World)(n:Nat)(d:DataW Unit):Prop:=∀xs,afD 4 d=some xs→∃T fz,W.heap[n]?=some (.cells xs.toArray T fz)
set_option maxRecDepth 1000000 in
theorem some0:(afD 4 Rows.laid_math_bits_deBruijn64tab).isSome=true:=by kernel_rfl
theorem beW(hs:W.ShapedOpen prog)(hL:laidMetH prog laidL W):Inv W:=by
 obtain⟨ps,h,_,_⟩:=bqX hL;have p8:Holds W 8 Rows.laid_math_bits_deBruijn32tab:=λxs hx=>(adH h (b:=8) (by kernel_rfl) (t:=382) (by kernel_rfl) 4 (by kernel_rfl) hx).1;obtain⟨_,_,h⟩:=acA h (b:=8) (by kernel_rfl) (t:=382) (by kernel_rfl);have p9:Holds W 9 Rows.laid_math_bits_deBruijn64tab:=λxs hx=>(adH h (b:=9) (by kernel_rfl) (t:=383) (by kernel_rfl) 4 (by kernel_rfl) hx).1;obtain⟨_,_,h⟩:=acA h (b:=9) (by kernel_rfl) (t:=383) (by kernel_rfl);have p4:Holds W 7 Rows.laid_internal_strconv_uint64pow10:=λxs hx=>(adH h (b:=7) (by kernel_rfl) (t:=361) (by kernel_rfl) 4 (by kernel_rfl) hx).1;obtain⟨_,_,h⟩:=acA h (b:=7) (by kernel_rfl) (t:=361) (by kernel_rfl);have p3:Holds W 3 Rows.laid_unicode_utf8_acceptRanges:=λxs hx=>(adH h (b:=3) (by kernel_rfl) (t:=283) (by kernel_rfl) 4 (by kernel_rfl) hx).1;obtain⟨_,_,h⟩:=acA h (b:=3) (by kernel_rfl) (t:=283) (by kernel_rfl);obtain⟨⟨f7,q7,v7,T7,z7,a7,b7⟩,_,h⟩:=acA h (b:=5) (by kernel_rfl) (t:=169) (by kernel_rfl);obtain⟨⟨f6,q6,v6,T6,z6,a6,b6⟩,_,h⟩:=acA h (b:=4) (by kernel_rfl) (t:=169) (by kernel_rfl);have p0:Holds W 0 Rows.laid_tabard_locale_names:=λxs hx=>(adH h (b:=0) (by kernel_rfl) (t:=105) (by kernel_rfl) 4 (by kernel_rfl) hx).1;obtain⟨_,_,h⟩:=acA h (b:=0) (by kernel_rfl) (t:=105) (by kernel_rfl);have p1:Holds W 1 Rows.laid_tabard_locale_signs:=λxs hx=>(adH h (b:=1) (by kernel_rfl) (t:=107) (by kernel_rfl) 4 (by kernel_rfl) hx).1;obtain⟨_,_,h⟩:=acA h (b:=1) (by kernel_rfl) (t:=107) (by kernel_rfl);have p2:Holds W 2 Rows.laid_unicode_utf8_first:=λxs hx=>(adH h (b:=2) (by kernel_rfl) (t:=280) (by kernel_rfl) 4 (by kernel_rfl) hx).1;obtain⟨_,_,h⟩:=acA h (b:=2) (by kernel_rfl) (t:=280) (by kernel_rfl);exact{
   rows:=λn d hn xs hx=>by
     simp only[aqE,dI,Prod.mk.injEq,List.not_mem_nil,or_false]at hn;rcases hn with⟨rfl,rfl⟩|⟨rfl,rfl⟩|⟨rfl,rfl⟩|⟨rfl,rfl⟩|⟨rfl,rfl⟩|⟨rfl,rfl⟩|⟨rfl,rfl⟩
     ·exact p0 xs hx
     ·exact p1 xs hx
     ·exact p2 xs hx
     ·exact p3 xs hx
     ·exact p4 xs hx
     ·exact p8 xs hx
     exact p9 xs hx
   tab:=by
     obtain⟨T,fz,e⟩:=p4 _ byA;exact⟨T,fz,e⟩
   errs:=λn hn=>by
     rcases hn with rfl|rfl
     ·exact asZ ⟨f6,_,v6,T6,z6,a6,b6,_,_,rfl⟩
     exact asZ ⟨f7,_,v7,T7,z7,a7,b7,_,_,rfl⟩
   max:=bqQ hs
   size:=by
     obtain⟨x9,h9⟩:=Option.isSome_iff_exists.1 some0;obtain⟨_,_,e⟩:=p9 x9 h9;have:=(bU.1 e).1;omega}
/-! ### a world that fits -/
noncomputable def low:Nat:=(World.holding prog default ⟨#[],#[],[]⟩).heap.size
noncomputable def lay(h:Array Obj)(b:Nat)(vs:Array Value):Array Obj:=h.modify b fun
 | .cells _ t fz=>.cells vs t fz
 |o=>o
noncomputable def ahT(os:Os):World:=
 let w0:=World.holding prog os ⟨#[.cells #[.string ⟨#[118,97,108,117,101,32,111,117,116,32,111,102,32,114,97,110,103,101]⟩] 366,.cells #[.string ⟨#[105,110,118,97,108,105,100,32,115,121,110,116,97,120]⟩] 366],#[],[]⟩
 let h:=w0.heap
 let h:=lay h 0 ((afD 4 Rows.laid_tabard_locale_names).getD []).toArray
 let h:=lay h 1 ((afD 4 Rows.laid_tabard_locale_signs).getD []).toArray
 let h:=lay h 2 ((afD 4 Rows.laid_unicode_utf8_first).getD []).toArray
 let h:=lay h 3 ((afD 4 Rows.laid_unicode_utf8_acceptRanges).getD []).toArray
 let h:=lay h 7 ((afD 4 Rows.laid_internal_strconv_uint64pow10).getD []).toArray
 let h:=lay h 8 ((afD 4 Rows.laid_math_bits_deBruijn32tab).getD []).toArray
 let h:=lay h 9 ((afD 4 Rows.laid_math_bits_deBruijn64tab).getD []).toArray
 let h:=lay h 5 #[.iface 364 (.pointer (some ⟨low,0,none⟩))]
 let h:=lay h 4 #[.iface 364 (.pointer (some ⟨low+1,0,none⟩))]
 {w0 with heap:=h}
set_option maxRecDepth 1000000 in
theorem aeE(os:Os)(args:Array Value):laidMetH prog laidL ((ahT os).forCall (λ_ _=>0) ⟨#[],args,[]⟩).memory:=
 laidMet_of_run' 8 (by kernel_rfl) (by kernel_rfl)
section
open Go Go.ChangeShapes Go.WideShapes Go.ChangeAt Go.RowKit
set_option maxRecDepth 100000
theorem wf64{n:Int}(h:(Lit.int .u64 n).wf=true):0≤n∧n<18446744073709551616:=by
 simp[Lit.wf,IntKind.min,IntKind.max,IntKind.bits,IntKind.signed]at h;omega
theorem wfi64{n:Int}(h:(Lit.int .i64 n).wf=true): -9223372036854775808≤n∧n≤9223372036854775807:=by
 simp[Lit.wf,IntKind.min,IntKind.max,IntKind.bits,IntKind.signed]at h;omega
theorem cellOf3:prog.cellsOf 3=1:=by kernel_rfl
theorem cellOf4:prog.cellsOf 4=1:=by kernel_rfl
theorem cellOf9:prog.cellsOf 9=1:=by kernel_rfl
theorem cellOf22:prog.cellsOf 22=1:=by kernel_rfl
theorem cellOf24:prog.cellsOf 24=1:=by kernel_rfl
theorem cellOf50:prog.cellsOf 50=1:=by kernel_rfl
theorem cellOf52:prog.cellsOf 52=3:=by kernel_rfl
theorem cellOf57:prog.cellsOf 57=2:=by kernel_rfl
theorem bvE{hI:Inv W}:Rd prog W hI 57 ItN.av (λ_=>True):=by
 intro H enc fuel x cs h;obtain⟨hl,hget⟩:=auG (hI:=hI) underlying57 h;rw[cellOf57]at hl
 match cs,hl with
 | [c0,c1],_=>
  obtain⟨a,_,hra⟩:=hget 0 _ rfl 0 1 rfl cellOf3 (akA (hI:=hI) underlying3);obtain⟨b,_,hrb⟩:=hget 1 _ rfl 1 1 rfl cellOf9 (axD (hI:=hI) underlying9);exact⟨⟨a,b⟩,trivial,RelCells.pieces (n:=1) hra hrb⟩
theorem bkV{hI:Inv W}:Rd prog W hI 52 SecN.av (λ_=>True):=by
 intro H enc fuel x cs h;obtain⟨hl,hget⟩:=auG (hI:=hI) underlying52 h;rw[cellOf52]at hl
 match cs,hl with
 | [c0,c1,c2],_=>
  obtain⟨a,_,hra⟩:=hget 0 _ rfl 0 1 rfl cellOf50 (bdC (hI:=hI) (sz:=2) underlying50 cellOf57 aA (λq=>⟨rfl,rfl⟩) bvE);obtain⟨b,_,hrb⟩:=hget 1 _ rfl 1 1 rfl cellOf4 (bvF (hI:=hI) underlying4);obtain⟨c,_,hrc⟩:=hget 2 _ rfl 2 1 rfl cellOf3 (akA (hI:=hI) underlying3);exact⟨⟨a,b,c⟩,trivial,RelCells.pieces (n:=1) hra (RelCells.pieces (n:=1) hrb hrc)⟩
theorem bkW{hI:Inv W}:Rd prog W hI 24 (λp:List SecN=>.agg [adV p .shared]) (λ_=>True):=by
 intro H enc fuel x cs h;obtain⟨hl,hget⟩:=auG (hI:=hI) underlying24 h;rw[cellOf24]at hl
 match cs,hl with
 | [c0],_=>
  obtain⟨a,_,hra⟩:=hget 0 _ rfl 0 1 rfl cellOf22 (bdC (hI:=hI) (sz:=3) underlying22 cellOf52 aA (λq=>⟨rfl,rfl⟩) bkV);exact⟨a,trivial,hra⟩
theorem apH{P:Program}{hI:Inv W}{t:TypeId}{α:Type}{fl:α→List AV}{ok:α→Prop}(hrd:Rd P W hI t (λa=>.agg (fl a)) ok){H:Type}{enc:TypeId×Value→H}{vs:Array Value}{d:DataW H}{ps:List MemPlace}(h:DataW.Trod enc P W 0 (λ_=>true) true t (.agg vs) d ps):
  ∃a,ok a∧RelV (g0 W hI) (.agg (fl a)) (.agg vs):=by
 obtain⟨fuel,hf⟩:=h;obtain⟨a,ha,hr⟩:=hrd enc fuel _ _ hf;exact⟨a,ha,.agg _ _ hr.1 hr.2⟩
end
end Go.Proofs.YteedncdcbgplfaaGreatDoor
