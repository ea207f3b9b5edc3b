/-
  What is asked of the memory that a law begins with: the package variables hold what they were laid with.
-/
import Derived.Test.YtojblnldfdeefaaGreatDoorRows
import Derived.Lib.ItoaNum
import Derived.WalkKit
namespace Go.Proofs.YtojblnldfdeefaaGreatDoor
open Go
def flatV:Nat→DataW Unit→Option (List Value)
  |0,_=>none
  |_+1,.lit (.int k m)=>some [.int k m]
  |_+1,.lit (.string s)=>some [.string ⟨s.toArray⟩]
  |_+1,.lit (.bool b)=>some [.bool b]
  |n+1,.agg ds=>ds.foldr (λd r=>match flatV n d,r with|some x,some y=>some (x++y)|_,_=>none) (some [])
  |_,_=>none
def laidT:List (Nat×DataW Unit):=[(0,Rows.laid_tabard_locale_names),(1,Rows.laid_tabard_locale_signs),(2,Rows.laid_tabard_funcs_names),(5,Rows.laid_unicode_utf8_first),(6,Rows.laid_unicode_utf8_acceptRanges),(10,Rows.laid_internal_strconv_uint64pow10),(11,Rows.laid_math_bits_deBruijn32tab),(12,Rows.laid_math_bits_deBruijn64tab)]
structure Inv (W:World):Prop where
  rows:∀n d,(n,d)∈laidT→∀xs,flatV 4 d=some xs→∃T fz,W.heap[n]?=some (.cells xs.toArray T fz)
  tab:∃t f,W.heap[10]?=some (.cells (Lib.pow10Tab.map λz=>Value.int .u64 z).toArray t f)
  errs:∀n,n=7∨n=8→∃te pe,W.cell? ⟨n,0,none⟩=some (.iface te pe)
  max:∃m,W.cell? ⟨9,0,none⟩=some (.int .i64 m)
  size:13≤W.heap.size
theorem laidT_lt{n:Nat}{d:DataW Unit}(h:(n,d)∈laidT):n<13:=by
  simp only[laidT,List.mem_cons,Prod.mk.injEq,List.not_mem_nil,or_false]at h;omega
theorem cell_same{w w':World}{b:Nat}(h:w'.heap[b]?=w.heap[b]?):w'.cell? ⟨b,0,none⟩=w.cell? ⟨b,0,none⟩:=by
  unfold World.cell?;rw[h]
theorem Inv.grow{w w':World}(h:Inv w)(hs:w.heap.size≤w'.heap.size)(hb:∀k,k<w.heap.size→w'.heap[k]?=w.heap[k]?):Inv w':=by
  have h10:=h.size;exact{
    rows:=λn d hn xs hx=>by rw[hb n (by have:=laidT_lt hn;omega)];exact h.rows n d hn xs hx
    tab:=by rw[hb 10 (by omega)];exact h.tab
    errs:=λn hn=>by rw[cell_same (hb n (by omega))];exact h.errs n hn
    max:=by rw[cell_same (hb 9 (by omega))];exact h.max
    size:=Nat.le_trans h10 hs}
end Go.Proofs.YtojblnldfdeefaaGreatDoor
namespace Go.Proofs.YtojblnldfdeefaaGreatDoor
open Go Go.RowKit
section
inductive Tail where
  |shared
  |full
  |own (t:Nat)
inductive AV where
  |bool (b:Bool)
  |int (k:IntKind) (n:Int)
  |str (s:List UInt8)
  |ptr (a:Option Addr)
  |iptr (cs:List AV)
  |slice (sz:Nat) (xs:List AV) (tl:Tail)
  |mslice (a:Option Addr) (len cap:Nat)
  |map (r:Option Nat)
  |func (f:FuncId) (cap:List AV)
  |nilFunc
  |iface (t:TypeId) (v:AV)
  |nilIface
  |agg (cs:List AV)
  |tuple (vs:List AV)
  |raw (v:Value)
def AV.cells:AV→List AV
  | .agg cs=>cs
  |v=>[v]
def AV.one:AV→Bool
  | .agg _| .tuple _| .raw _=>false
  |_=>true
def AV.row(sz:Nat)(x:AV):Prop:=x.cells.length=sz∧x.cells.all AV.one=true
structure G where
  base:World
  imm:Nat→Nat→Option Value
  tok:Nat→Option (Nat×Nat×Nat)
  ntok:Nat
  hinv:Inv base
structure G.le (g g':G):Prop where
  base:g'.base=g.base
  imm:∀b o v,g.imm b o=some v→g'.imm b o=some v
  ntok:g.ntok≤g'.ntok
  tok:∀t,t<g.ntok→g'.tok t=g.tok t
theorem G.le.refl(g:G):g.le g:=⟨rfl,λ_ _ _ h=>h,Nat.le_refl _,λ_ _=>rfl⟩
theorem G.le.trans{a b c:G}(h:a.le b)(k:b.le c):a.le c:=
  ⟨k.base.trans h.base,λx o v hv=>k.imm x o v (h.imm x o v hv),Nat.le_trans h.ntok k.ntok,λt ht=>(k.tok t (Nat.lt_of_lt_of_le ht h.ntok)).trans (h.tok t ht)⟩
def TailOK(g:G):Tail→Nat→Nat→Nat→Prop
  | .shared,_,_,_=>True
  | .full,_,_,n=>n=0
  | .own t,b,lo,n=>t<g.ntok∧(n=0∨g.tok t=some (b,lo,n))
theorem TailOK.mono{g g':G}(h:g.le g'){tl:Tail}{b lo n:Nat}(k:TailOK g tl b lo n):TailOK g' tl b lo n:=by
  cases tl with
  |shared=>trivial
  |full=>exact k
  |own t=>exact⟨Nat.lt_of_lt_of_le k.1 h.ntok,k.2.imp id λe=>(h.tok t k.1).trans e⟩
inductive RelV (g:G):AV→Value→Prop
  |bool (b):RelV g (.bool b) (.bool b)
  |int (k n):RelV g (.int k n) (.int k n)
  |str (s:List UInt8) (h:s.length≤maxLen):RelV g (.str s) (.string ⟨s.toArray⟩)
  |ptr (a):RelV g (.ptr a) (.pointer a)
  |iptr (cs:List AV) (b off:Nat) (vs:Nat→Value) (hi:∀i,i<cs.length→g.imm b (off+i)=some (vs i))
      (hr:∀i c,cs[i]?=some c→RelV g c (vs i)):RelV g (.iptr cs) (.pointer (some ⟨b,off,none⟩))
  |nilSlice (sz tl):RelV g (.slice sz [] tl) (.slice none 0 0)
  |voidSlice (sz) (a:Addr):RelV g (.slice sz [] .shared) (.slice (some a) 0 0)
  |slice (sz:Nat) (xs:List AV) (tl:Tail) (b off cap:Nat) (vs:Nat→Value) (hsz:∀x,x∈xs→x.row sz)
      (hi:∀i,i<xs.length*sz→g.imm b (off+i)=some (vs i))
      (hr:∀i j x c,xs[i]?=some x→x.cells[j]?=some c→RelV g c (vs (i*sz+j)))
      (hlen:xs.length≤cap) (hcap:cap≤maxLen) (htl:TailOK g tl b (off+xs.length*sz) ((cap-xs.length)*sz)):
      RelV g (.slice sz xs tl) (.slice (some ⟨b,off,none⟩) xs.length cap)
  |mslice (a l c):RelV g (.mslice a l c) (.slice a l c)
  |map (r):RelV g (.map r) (.map r)
  |func (f:FuncId) (cs:List AV) (vs:Array Value) (hn:cs.length=vs.size) (hr:∀(i:Nat) c v,cs[i]?=some c→vs[i]?=some v→RelV g c v):
      RelV g (.func f cs) (.func (.func f) #[] vs)
  |nilFunc:RelV g .nilFunc .nilFunc
  |iface (t a v) (h:RelV g a v):RelV g (.iface t a) (.iface t v)
  |nilIface:RelV g .nilIface .nilIface
  |agg (cs:List AV) (vs:Array Value) (hn:cs.length=vs.size) (hr:∀(i:Nat) c v,cs[i]?=some c→vs[i]?=some v→RelV g c v):
      RelV g (.agg cs) (.agg vs)
  |tuple (cs:List AV) (vs:Array Value) (hn:cs.length=vs.size) (hr:∀(i:Nat) c v,cs[i]?=some c→vs[i]?=some v→RelV g c v):
      RelV g (.tuple cs) (.tuple vs)
  |raw (v):RelV g (.raw v) v
theorem RelV.mono{g g':G}(h:g.le g'){a:AV}{v:Value}(k:RelV g a v):RelV g' a v:=by
  induction k with
  |bool b=>exact .bool b
  |int k n=>exact .int k n
  |str s hs=>exact .str s hs
  |ptr a=>exact .ptr a
  |iptr cs b off vs hi _ ih=>exact .iptr cs b off vs (λi hl=>h.imm _ _ _ (hi i hl)) ih
  |nilSlice sz tl=>exact .nilSlice sz tl
  |voidSlice sz a=>exact .voidSlice sz a
  |slice sz xs tl b off cap vs hsz hi _ hlen hcap htl ih=>exact .slice sz xs tl b off cap vs hsz (λi hl=>h.imm _ _ _ (hi i hl)) ih hlen hcap (htl.mono h)
  |mslice a l c=>exact .mslice a l c
  |map r=>exact .map r
  |func f cs vs hn _ ih=>exact .func f cs vs hn ih
  |nilFunc=>exact .nilFunc
  |iface t a v _ ih=>exact .iface t a v ih
  |nilIface=>exact .nilIface
  |agg cs vs hn _ ih=>exact .agg cs vs hn ih
  |tuple cs vs hn _ ih=>exact .tuple cs vs hn ih
  |raw v=>exact .raw v
def RelCells(g:G)(cs:List AV)(vs:Array Value):Prop:=cs.length=vs.size∧∀(i:Nat) c v,cs[i]?=some c→vs[i]?=some v→RelV g c v
theorem RelCells.mono{g g':G}(h:g.le g'){cs:List AV}{vs:Array Value}(k:RelCells g cs vs):RelCells g' cs vs:=
  ⟨k.1,λi c v hc hv=>(k.2 i c v hc hv).mono h⟩
theorem RelCells.at{g:G}{cs:List AV}{vs:Array Value}(k:RelCells g cs vs){i:Nat}{c:AV}(hc:cs[i]?=some c):∃v,vs[i]?=some v∧RelV g c v:=by
  have hi:i<cs.length:=(List.getElem?_eq_some_iff.1 hc).1;have hv:vs[i]?=some (vs[i]'(by have:=k.1;omega)):=Array.getElem?_eq_getElem _;exact⟨_,hv,k.2 i c _ hc hv⟩
theorem RelCells.nil(g:G):RelCells g [] #[]:=⟨rfl,λi c v hc _=>by simp at hc⟩
theorem RelCells.cons{g:G}{c:AV}{v:Value}{cs:List AV}{vs:Array Value}(h:RelV g c v)(k:RelCells g cs vs):RelCells g (c::cs) (#[v]++vs):=by
  refine⟨by simp[k.1];omega,λi c' v' hc hv=>?_⟩;cases i with
  |zero=>simp at hc;simp[Array.getElem?_append]at hv;subst hc;subst hv;exact h
  |succ i=>
    simp at hc;rw[Array.getElem?_append]at hv;simp at hv;exact k.2 i c' v' hc hv
theorem RelCells.append{g:G}{cs ds:List AV}{vs us:Array Value}(h:RelCells g cs vs)(k:RelCells g ds us):RelCells g (cs++ds) (vs++us):=by
  refine⟨by simp[h.1,k.1],λi c v hc hv=>?_⟩;rw[List.getElem?_append]at hc;rw[Array.getElem?_append]at hv;rw[h.1]at hc;split at hc
  · rename_i hlt
    rw[if_pos hlt]at hv;exact h.2 i c v hc hv
  rename_i hlt
  rw[if_neg hlt]at hv;exact k.2 _ c v hc hv
theorem RelCells.one{g:G}{c:AV}{v:Value}(h:RelV g c v):RelCells g [c] #[v]:=by
  have:=RelCells.cons h (RelCells.nil g);simpa using this
theorem RelCells.set{g:G}{cs:List AV}{vs:Array Value}(k:RelCells g cs vs)(o:Nat){c:AV}{v:Value}(h:RelV g c v):RelCells g (cs.set o c) (vs.setIfInBounds o v):=by
  refine⟨by simp[k.1],λi c' v' hc hv=>?_⟩;rw[List.getElem?_set]at hc;rw[Array.getElem?_setIfInBounds]at hv;by_cases ho:o=i
  · subst ho;have hl:=k.1;by_cases hlt:o<cs.length
    · simp[hlt]at hc;rw[if_pos rfl,if_pos (by omega)]at hv;simp at hv;subst hc;subst hv;exact h
    simp[hlt]at hc
  rw[if_neg ho]at hc hv;exact k.2 i c' v' hc hv
theorem RelV.cells_agg{g:G}{cs:List AV}{v:Value}(h:RelV g (.agg cs) v):∃vs,v= .agg vs∧RelCells g cs vs:=by
  cases h with
  |agg _ vs hn hr=>exact⟨vs,rfl,hn,hr⟩
inductive AObj where
  |box (T:TypeId) (cs:List AV)
  |map (es:List (AV×AV))
  |raw (o:Obj)
structure Heap where
  objs:Nat→Option AObj
  toks:Nat→Bool
def Heap.empty:Heap:=⟨λ_=>none,λ_=>false⟩
def Heap.set(H:Heap)(b:Nat)(o:AObj):Heap:={H with objs:=λk=>if k=b then some o else H.objs k}
def Heap.live(H:Heap)(t:Nat):Heap:={H with toks:=λk=>if k=t then true else H.toks k}
def Heap.kill(H:Heap)(t:Nat):Heap:={H with toks:=λk=>if k=t then false else H.toks k}
@[simp] theorem Heap.objs_set_same (H:Heap) (b:Nat) (o:AObj):(H.set b o).objs b=some o:=by simp[Heap.set]
theorem Heap.objs_set_ne(H:Heap){b c:Nat}(o:AObj)(h:c≠b):(H.set b o).objs c=H.objs c:=by simp[Heap.set,h]
@[simp] theorem Heap.toks_set (H:Heap) (b:Nat) (o:AObj):(H.set b o).toks=H.toks:=rfl
@[simp] theorem Heap.objs_live (H:Heap) (t:Nat):(H.live t).objs=H.objs:=rfl
@[simp] theorem Heap.objs_kill (H:Heap) (t:Nat):(H.kill t).objs=H.objs:=rfl
@[simp] theorem Heap.toks_live_same (H:Heap) (t:Nat):(H.live t).toks t=true:=by simp[Heap.live]
theorem Heap.set_set(H:Heap)(b:Nat)(o o':AObj):(H.set b o).set b o'=H.set b o':=by
  simp only[Heap.set,Heap.mk.injEq,and_true]
  funext k;split<;>rfl
structure Heap.le (H H':Heap):Prop where
  objs:∀b x,H.objs b=some x→H'.objs b=some x
  toks:∀t,H.toks t=true→H'.toks t=true
theorem Heap.le.refl(H:Heap):H.le H:=⟨λ_ _ h=>h,λ_ h=>h⟩
theorem Heap.le.trans{a b c:Heap}(h:a.le b)(k:b.le c):a.le c:=⟨λx o hx=>k.objs x o (h.objs x o hx),λt ht=>k.toks t (h.toks t ht)⟩
theorem Heap.le_set{H:Heap}{b:Nat}(h:H.objs b=none)(o:AObj):H.le (H.set b o):=
  ⟨λc x hx=>by rw[Heap.objs_set_ne _ _ (by rintro rfl;rw[h]at hx;cases hx)];exact hx,λ_ h=>h⟩
theorem Heap.le_live(H:Heap)(t:Nat):H.le (H.live t):=⟨λ_ _ h=>h,λk h=>by simp[Heap.live,h]⟩
def RelEnts(g:G)(es:List (AV×AV))(ents:Array MapEntry):Prop:=
  es.length=ents.size∧∀(i:Nat) k x e,es[i]?=some (k,x)→ents[i]?=some e→RelV g k e.key∧RelV g x e.val
theorem RelEnts.mono{g g':G}(h:g.le g'){es:List (AV×AV)}{ents:Array MapEntry}(k:RelEnts g es ents):RelEnts g' es ents:=
  ⟨k.1,λi c x e hc he=>⟨((k.2 i c x e hc he).1).mono h,((k.2 i c x e hc he).2).mono h⟩⟩
def RelMap(g:G)(es:List (AV×AV))(ents:Array MapEntry)(clock:Nat):Prop:=RelEnts g es ents∧MapKept.Stamped ents clock
theorem RelMap.mono{g g':G}(h:g.le g'){es:List (AV×AV)}{ents:Array MapEntry}{clock:Nat}(k:RelMap g es ents clock):RelMap g' es ents clock:=⟨k.1.mono h,k.2⟩
def Thaw(n:Nat)(fz:Nat×Nat):Prop:=fz=(0,0)∨n≤fz.1
def RowAt(w:World)(b:Nat)(vs:Array Value)(T:TypeId):Prop:=∃fz:Nat×Nat,w.heap[b]?=some (.cells vs T fz)∧Thaw vs.size fz
theorem RowAt.mk{w:World}{b:Nat}{vs:Array Value}{T:TypeId}(h:w.heap[b]?=some (.cells vs T (0,0))):RowAt w b vs T:=⟨_,h,.inl rfl⟩
theorem RowAt.same{w w':World}{b:Nat}{vs:Array Value}{T:TypeId}(h:RowAt w b vs T)(k:∀{o:Obj},w.heap[b]?=some o→w'.heap[b]?=some o):RowAt w' b vs T:=let⟨fz,h1,h2⟩:=h;⟨fz,k h1,h2⟩
theorem RowAt.cell{w:World}{b:Nat}{vs:Array Value}{T:TypeId}(h:RowAt w b vs T)(o:Nat):w.cell? ⟨b,o,none⟩=vs[o]?:=by
  obtain⟨fz,h,_⟩:=h;unfold World.cell?;rw[h];rfl
theorem RowAt.thaw{w:World}{b o:Nat}{vs:Array Value}{T:TypeId}(h:RowAt w b vs T)(ho:o<vs.size):w.frozen? ⟨b,o,none⟩=false:=by
  obtain⟨fz,h,ht⟩:=h;rcases ht with rfl|ht
  · simp[World.frozen?,h]
  obtain⟨lo,hi'⟩:=fz;simp only[World.frozen?,h,Bool.and_eq_false_iff,decide_eq_false_iff_not]
  left
  simp only at ht;omega
structure Sat (g:G) (H:Heap) (w:World):Prop where
  below:Below g.base.heap.size g.base w
  imm:∀b o v,g.imm b o=some v→w.cell? ⟨b,o,none⟩=some v
  box:∀b T cs,H.objs b=some (.box T cs)→∃vs:Array Value,RowAt w b vs T∧RelCells g cs vs
  map:∀b es,H.objs b=some (.map es)→∃ents clock,w.heap[b]?=some (.map ents clock)∧RelMap g es ents clock
  raw:∀b o,H.objs b=some (.raw o)→w.heap[b]?=some o
  own:∀b x,H.objs b=some x→g.base.heap.size≤b∧∀o,g.imm b o=none
  tok:∀t b lo n,H.toks t=true→g.tok t=some (b,lo,n)→n≠0→g.base.heap.size≤b∧H.objs b=none∧(∀o,lo≤o→g.imm b o=none)∧
    ∃(cells:Array Value)(T:TypeId),w.heap[b]?=some (.cells cells T (0,0))∧lo+n≤cells.size
  tokLt:∀t,H.toks t=true→t<g.ntok
  sep:∀t t' b lo n lo' n',H.toks t=true→H.toks t'=true→g.tok t=some (b,lo,n)→g.tok t'=some (b,lo',n')→n≠0→n'≠0→t=t'
theorem Sat.weaken{g:G}{H H':Heap}{w:World}(h:Sat g H w)(hl:H'.le H):Sat g H' w:={
  below:=h.below
  imm:=h.imm
  box b T cs hb:=h.box b T cs (hl.objs _ _ hb)
  map b es hb:=h.map b es (hl.objs _ _ hb)
  raw b o hb:=h.raw b o (hl.objs _ _ hb)
  own b x hb:=h.own b x (hl.objs _ _ hb)
  tok t b lo n ht hk hn:=by
    obtain⟨h1,h2,h3,h4⟩:=h.tok t b lo n (hl.toks t ht) hk hn;refine⟨h1,?_,h3,h4⟩;cases hb:H'.objs b with
    |none=>rfl
    |some x=>have:=hl.objs _ _ hb;rw[h2]at this;cases this
  tokLt t ht:=h.tokLt t (hl.toks t ht)
  sep t t' b lo n lo' n' ht ht':=h.sep t t' b lo n lo' n' (hl.toks t ht) (hl.toks t' ht')}
theorem Sat.drew{g:G}{H:Heap}{w:World}(h:Sat g H w):Sat g H w.drew:={
  below:=h.below.drew
  imm:=h.imm
  box:=h.box
  map:=h.map
  raw:=h.raw
  own:=h.own
  tok:=h.tok
  tokLt:=h.tokLt
  sep:=h.sep}
theorem Sat.obj_lt{g:G}{H:Heap}{w:World}(h:Sat g H w){b:Nat}{x:AObj}(hb:H.objs b=some x):b<w.heap.size:=by
  have key:∀{o:Obj},w.heap[b]?=some o→b<w.heap.size:=λhe=>(Array.getElem?_eq_some_iff.1 he).1;cases x with
  |box T cs=>obtain⟨vs,⟨_,hv,_⟩,_⟩:=h.box b T cs hb;exact key hv
  |map es=>obtain⟨e,c,hv,_⟩:=h.map b es hb;exact key hv
  |raw o=>exact key (h.raw b o hb)
theorem Sat.new_none{g:G}{H:Heap}{w:World}(h:Sat g H w):H.objs w.heap.size=none:=by
  cases hb:H.objs w.heap.size with
  |none=>rfl
  |some x=>have:=h.obj_lt hb;omega
theorem Sat.imm_lt{g:G}{H:Heap}{w:World}(h:Sat g H w){b o:Nat}{v:Value}(hb:g.imm b o=some v):b<w.heap.size:=
  World.block_lt_of_cell? _ (a:=⟨b,o,none⟩) (h.imm b o v hb)
theorem Sat.imm_new{g:G}{H:Heap}{w:World}(h:Sat g H w)(o:Nat):g.imm w.heap.size o=none:=by
  cases hb:g.imm w.heap.size o with
  |none=>rfl
  |some x=>have:=h.imm_lt hb;omega
theorem heap_alloc_old(w:World)(o:Obj){b:Nat}{x:Obj}(h:w.heap[b]?=some x):(w.alloc o).heap[b]?=some x:=by
  have hb:b<w.heap.size:=(Array.getElem?_eq_some_iff.1 h).1;rw[Below.heap_alloc w o b hb];exact h
theorem heap_alloc_new(w:World)(o:Obj):(w.alloc o).heap[w.heap.size]?=some o:=by
  show(w.heap.push o)[w.heap.size]?=_;simp
theorem Sat.alloc{g:G}{H:Heap}{w:World}(h:Sat g H w)(o:Obj):Sat g H (w.alloc o):={
  below:=h.below.alloc (h.below.size) o
  imm b o' v hv:=by
    rw[World.cell?_alloc_old _ _ _ (by have:=h.imm_lt hv;simp;omega)];exact h.imm b o' v hv
  box b T cs hb:=let⟨vs,hv,hr⟩:=h.box b T cs hb;⟨vs,hv.same (heap_alloc_old _ _),hr⟩
  map b es hb:=let⟨e,c,hv,hr⟩:=h.map b es hb;⟨e,c,heap_alloc_old _ _ hv,hr⟩
  raw b o' hb:=heap_alloc_old _ _ (h.raw b o' hb)
  own:=h.own
  tok t b lo n ht hk hn:=let⟨h1,h2,h3,c,T,h4,h5⟩:=h.tok t b lo n ht hk hn;⟨h1,h2,h3,c,T,heap_alloc_old _ _ h4,h5⟩
  tokLt:=h.tokLt
  sep:=h.sep}
theorem Sat.claim{g:G}{H:Heap}{w:World}(h:Sat g H w){b:Nat}(hb:g.base.heap.size≤b)(hi:∀o,g.imm b o=none)(ht:∀t lo n,H.toks t=true→g.tok t=some (b,lo,n)→n=0)
    (x:AObj)(hx:match x with
      | .box T cs=>∃vs:Array Value,RowAt w b vs T∧RelCells g cs vs
      | .map es=>∃ents clock,w.heap[b]?=some (.map ents clock)∧RelMap g es ents clock
      | .raw o=>w.heap[b]?=some o):Sat g (H.set b x) w:={
  below:=h.below
  imm:=h.imm
  box c T cs hc:=by
    by_cases e:c=b
    · subst e;rw[Heap.objs_set_same]at hc;cases hc;exact hx
    rw[Heap.objs_set_ne _ _ e]at hc;exact h.box c T cs hc
  map c es hc:=by
    by_cases e:c=b
    · subst e;rw[Heap.objs_set_same]at hc;cases hc;exact hx
    rw[Heap.objs_set_ne _ _ e]at hc;exact h.map c es hc
  raw c o hc:=by
    by_cases e:c=b
    · subst e;rw[Heap.objs_set_same]at hc;cases hc;exact hx
    rw[Heap.objs_set_ne _ _ e]at hc;exact h.raw c o hc
  own c y hc:=by
    by_cases e:c=b
    · subst e;exact⟨hb,hi⟩
    rw[Heap.objs_set_ne _ _ e]at hc;exact h.own c y hc
  tok t c lo n hl hk hn:=by
    obtain⟨h1,h2,h3,h4⟩:=h.tok t c lo n hl hk hn;refine⟨h1,?_,h3,h4⟩;by_cases e:c=b
    · subst e;exact absurd (ht t lo n hl hk) hn
    rw[Heap.objs_set_ne _ _ e];exact h2
  tokLt:=h.tokLt
  sep:=h.sep}
theorem Sat.tok_new{g:G}{H:Heap}{w:World}(h:Sat g H w):∀t lo n,H.toks t=true→g.tok t=some (w.heap.size,lo,n)→n=0:=by
  intro t lo n hl hk;rcases Nat.eq_zero_or_pos n with h0|h0
  · exact h0
  obtain⟨_,_,_,c,T,h4,_⟩:=h.tok t _ lo n hl hk (by omega);have:=(Array.getElem?_eq_some_iff.1 h4).1;omega
theorem Sat.new_box{g:G}{H:Heap}{w:World}(h:Sat g H w)(T:TypeId){cs:List AV}{vs:Array Value}(hr:RelCells g cs vs):
    Sat g (H.set w.heap.size (.box T cs)) (w.alloc (.cells vs T)):=
  (h.alloc (.cells vs T)).claim (by have:=h.below.size;exact this) h.imm_new h.tok_new (.box T cs) ⟨vs,.mk (heap_alloc_new _ _),hr⟩
end
section
def G.addImm(g:G)(b:Nat)(f:Nat→Option Value):G:={g with imm:=λc o=>if c=b then f o else g.imm c o}
def G.addTok(g:G)(r:Option (Nat×Nat×Nat)):G:={g with tok:=λt=>if t=g.ntok then r else g.tok t,ntok:=g.ntok+1}
theorem G.le_addImm{g:G}{b:Nat}{f:Nat→Option Value}(h:∀o v,g.imm b o=some v→f o=some v):g.le (g.addImm b f):=by
  refine⟨rfl,λc o v hv=>?_,Nat.le_refl _,λ_ _=>rfl⟩;show(if c=b then f o else g.imm c o)=some v;by_cases e:c=b
  · subst e;rw[if_pos rfl];exact h o v hv
  rw[if_neg e];exact hv
theorem G.le_addTok(g:G)(r:Option (Nat×Nat×Nat)):g.le (g.addTok r):=by
  refine⟨rfl,λ_ _ _ h=>h,Nat.le_succ _,λt ht=>?_⟩;show(if t=g.ntok then r else g.tok t)=_;rw[if_neg (by omega)]
@[simp] theorem G.imm_addTok (g:G) (r:Option (Nat×Nat×Nat)):(g.addTok r).imm=g.imm:=rfl
theorem G.imm_addImm(g:G)(b:Nat)(f:Nat→Option Value)(o:Nat):(g.addImm b f).imm b o=f o:=by simp[G.addImm]
theorem G.imm_addImm_ne(g:G){b c:Nat}(f:Nat→Option Value)(o:Nat)(h:c≠b):(g.addImm b f).imm c o=g.imm c o:=by simp[G.addImm,h]
theorem G.tok_addTok(g:G)(r:Option (Nat×Nat×Nat)):(g.addTok r).tok g.ntok=r:=by simp[G.addTok]
theorem G.tok_addTok_ne(g:G)(r:Option (Nat×Nat×Nat)){t:Nat}(h:t≠g.ntok):(g.addTok r).tok t=g.tok t:=by simp[G.addTok,h]
def Heap.drop(H:Heap)(b:Nat):Heap:={H with objs:=λk=>if k=b then none else H.objs k}
theorem Heap.drop_le(H:Heap)(b:Nat):(H.drop b).le H:=by
  refine⟨λc x hc=>?_,λ_ h=>h⟩;simp only[Heap.drop]at hc;split at hc
  · cases hc
  exact hc
theorem Heap.kill_le(H:Heap)(t:Nat):(H.kill t).le H:=by
  refine⟨λ_ _ h=>h,λk h=>?_⟩;simp only[Heap.kill]at h;split at h
  · cases h
  exact h
theorem Heap.objs_drop(H:Heap)(b:Nat):(H.drop b).objs b=none:=by simp[Heap.drop]
theorem Sat.addImm{g:G}{H:Heap}{w:World}(h:Sat g H w){b:Nat}{f:Nat→Option Value}(hf:∀o v,f o=some v→w.cell? ⟨b,o,none⟩=some v)
    (hold:∀o v,g.imm b o=some v→f o=some v)(hown:H.objs b=none)
    (htok:∀t lo n o,H.toks t=true→g.tok t=some (b,lo,n)→n≠0→lo≤o→f o=none):Sat (g.addImm b f) H w:=by
  have hle:=G.le_addImm hold;refine⟨h.below,λc o v hv=>?_,λc T cs hc=>?_,λc es hc=>?_,h.raw,λc x hc=>?_,λt c lo n ht hk hn=>?_,h.tokLt,h.sep⟩
  · by_cases e:c=b
    · subst e;rw[G.imm_addImm]at hv;exact hf o v hv
    rw[G.imm_addImm_ne _ _ _ e]at hv;exact h.imm c o v hv
  · obtain⟨vs,hv,hr⟩:=h.box c T cs hc;exact⟨vs,hv,hr.mono hle⟩
  · obtain⟨en,cl,hv,hr⟩:=h.map c es hc;exact⟨en,cl,hv,hr.mono hle⟩
  · refine⟨(h.own c x hc).1,λo=>?_⟩;have e:c≠b:=by rintro rfl;rw[hown]at hc;cases hc
    rw[G.imm_addImm_ne _ _ _ e];exact(h.own c x hc).2 o
  obtain⟨h1,h2,h3,h4⟩:=h.tok t c lo n ht hk hn;refine⟨h1,h2,λo ho=>?_,h4⟩;by_cases e:c=b
  · subst e;rw[G.imm_addImm];exact htok t lo n o ht hk hn ho
  rw[G.imm_addImm_ne _ _ _ e];exact h3 o ho
theorem Sat.addTok{g:G}{H:Heap}{w:World}(h:Sat g H w)(r:Option (Nat×Nat×Nat))
    (hr:∀b lo n,r=some (b,lo,n)→n≠0→g.base.heap.size≤b∧H.objs b=none∧(∀o,lo≤o→g.imm b o=none)∧
      (∃(cells:Array Value)(T:TypeId),w.heap[b]?=some (.cells cells T (0,0))∧lo+n≤cells.size)∧
      ∀t lo' n',H.toks t=true→g.tok t=some (b,lo',n')→n'=0):Sat (g.addTok r) (H.live g.ntok) w:=by
  have hle:=G.le_addTok g r;have live:∀t,(H.live g.ntok).toks t=true→t=g.ntok∨(t≠g.ntok∧H.toks t=true):=by
    intro t ht;simp only[Heap.live]at ht;by_cases e:t=g.ntok
    · exact .inl e
    rw[if_neg e]at ht;exact .inr ⟨e,ht⟩
  refine⟨h.below,h.imm,λc T cs hc=>?_,λc es hc=>?_,h.raw,h.own,λt c lo n ht hk hn=>?_,λt ht=>?_,λt t' b lo n lo' n' ht ht' hk hk' hn hn'=>?_⟩
  · obtain⟨vs,hv,hr⟩:=h.box c T cs hc;exact⟨vs,hv,hr.mono hle⟩
  · obtain⟨en,cl,hv,hr⟩:=h.map c es hc;exact⟨en,cl,hv,hr.mono hle⟩
  · rcases live t ht with e|⟨e,ht⟩
    · subst e;rw[G.tok_addTok]at hk;obtain⟨h1,h2,h3,h4,_⟩:=hr c lo n hk hn;exact⟨h1,h2,h3,h4⟩
    rw[G.tok_addTok_ne _ _ e]at hk;exact h.tok t c lo n ht hk hn
  · show t<g.ntok+1;rcases live t ht with e|⟨_,ht⟩
    · omega
    have:=h.tokLt t ht;omega
  rcases live t ht with e|⟨e,ht⟩<;>rcases live t' ht' with e'|⟨e',ht'⟩
  · omega
  · subst e;rw[G.tok_addTok]at hk;rw[G.tok_addTok_ne _ _ e']at hk';exact absurd ((hr b lo n hk hn).2.2.2.2 t' lo' n' ht' hk') hn'
  · subst e';rw[G.tok_addTok]at hk';rw[G.tok_addTok_ne _ _ e]at hk;exact absurd ((hr b lo' n' hk' hn').2.2.2.2 t lo n ht hk) hn
  rw[G.tok_addTok_ne _ _ e]at hk;rw[G.tok_addTok_ne _ _ e']at hk';exact h.sep t t' b lo n lo' n' ht ht' hk hk' hn hn'
theorem Sat.new_imm{g:G}{H:Heap}{w:World}(h:Sat g H w)(vs:Array Value)(T:TypeId)(fz:Nat×Nat)(k:Nat):
    Sat (g.addImm w.heap.size λo=>if o<k then vs[o]? else none) H (w.alloc (.cells vs T fz)):=by
  refine(h.alloc _).addImm (λo v hv=>?_) (λo v hv=>by rw[h.imm_new]at hv;cases hv) h.new_none (λt lo n o ht hk hn _=>absurd (h.tok_new t lo n ht hk) hn);split at hv
  · unfold World.cell?;rw[heap_alloc_new];simpa using hv
  cases hv
theorem Sat.box_cell{g:G}{H:Heap}{w:World}(h:Sat g H w){b:Nat}{T:TypeId}{cs:List AV}(hb:H.objs b=some (.box T cs)){o:Nat}{c:AV}(hc:cs[o]?=some c):
    ∃v,w.cell? ⟨b,o,none⟩=some v∧RelV g c v:=by
  obtain⟨vs,hv,hr⟩:=h.box b T cs hb;obtain⟨v,hv',hrel⟩:=hr.at hc;exact⟨v,by rw[hv.cell];exact hv',hrel⟩
theorem heap_other{w w':World}{b c:Nat}(h:∀k,k≠b→w'.heap[k]?=w.heap[k]?)(hc:c≠b){x:Obj}(hx:w.heap[c]?=some x):w'.heap[c]?=some x:=(h c hc).trans hx
theorem Sat.turn{g:G}{H:Heap}{w w':World}(h:Sat g H w){b:Nat}{x x':AObj}(hb:H.objs b=some x)
    (hoth:∀k,k≠b→w'.heap[k]?=w.heap[k]?)(hsz:w'.heap.size=w.heap.size)(hos:w'.os=w.os)(htp:w'.tape=w.tape)(hout:w'.output=w.output)
    (hx:match x' with
      | .box T cs=>∃vs:Array Value,RowAt w' b vs T∧RelCells g cs vs
      | .map es=>∃ents clock,w'.heap[b]?=some (.map ents clock)∧RelMap g es ents clock
      | .raw o=>w'.heap[b]?=some o):Sat g (H.set b x') w':=by
  obtain⟨hbase,himm⟩:=h.own b x hb;have hcell:∀(c o:Nat),c≠b→w'.cell? ⟨c,o,none⟩=w.cell? ⟨c,o,none⟩:=λc o hc=>World.cell?_of_block (w:=w) (hoth c hc);have h0:Sat g (H.drop b) w':=by
    refine⟨h.below.trans ⟨hos,htp,hout,by omega,λk hk=>hoth k (by omega)⟩,λc o v hv=>?_,λc T cs hc=>?_,λc es hc=>?_,λc o hc=>?_,λc y hc=>h.own c y ((H.drop_le b).objs _ _ hc),λt c lo n ht hk hn=>?_,h.tokLt,h.sep⟩
    · have e:c≠b:=by rintro rfl;rw[himm]at hv;cases hv
      rw[hcell c o e];exact h.imm c o v hv
    · have e:c≠b:=by rintro rfl;rw[Heap.objs_drop]at hc;cases hc
      obtain⟨vs,hv,hr⟩:=h.box c T cs ((H.drop_le b).objs _ _ hc);exact⟨vs,hv.same (heap_other hoth e),hr⟩
    · have e:c≠b:=by rintro rfl;rw[Heap.objs_drop]at hc;cases hc
      obtain⟨en,cl,hv,hr⟩:=h.map c es ((H.drop_le b).objs _ _ hc);exact⟨en,cl,heap_other hoth e hv,hr⟩
    · have e:c≠b:=by rintro rfl;rw[Heap.objs_drop]at hc;cases hc
      exact heap_other hoth e (h.raw c o ((H.drop_le b).objs _ _ hc))
    obtain⟨h1,h2,h3,cl,T,h4,h5⟩:=h.tok t c lo n ht hk hn;have e:c≠b:=by rintro rfl;rw[h2]at hb;cases hb
    refine⟨h1,?_,h3,cl,T,heap_other hoth e h4,h5⟩;simp[Heap.drop,e,h2]
  have h1:=h0.claim hbase himm (λt lo n ht hk=>by
    rcases Nat.eq_zero_or_pos n with e|e
    · exact e
    have:=(h.tok t b lo n ht hk (by omega)).2.1;rw[hb]at this;cases this) x' hx
  have e:(H.drop b).set b x'=H.set b x':=by
    simp only[Heap.set,Heap.drop,Heap.mk.injEq,and_true]
    funext k;split<;>simp_all
  rwa[e]at h1
theorem Sat.store{g:G}{H:Heap}{w:World}(h:Sat g H w){b:Nat}{T:TypeId}{cs ds:List AV}{vs us:Array Value}(hb:H.objs b=some (.box T cs))
    (hw:w.heap[b]?=some (.cells vs T (0,0)))(hr:RelCells g ds us):Sat g (H.set b (.box T ds)) {w with heap:=w.heap.setIfInBounds b (.cells us T (0,0))}:=by
  refine h.turn hb (λk hk=>?_) (by simp) rfl rfl rfl ⟨us,.mk ?_,hr⟩
  · simp only[Array.getElem?_setIfInBounds];rw[if_neg (by omega)]
  have hlt:b<w.heap.size:=(Array.getElem?_eq_some_iff.1 hw).1;simp[hlt]
theorem Sat.freeze{g:G}{H:Heap}{w:World}(h:Sat g H w){b:Nat}{T:TypeId}{cs:List AV}(hb:H.objs b=some (.box T cs)):
    ∃vs:Array Value,RelCells g cs vs∧(∀o v,vs[o]?=some v→(g.addImm b (λo=>vs[o]?)).imm b o=some v)∧g.le (g.addImm b (λo=>vs[o]?))∧Sat (g.addImm b (λo=>vs[o]?)) (H.drop b) w:=by
  obtain⟨vs,hv,hr⟩:=h.box b T cs hb;have himm:=(h.own b _ hb).2;refine⟨vs,hr,λo v hv=>by rw[G.imm_addImm];exact hv,G.le_addImm (λo v hv=>by rw[himm]at hv;cases hv),?_⟩;refine(h.weaken (H.drop_le b)).addImm (λo v ho=>by rw[hv.cell];exact ho) (λo v hv=>by rw[himm]at hv;cases hv) (Heap.objs_drop _ _) (λt lo n o ht hk hn _=>?_);have:=(h.tok t b lo n ht hk hn).2.1;rw[hb]at this;cases this
theorem Sat.append_in{g:G}{H:Heap}{w:World}(h:Sat g H w){t b lo n:Nat}(ht:H.toks t=true)(hk:g.tok t=some (b,lo,n))(us:Array Value)(hn:us.size≤n)(h0:n≠0):
    ∃(cells:Array Value)(T:TypeId),w.heap[b]?=some (.cells cells T (0,0))∧lo+n≤cells.size∧∀cells':Array Value,cells'.size=cells.size→(∀o,o<lo→cells'[o]?=cells[o]?)→(∀o,o<us.size→cells'[lo+o]?=us[o]?)→
      ∃g':G,g.le g'∧g'.ntok=g.ntok+1∧g'.tok g.ntok=some (b,lo+us.size,n-us.size)∧(∀o v,us[o]?=some v→g'.imm b (lo+o)=some v)∧
        Sat g' ((H.kill t).live g.ntok) {w with heap:=w.heap.setIfInBounds b (.cells cells' T (0,0))}:=by
  obtain⟨h1,h2,h3,cells,T,h4,h5⟩:=h.tok t b lo n ht hk h0;refine⟨cells,T,h4,h5,λcells' hs hlow hnew=>?_⟩;have hlt:b<w.heap.size:=(Array.getElem?_eq_some_iff.1 h4).1
  let f:Nat→Option Value:=λo=>if lo≤o∧o<lo+us.size then us[o-lo]? else g.imm b o
  have hf:∀o v,g.imm b o=some v→f o=some v:=λo v hv=>by
    show(if lo≤o∧o<lo+us.size then us[o-lo]? else g.imm b o)=some v;rw[if_neg (by rintro⟨ho,_⟩;rw[h3 o ho]at hv;cases hv)];exact hv
  have hkill:∀t',(H.kill t).toks t'=true→t'≠t∧H.toks t'=true:=λt' ht'=>by
    simp only[Heap.kill]at ht';by_cases e:t'=t
    · rw[if_pos e]at ht';cases ht'
    rw[if_neg e]at ht';exact⟨e,ht'⟩
  have hoth:∀k,k≠b→(w.heap.setIfInBounds b (.cells cells' T (0,0)))[k]?=w.heap[k]?:=λk hk=>by
    simp only[Array.getElem?_setIfInBounds];rw[if_neg (by omega)]
  have hself:(w.heap.setIfInBounds b (.cells cells' T (0,0)))[b]?=some (.cells cells' T (0,0)):=by simp[hlt]
  have hsep:∀t' lo' n',(H.kill t).toks t'=true→g.tok t'=some (b,lo',n')→n'=0:=λt' lo' n' ht' hk'=>by
    rcases Nat.eq_zero_or_pos n' with e|e
    · exact e
    obtain⟨hne,ht'⟩:=hkill t' ht';exact absurd (h.sep t' t b lo' n' lo n ht' ht hk' hk (by omega) h0) hne
  
  have hA:Sat g (H.kill t) {w with heap:=w.heap.setIfInBounds b (.cells cells' T (0,0))}:=by
    refine⟨h.below.trans ⟨rfl,rfl,rfl,by simp,λk hk=>hoth k (by omega)⟩,λc o v hv=>?_,λc S cs hc=>?_,λc es hc=>?_,λc o hc=>?_,h.own,λt' c lo' n' ht' hk' hn'=>?_,λt' ht'=>h.tokLt t' (hkill t' ht').2,λt' t'' c l' m' l'' m'' ht' ht''=>h.sep t' t'' c l' m' l'' m'' (hkill t' ht').2 (hkill t'' ht'').2⟩
    · by_cases e:c=b
      · subst e;have ho:o<lo:=by
          rcases Nat.lt_or_ge o lo with e'|e'
          · exact e'
          rw[h3 o e']at hv;cases hv
        have:=h.imm c o v hv;unfold World.cell? at this ⊢;simp only[hself];rw[h4]at this;simp at this ⊢;rw[hlow o ho];exact this
      rw[World.cell?_of_block (w:=w) (hoth c e)];exact h.imm c o v hv
    · have e:c≠b:=by rintro rfl;rw[Heap.objs_kill,h2]at hc;cases hc
      obtain⟨vs,hv,hr⟩:=h.box c S cs hc;exact⟨vs,hv.same (λq=>(hoth c e).trans q),hr⟩
    · have e:c≠b:=by rintro rfl;rw[Heap.objs_kill,h2]at hc;cases hc
      obtain⟨en,cl,hv,hr⟩:=h.map c es hc;exact⟨en,cl,(hoth c e).trans hv,hr⟩
    · have e:c≠b:=by rintro rfl;rw[Heap.objs_kill,h2]at hc;cases hc
      exact(hoth c e).trans (h.raw c o hc)
    have e:c≠b:=by rintro rfl;exact hn' (hsep t' lo' n' ht' hk')
    obtain⟨q1,q2,q3,cl,S,q4,q5⟩:=h.tok t' c lo' n' (hkill t' ht').2 hk' hn';exact⟨q1,q2,q3,cl,S,(hoth c e).trans q4,q5⟩
  have hB:Sat (g.addImm b f) (H.kill t) {w with heap:=w.heap.setIfInBounds b (.cells cells' T (0,0))}:=by
    refine hA.addImm (λo v hv=>?_) hf h2 (λt' lo' n' o ht' hk' hn' _=>absurd (hsep t' lo' n' ht' hk') hn');by_cases hin:lo≤o∧o<lo+us.size
    · have hv':us[o-lo]?=some v:=by simpa[f,hin]using hv
      unfold World.cell?;simp only[hself];have:=hnew (o-lo) (by omega);rw[show lo+(o-lo)=o by omega]at this;simp[this,hv']
    have hv':g.imm b o=some v:=by
      have:f o=g.imm b o:=if_neg hin;rw[←this];exact hv
    exact hA.imm b o v hv'
  refine⟨(g.addImm b f).addTok (some (b,lo+us.size,n-us.size)),(G.le_addImm hf).trans (G.le_addTok _ _),rfl,G.tok_addTok _ _,λo v ho=>?_,?_⟩
  · rw[G.imm_addTok,G.imm_addImm];have hlt':o<us.size:=(Array.getElem?_eq_some_iff.1 ho).1;show(if lo≤lo+o∧lo+o<lo+us.size then us[lo+o-lo]? else g.imm b (lo+o))=some v;rw[if_pos (by omega),show lo+o-lo=o by omega];exact ho
  refine hB.addTok _ (λb' lo' n' he hn'=>?_);simp only[Option.some.injEq,Prod.mk.injEq]at he;obtain⟨rfl,rfl,rfl⟩:=he;refine⟨h1,h2,λo ho=>?_,⟨cells',T,hself,by omega⟩,hsep⟩;rw[G.imm_addImm];show(if lo≤o∧o<lo+us.size then us[o-lo]? else g.imm b o)=none;rw[if_neg (by omega)];exact h3 o (by omega)
theorem Sat.new_row{g:G}{H:Heap}{w:World}(h:Sat g H w)(vs:Array Value)(T:TypeId)(k:Nat)(hk:k≤vs.size):
    ∃g':G,g.le g'∧g'.ntok=g.ntok+1∧g'.tok g.ntok=some (w.heap.size,k,vs.size-k)∧(∀o v,o<k→vs[o]?=some v→g'.imm w.heap.size o=some v)∧Sat g' (H.live g.ntok) (w.alloc (.cells vs T)):=by
  have h0:=h.new_imm vs T (0,0) k;refine⟨(g.addImm w.heap.size λo=>if o<k then vs[o]? else none).addTok (some (w.heap.size,k,vs.size-k)),
    (G.le_addImm (λo v hv=>by rw[h.imm_new]at hv;cases hv)).trans (G.le_addTok _ _),rfl,G.tok_addTok _ _,λo v ho hv=>?_,?_⟩
  · rw[G.imm_addTok,G.imm_addImm];simpa[ho]using hv
  refine h0.addTok _ (λb lo n he hn=>?_);simp only[Option.some.injEq,Prod.mk.injEq]at he;obtain⟨rfl,rfl,rfl⟩:=he;exact⟨h.below.size,h.new_none,λo ho=>by rw[G.imm_addImm];simp;intro;omega,⟨vs,T,heap_alloc_new _ _,by omega⟩,h.tok_new⟩
theorem Sat.retag{g:G}{H:Heap}{w:World}(h:Sat g H w):Sat (g.addTok none) (H.live g.ntok) w:=h.addTok none (λ_ _ _ he=>by cases he)
end
end Go.Proofs.YtojblnldfdeefaaGreatDoor
namespace Go.Proofs.YtojblnldfdeefaaGreatDoor
open Go Go.RowKit
section
abbrev Env:=List (Nat×AV)
def Env.get?:Env→Nat→Option AV
  | [],_=>none
  |(k,v)::e,t=>cond (Nat.beq k t) (some v) (Env.get? e t)
def Env.put(e:Env)(d:Option Tmp)(v:AV):Env:=match d with|some d=>(d,v)::e|none=>e
def Env.sub:Env→Env→Prop
  | [],_=>True
  |(k,v)::e,e'=>Env.get? e' k=some v∧Env.sub e e'
theorem Env.sub_get{e e':Env}(h:e.sub e'){t:Nat}{x:AV}(hx:e.get? t=some x):e'.get? t=some x:=by
  induction e with
  |nil=>cases hx
  |cons p e ih=>
    obtain⟨k,v⟩:=p;simp only[Env.get?]at hx;cases hk:Nat.beq k t with
    |true=>
      rw[hk]at hx;have:k=t:=Nat.eq_of_beq_eq_true hk;subst this;cases hx
      exact h.1
    |false=>rw[hk]at hx;exact ih h.2 hx
structure Fr where
  size:Nat
  defs:List Deferred
structure RelAct (g:G) (n:Fr) (env:Env) (a:Act):Prop where
  size:a.tmps.size=n.size
  defers:a.defers=n.defs
  at_:∀t x,env.get? t=some x→∃v,a.tmps[t]?=some v∧RelV g x v
theorem RelAct.mono{g g':G}(h:g.le g'){n:Fr}{env:Env}{a:Act}(k:RelAct g n env a):RelAct g' n env a:=
  ⟨k.size,k.defers,λt x hx=>let⟨v,hv,hr⟩:=k.at_ t x hx;⟨v,hv,hr.mono h⟩⟩
theorem RelAct.sub{g:G}{n:Fr}{env env':Env}{a:Act}(h:env'.sub env)(k:RelAct g n env a):RelAct g n env' a:=
  ⟨k.size,k.defers,λt x hx=>k.at_ t x (Env.sub_get h hx)⟩
def fits(n:Fr)(d:Option Tmp):Bool:=match d with|some d=>Nat.blt d n.size|none=>true
theorem RelAct.put{g:G}{n:Fr}{env:Env}{a:Act}(k:RelAct g n env a){d:Option Tmp}(hd:fits n d=true){x:AV}{v:Value}(h:RelV g x v):RelAct g n (env.put d x) (a.put d v):=by
  cases d with
  |none=>exact k
  |some d=>
    have hlt:d<n.size:=by simpa[fits,Nat.blt_eq]using hd
    refine⟨by simp[Act.put,k.size],k.defers,λt y hy=>?_⟩;simp only[Env.put,Env.get?]at hy;simp only[Act.put,Array.getElem?_setIfInBounds];cases hk:Nat.beq d t with
    |true=>
      rw[hk]at hy;have:d=t:=Nat.eq_of_beq_eq_true hk;subst this;cases hy
      exact⟨v,by rw[if_pos rfl,if_pos (by rw[k.size];exact hlt)],h⟩
    |false=>
      rw[hk]at hy;have:d≠t:=Nat.ne_of_beq_eq_false hk;obtain⟨u,hu,hr⟩:=k.at_ t y hy;exact⟨u,by rw[if_neg this];exact hu,hr⟩
inductive Ev (env:Env):Operand→AV→Prop
  |tmp (t x) (h:env.get? t=some x):Ev env (.tmp t) x
  |const (v x) (h:∀g,RelV g x v):Ev env (.const v) x
  |func (f):Ev env (.func f) (.func f [])
  |global (b):Ev env (.global b) (.ptr (some ⟨b,0,none⟩))
theorem Ev.rel{env:Env}{o:Operand}{x:AV}(h:Ev env o x){g:G}{n:Fr}{a:Act}(k:RelAct g n env a):RelV g x (a.eval o):=by
  cases h with
  |tmp t _ h=>
    obtain⟨v,hv,hr⟩:=k.at_ t x h;show RelV g x (a.tmps.getD t undef);simpa[hv]using hr
  |const v _ h=>exact h g
  |func f=>exact .func f [] #[] rfl (λi c v hc _=>by simp at hc)
  |global b=>exact .ptr _
def YieldsTo(P:Program)(S:Value→World→Prop):Result Next→Prop
  | .ok (.value v) w=>S v w
  | .ok .skip w=>S undef w
  | .ok (.enter f args) w=>Calls P f args w (λe w'=>∃v,e= .returned v∧S v w')
  | .ok (.row r args) w=>Rows P r args w S
  |_=>False
theorem YieldsTo.mono{P:Program}{S S':Value→World→Prop}(h:∀v w,S v w→S' v w){r:Result Next}(k:YieldsTo P S r):YieldsTo P S' r:=by
  cases r with
  |ok x w=>
    cases x<;>first|exact h _ _ k|exact k.elim|skip
    · exact Calls.mono k λe w' ⟨v,he,hs⟩=>⟨v,he,h _ _ hs⟩
    exact Rows.mono k λv w' hs=>h _ _ hs
  |halt x w=>exact k.elim
theorem YieldsTo.wp{P:Program}{o:Oper}{a:Act}{w:World}{S:Value→World→Prop}{K:Act→World→Prop}{Q:Exit→Act→World→Prop}
    (h:YieldsTo P S ((execOp a.eval o).run P w))(hk:∀v w',S v w'→K (a.put o.dst v) w'):o.wp P a w K Q:=by
  unfold Oper.wp;generalize(execOp a.eval o).run P w=r at *;cases r with
  |ok x w'=>
    cases x<;>first|exact hk _ _ h|exact h.elim|skip
    · exact Calls.mono h λe w'' ⟨v,he,hs⟩=>by subst he;exact hk _ _ hs
    exact Rows.mono h λv w'' hs=>hk _ _ hs
  |halt x w'=>exact h.elim
def AStep(P:Program)(o:Oper)(env:Env)(H:Heap)(R:AV→Heap→Prop):Prop:=
  ∀g n a w,RelAct g n env a→Sat g H w→YieldsTo P (λv w'=>∃g' x H',g.le g'∧RelV g' x v∧Sat g' H' w'∧R x H') ((execOp a.eval o).run P w)
theorem AStep.mono{P:Program}{o:Oper}{env:Env}{H:Heap}{R R':AV→Heap→Prop}(h:AStep P o env H R)(hr:∀x H',R x H'→R' x H'):AStep P o env H R':=
  λg n a w k s=>(h g n a w k s).mono λ_ _ ⟨g',x,H',h1,h2,h3,h4⟩=>⟨g',x,H',h1,h2,h3,hr _ _ h4⟩
def APure(P:Program)(o:Oper)(env:Env)(x:AV):Prop:=
  ∀g n a,RelAct g n env a→∃v,RelV g x v∧∀w,(∀b k u,g.imm b k=some u→w.cell? ⟨b,k,none⟩=some u)→(execOp a.eval o).run P w= .ok (.value v) w
theorem APure.step{P:Program}{o:Oper}{env:Env}{x:AV}(h:APure P o env x)(H:Heap):AStep P o env H (λy H'=>y=x∧H'=H):=by
  intro g n a w k s;obtain⟨v,hv,hrun⟩:=h g n a k;rw[hrun w s.imm];exact⟨g,x,H,G.le.refl g,hv,s,rfl,rfl⟩
inductive Wanted (ops:Array Oper) (env:Env) (o:Oper):Bool→Prop
  |free (h:o.guard=none):Wanted ops env o true
  |guard (j want b:_) (d:Tmp) (h:o.guard=some (j,want)) (hd:(ops[j]?).bind (·.dst)=some d) (hb:env.get? d=some (.bool b)):Wanted ops env o (b==want)
  |dead (j want:_) (d:Tmp) (h:o.guard=some (j,want)) (hd:(ops[j]?).bind (·.dst)=some d) (hb:env.get? d=some (.raw undef)):Wanted ops env o false
theorem Wanted.spec{ops:Array Oper}{env:Env}{o:Oper}{b:Bool}(h:Wanted ops env o b){g:G}{n:Fr}{a:Act}(k:RelAct g n env a):Region.wanted o (yielded ops a.tmps)=b:=by
  cases h with
  |free h=>simp[Region.wanted,h]
  |guard j want b d h hd hb=>
    obtain⟨v,hv,hr⟩:=k.at_ d _ hb;cases hr
    simp only[Region.wanted,h,yielded,hd,Option.bind_some,hv];cases b<;>cases want<;>rfl
  |dead j want d h hd hb=>
    obtain⟨v,hv,hr⟩:=k.at_ d _ hb;cases hr
    simp only[Region.wanted,h,yielded,hd,Option.bind_some,hv,undef];rfl
def Lift(g:G)(n:Fr)(Q:Exit→Env→Heap→Prop):Exit→Act→World→Prop:=
  λe a w=>∃g' env H,g.le g'∧RelAct g' n env a∧Sat g' H w∧Q e env H
theorem Lift.up{g g':G}(h:g.le g'){n:Fr}{Q:Exit→Env→Heap→Prop}{e:Exit}{a:Act}{w:World}(k:Lift g' n Q e a w):Lift g n Q e a w:=
  let⟨g'',env,H,h1,h2⟩:=k;⟨g'',env,H,h.trans h1,h2⟩
def AWP(P:Program)(n:Fr)(c:Code)(Q:Exit→Env→Heap→Prop)(env:Env)(H:Heap):Prop:=
  ∀g a w,RelAct g n env a→Sat g H w→c.wp P (Lift g n Q) a w
def AList(P:Program)(n:Fr)(ops:Array Oper)(Q:Exit→Env→Heap→Prop)(l:List Oper)(env:Env)(H:Heap):Prop:=
  ∀g a w,RelAct g n env a→Sat g H w→wpList P ops (Lift g n Q) l a w
def Next.q(N:Env→Heap→Prop)(Q:Exit→Env→Heap→Prop):Exit→Env→Heap→Prop
  | .normal,env,H=>N env H
  |e,env,H=>Q e env H
section
variable{P:Program}{n:Fr}{Q:Exit→Env→Heap→Prop}{env:Env}{H:Heap}
theorem AWP.mono{c:Code}{Q':Exit→Env→Heap→Prop}(h:AWP P n c Q env H)(hq:∀e env H,Q e env H→Q' e env H):AWP P n c Q' env H:=
  λg a w k s=>wp_mono (h g a w k s) λ_ _ _ ⟨g',e,H',h1,h2,h3,h4⟩=>⟨g',e,H',h1,h2,h3,hq _ _ _ h4⟩
theorem AWP.weaken{c:Code}{env':Env}{H':Heap}(he:env'.sub env)(hh:H'.le H)(h:AWP P n c Q env' H'):AWP P n c Q env H:=
  λg a w k s=>h g a w (k.sub he) (s.weaken hh)
theorem AWP.sub{c:Code}(env':Env)(he:env'.sub env)(h:AWP P n c Q env' H):AWP P n c Q env H:=h.weaken he (Heap.le.refl H)
theorem Next.go{N:Env→Heap→Prop}(h:N env H):Next.q N Q .normal env H:=h
theorem AWP.skip(h:Q .normal env H):AWP P n .skip Q env H:=λg _ _ k s=>wp_skip ⟨g,env,H,G.le.refl g,k,s,h⟩
theorem AWP.label{l:Nat}(h:Q .normal env H):AWP P n (.label l) Q env H:=λg _ _ k s=>wp_label ⟨g,env,H,G.le.refl g,k,s,h⟩
theorem AWP.exit{id:Nat}(h:Q (.exit id) env H):AWP P n (.exit id) Q env H:=λg _ _ k s=>wp_exit ⟨g,env,H,G.le.refl g,k,s,h⟩
theorem AWP.ret(h:Q .ret env H):AWP P n .ret Q env H:=λg _ _ k s=>wp_ret ⟨g,env,H,G.le.refl g,k,s,h⟩
theorem AWP.seq{x y:Code}(h:AWP P n x (Next.q (AWP P n y Q) Q) env H):AWP P n (.seq x y) Q env H:=by
  intro g a w k s;refine wp_seq (wp_mono (h g a w k s) ?_);rintro e a' w' ⟨g',env',H',hle,hr,hs,hq⟩;cases e with
  |normal=>exact wp_mono (hq g' a' w' hr hs) λ_ _ _ h=>h.up hle
  |_=>exact⟨g',env',H',hle,hr,hs,hq⟩
theorem AWP.cond{c:Operand}{x y:Code}{t:Bool}(hc:Ev env c (.bool t))(ht:t=true→AWP P n x Q env H)(hf:t=false→AWP P n y Q env H):AWP P n (.cond c x y) Q env H:=by
  intro g a w k s;have hv:=hc.rel k;generalize he:a.eval c=v at hv;cases hv
  exact wp_cond_split he (λe=>ht e g a w k s) (λe=>hf e g a w k s)
theorem AWP.cond_true{c:Operand}{x y:Code}{t:Bool}(hc:Ev env c (.bool t))(ht:t=true)(h:AWP P n x Q env H):AWP P n (.cond c x y) Q env H:=
  AWP.cond hc (λ_=>h) (λe=>by rw[ht]at e;cases e)
theorem AWP.cond_false{c:Operand}{x y:Code}{t:Bool}(hc:Ev env c (.bool t))(ht:t=false)(h:AWP P n y Q env H):AWP P n (.cond c x y) Q env H:=
  AWP.cond hc (λe=>by rw[ht]at e;cases e) (λ_=>h)
def Block.q(id:Nat)(Q:Exit→Env→Heap→Prop):Exit→Env→Heap→Prop
  | .exit id',env,H=>if id'=id then Q .normal env H else Q (.exit id') env H
  |e,env,H=>Q e env H
theorem AWP.block{id:Nat}{c:Code}(h:AWP P n c (Block.q id Q) env H):AWP P n (.block id c) Q env H:=by
  intro g a w k s;refine wp_block (wp_mono (h g a w k s) ?_);rintro e a' w' ⟨g',env',H',hle,hr,hs,hq⟩;cases e with
  |exit id'=>
    simp only[Exit.inBlock];simp only[Block.q]at hq;split
    · rename_i he;rw[if_pos he]at hq;exact⟨g',env',H',hle,hr,hs,hq⟩
    rename_i he;rw[if_neg he]at hq;exact⟨g',env',H',hle,hr,hs,hq⟩
  |_=>exact⟨g',env',H',hle,hr,hs,hq⟩
theorem least{p:Nat→Prop}(h:∃k,p k):∃k,p k∧∀j,p j→k≤j:=by
  obtain⟨k,hk⟩:=h;induction k using Nat.strongRecOn with
  |_ k ih=>
    by_cases hc:∃j,j<k∧p j
    · obtain⟨j,hj,hp⟩:=hc;exact ih j hj hp
    exact⟨k,hk,λj hj=>by
      rcases Nat.lt_or_ge j k with h|h
      · exact absurd ⟨j,h,hj⟩ hc
      exact h⟩
theorem AWP.loop{c:Code}(J:Nat→Env→Heap→Prop)(k0:Nat)(h0:J k0 env H)
    (hround:∀k env H,J k env H→AWP P n c (Next.q (λenv' H'=>∃k' env'' H'',k'<k∧Env.sub env'' env'∧H''.le H'∧J k' env'' H'') Q) env H):AWP P n (.loop c) Q env H:=by
  intro g a w ra s
  let I:Nat→Act→World→Prop:=λk a' w'=>∃g' env' H',g.le g'∧RelAct g' n env' a'∧Sat g' H' w'∧J k env' H'
  classical
  let μ:Act→World→Nat:=λa' w'=>if h:∃k,I k a' w' then(least h).choose else 0
  refine wp_loop (λa' w'=>∃k,I k a' w') μ ⟨k0,g,env,H,G.le.refl g,ra,s,h0⟩ ?_;intro a' w' hI;have hμ:μ a' w'=(least hI).choose:=dif_pos hI;obtain⟨g',env',H',hle,hr,hs,hj⟩:=(least hI).choose_spec.1;refine wp_mono (hround _ env' H' hj g' a' w' hr hs) ?_;rintro e a'' w'' ⟨g'',env'',H'',hle',hr',hs',hq⟩;cases e with
  |normal=>
    obtain⟨k',env3,H3,hlt,hsub,hhl,hj'⟩:=hq;have hI':I k' a'' w'':=⟨g'',env3,H3,hle.trans hle',hr'.sub hsub,hs'.weaken hhl,hj'⟩;refine⟨⟨k',hI'⟩,?_⟩;have hex:∃k,I k a'' w'':=⟨k',hI'⟩;have h1:μ a'' w''=(least hex).choose:=dif_pos hex;have h2:(least hex).choose≤k':=(least hex).choose_spec.2 k' hI';omega
  |_=>exact⟨g'',env'',H'',hle.trans hle',hr',hs',hq⟩
theorem AWP.region{id:Nat}{l:List Oper}(h:AList P n l.toArray Q l env H):AWP P n (.region id l.toArray false) Q env H:=
  λg a w k s=>wp_region_lit (h g a w k s)
theorem AList.nil{ops:Array Oper}(h:Q .normal env H):AList P n ops Q [] env H:=λg _ _ k s=>⟨g,env,H,G.le.refl g,k,s,h⟩
theorem wpList_up{g g':G}(hle:g.le g'){ops:Array Oper}:∀{l:List Oper}{a:Act}{w:World},wpList P ops (Lift g' n Q) l a w→wpList P ops (Lift g n Q) l a w:=by
  intro l;induction l with
  |nil=>intro a w h;exact Lift.up hle h
  |cons o l ih=>
    intro a w h;unfold wpList at h ⊢;split
    · rename_i hw
      rw[if_pos hw]at h;rcases h with h|⟨h1,a0,w0,h2⟩
      · refine .inl ?_;unfold Oper.wp at h ⊢;generalize(execOp a.eval o).run P w=r at *;cases r with
        |ok x w'=>
          cases x<;>simp only[Oper.upon]at h ⊢ <;>first
            |exact ih h
            |exact Calls.mono h (λe w'' he=>by
                cases e with
                |returned v=>exact ih he
                |panicked c=>exact Lift.up hle he
                |outgrown=>obtain⟨a1,w1,h1⟩:=he;exact⟨a1,w1,Lift.up hle h1⟩)
            |exact Rows.mono h (λv w'' he=>ih he)
            |exact h
        |halt x w'=>cases x<;>simp only[Oper.upon]at h ⊢ <;>first|exact Lift.up hle h|exact h
      exact .inr ⟨h1,a0,w0,Lift.up hle h2⟩
    rename_i hw
    rw[if_neg hw]at h;exact ih h
theorem AList.step{ops:Array Oper}{o:Oper}{l:List Oper}{R:AV→Heap→Prop}(hw:Wanted ops env o true)(hd:fits n o.dst=true)(h:AStep P o env H R)
    (hk:∀x H',R x H'→AList P n ops Q l (env.put o.dst x) H'):AList P n ops Q (o::l) env H:=by
  intro g a w k s;refine wpList_step λK hK=>?_;rw[if_pos (hw.spec k)];exact(h g n a w k s).wp λv w' ⟨g',x,H',hle,hr,hs,hR⟩=>hK _ _ (by
    have:=hk x H' hR g' (a.put o.dst v) w' ((k.mono hle).put hd hr) hs;exact wpList_up hle this)
theorem AList.pure{ops:Array Oper}{o:Oper}{l:List Oper}{x:AV}(hw:Wanted ops env o true)(hd:fits n o.dst=true)(h:APure P o env x)
    (hk:AList P n ops Q l (env.put o.dst x) H):AList P n ops Q (o::l) env H:=
  AList.step hw hd (h.step H) λy H' ⟨e1,e2⟩=>by subst e1;subst e2;exact hk
theorem AList.unwanted{ops:Array Oper}{o:Oper}{l:List Oper}(hw:Wanted ops env o false)(hd:fits n o.dst=true)
    (hk:AList P n ops Q l (env.put o.dst (.raw undef)) H):AList P n ops Q (o::l) env H:=by
  intro g a w k s;refine wpList_step λK hK=>?_;rw[if_neg (by rw[hw.spec k];decide)];exact hK _ _ (hk g _ w (k.put hd (.raw undef)) s)
end
/-! ### A region that draws its order -/
def Env.only:List Nat→Env→Env
  | [],_=>[]
  |k::ks,e=>match e.get? k with|some v=>(k,v)::Env.only ks e|none=>Env.only ks e
theorem only_get{l:List Nat}{e:Env}{t:Nat}{x:AV}:(Env.only l e).get? t=some x→e.get? t=some x:=by
  induction l with
  |nil=>intro h;cases h
  |cons k ks ih=>
    intro h;unfold Env.only at h;cases hk:e.get? k with
    |none=>rw[hk]at h;exact ih h
    |some v=>
      rw[hk]at h;simp only[Env.get?]at h;cases hb:Nat.beq k t with
      |true=>rw[hb]at h;have:=Nat.eq_of_beq_eq_true hb;subst this;cases h;exact hk
      |false=>rw[hb]at h;exact ih h
theorem only_congr{l:List Nat}{e e':Env}(h:∀t,t∈l→e.get? t=e'.get? t):Env.only l e=Env.only l e':=by
  induction l with
  |nil=>rfl
  |cons k ks ih=>
    unfold Env.only;rw[h k (by simp),ih (λt ht=>h t (by simp[ht]))]
theorem RelAct.only{g:G}{n:Fr}{e:Env}{a:Act}(l:List Nat)(k:RelAct g n e a):RelAct g n (Env.only l e) a:=⟨k.size,k.defers,λt x hx=>k.at_ t x (only_get hx)⟩
def Env.eqv(e e':Env):Prop:=∀t,e.get? t=e'.get? t
theorem Env.eqv.put{e e':Env}(h:e.eqv e')(d:Option Tmp)(x:AV):(e.put d x).eqv (e'.put d x):=by
  cases d with
  |none=>exact h
  |some d=>intro t;simp only[Env.put,Env.get?];rw[h t]
theorem Env.put_swap(e:Env){d d':Option Tmp}(x y:AV)(h:∀t,d=some t→d'≠some t):((e.put d x).put d' y).eqv ((e.put d' y).put d x):=by
  cases d with
  |none=>intro t;rfl
  |some d=>
    cases d' with
    |none=>intro t;rfl
    |some d'=>
      have hne:d≠d':=λe=>h d rfl (by rw[e]);intro t;simp only[Env.put,Env.get?];cases h1:Nat.beq d' t with
      |false=>rfl
      |true=>
        cases h2:Nat.beq d t with
        |false=>rfl
        |true=>exact absurd ((Nat.eq_of_beq_eq_true h2).trans (Nat.eq_of_beq_eq_true h1).symm) hne
theorem get_put_ne(e:Env){d:Option Tmp}{t:Nat}(x:AV)(h:d≠some t):(e.put d x).get? t=e.get? t:=by
  cases d with
  |none=>rfl
  |some d=>
    simp only[Env.put,Env.get?];cases hb:Nat.beq d t with
    |true=>exact absurd (by rw[Nat.eq_of_beq_eq_true hb]) h
    |false=>rfl
theorem RelAct.eqv{g:G}{n:Fr}{e e':Env}{a:Act}(h:e.eqv e')(k:RelAct g n e a):RelAct g n e' a:=⟨k.size,k.defers,λt x hx=>k.at_ t x (by rw[h t];exact hx)⟩
def AFree(P:Program)(o:Oper)(env:Env)(x:AV):Prop:=∀H,AStep P o env H (λy H'=>y=x∧H'=H)
theorem APure.free{P:Program}{o:Oper}{env:Env}{x:AV}(h:APure P o env x):AFree P o env x:=λH=>h.step H
section
variable{P:Program}{n:Fr}{ops:Array Oper}
def XOp(P:Program)(n:Fr)(ops:Array Oper)(i:Nat)(K:Env→Heap→Prop)(env:Env)(H:Heap):Prop:=
  ∃o,ops[i]?=some o∧fits n o.dst=true∧((Wanted ops (Env.only (o.looksAt ops) env) o false∧K (env.put o.dst (.raw undef)) H)∨
    (Wanted ops (Env.only (o.looksAt ops) env) o true∧∃R,AStep P o (Env.only (o.looksAt ops) env) H R∧∀x H',R x H'→K (env.put o.dst x) H'))
theorem XOp.mono{i:Nat}{K K':Env→Heap→Prop}{env:Env}{H:Heap}(h:∀e H,K e H→K' e H)(k:XOp P n ops i K env H):XOp P n ops i K' env H:=by
  obtain⟨o,h1,h2,h3⟩:=k;exact⟨o,h1,h2,h3.imp (λ⟨a,b⟩=>⟨a,h _ _ b⟩) (λ⟨a,R,b,c⟩=>⟨a,R,b,λx H' hr=>h _ _ (c x H' hr)⟩)⟩
def XAny(P:Program)(n:Fr)(ops:Array Oper)(Q:Env→Heap→Prop):Nat→Array Bool→Env→Heap→Prop
  |0,listed,env,H=>Region.ready .any ops listed=[]∧∃e,e.eqv env∧Q e H
  |fuel+1,listed,env,H=>(Region.ready .any ops listed=[]→∃e,e.eqv env∧Q e H)∧∀i∈Region.ready .any ops listed,XOp P n ops i (XAny P n ops Q fuel (listed.setIfInBounds i true)) env H
theorem XOp.eqv{i:Nat}{K:Env→Heap→Prop}{e e':Env}{H:Heap}(h:e.eqv e')(hK:∀e e' H,e.eqv e'→K e H→K e' H)(k:XOp P n ops i K e H):XOp P n ops i K e' H:=by
  obtain⟨o,h1,h2,h3⟩:=k;have ho:Env.only (o.looksAt ops) e=Env.only (o.looksAt ops) e':=only_congr λt _=>h t;rw[ho]at h3;exact⟨o,h1,h2,h3.imp (λ⟨a,b⟩=>⟨a,hK _ _ _ (h.put _ _) b⟩) (λ⟨a,R,b,c⟩=>⟨a,R,b,λx H' hr=>hK _ _ _ (h.put _ _) (c x H' hr)⟩)⟩
theorem XAny.eqv{Q:Env→Heap→Prop}:∀(fuel:Nat)(listed:Array Bool)(e e':Env)(H:Heap),e.eqv e'→XAny P n ops Q fuel listed e H→XAny P n ops Q fuel listed e' H
  |0,_,_,_,_,h,⟨h0,e0,h1,h2⟩=>⟨h0,e0,λt=>(h1 t).trans (h t),h2⟩
  |fuel+1,_,_,_,_,h,⟨h0,h1⟩=>⟨λhr=>let⟨e0,q1,q2⟩:=h0 hr;⟨e0,λt=>(q1 t).trans (h t),q2⟩,λi hi=>(h1 i hi).eqv h λe e' H he hk=>XAny.eqv fuel _ e e' H he hk⟩
theorem wpAny_of_XAny{Q:Env→Heap→Prop}{g0:G}{Q':Exit→Act→World→Prop}(hQ:∀g a w e H,g0.le g→RelAct g n e a→Sat g H w→Q e H→Q' .normal a w):
    ∀(fuel:Nat)(listed:Array Bool)(g:G)(a:Act)(w:World)(env:Env)(H:Heap),g0.le g→RelAct g n env a→Sat g H w→XAny P n ops Q fuel listed env H→wpAny P .any ops Q' fuel listed a w
  |0,_,g,a,w,env,H,hg,hr,hs,⟨h0,e,he,hq⟩=>⟨h0,hQ g a w e H hg (hr.eqv λt=>(he t).symm) hs hq⟩
  |fuel+1,listed,g,a,w,env,H,hg,hr,hs,⟨h0,h1⟩=>⟨λhr'=>let⟨e,he,hq⟩:=h0 hr';hQ g a w e H hg (hr.eqv λt=>(he t).symm) hs hq,λi hi=>by
      obtain⟨o,ho,hd,hc⟩:=h1 i hi;unfold wpOp;simp only[ho];rcases hc with⟨hw,hk⟩|⟨hw,R,hst,hk⟩
      · rw[if_neg (by rw[hw.spec (hr.only _)];decide)];exact wpAny_of_XAny hQ fuel _ g _ w _ H hg (hr.put hd (.raw undef)) hs hk
      rw[if_pos (hw.spec (hr.only _))];exact .inl ((hst g n a w (hr.only _) hs).wp λv w' ⟨g',x,H',hle,hrv,hs',hR⟩=>
        wpAny_of_XAny hQ fuel _ g' _ w' _ H' (hg.trans hle) ((hr.mono hle).put hd hrv) hs' (hk x H' hR))⟩
def Steady(P:Program)(ops:Array Oper)(o:Oper)(env:Env)(x:AV):Prop:=
  (Wanted ops (Env.only (o.looksAt ops) env) o true∧AFree P o (Env.only (o.looksAt ops) env) x)∨(Wanted ops (Env.only (o.looksAt ops) env) o false∧x= .raw undef)
theorem Steady.xop{i:Nat}{o:Oper}{x:AV}{env:Env}{H:Heap}(hi:ops[i]?=some o)(hd:fits n o.dst=true)(h:Steady P ops o env x){K:Env→Heap→Prop}(k:K (env.put o.dst x) H):XOp P n ops i K env H:=by
  rcases h with⟨hw,hf⟩|⟨hw,rfl⟩
  · exact⟨o,hi,hd,.inr ⟨hw,_,hf H,λy H' ⟨e1,e2⟩=>by subst e1;subst e2;exact k⟩⟩
  exact⟨o,hi,hd,.inl ⟨hw,k⟩⟩
theorem Steady.same{o:Oper}{x:AV}{e e':Env}(h:∀t,t∈o.looksAt ops→e.get? t=e'.get? t)(k:Steady P ops o e x):Steady P ops o e' x:=by
  unfold Steady at *;rw[only_congr h]at k;exact k
theorem XOp.put{j:Nat}{oi oj:Oper}{x:AV}(hj:ops[j]?=some oj)(hap:oi.apart ops oj=true){K:Env→Heap→Prop}(hK:∀e e' H,e.eqv e'→K e H→K e' H){env:Env}{H:Heap}(hy:Steady P ops oi env x)(h:XOp P n ops j K (env.put oi.dst x) H):
    XOp P n ops j (λe H'=>Steady P ops oi e x∧K (e.put oi.dst x) H') env H:=by
  obtain⟨h1,h2,h3⟩:=Oper.apart_spec hap;obtain⟨o,ho,hd,hc⟩:=h;have:o=oj:=Option.some.inj (ho.symm.trans hj);subst this;have e1:Env.only (o.looksAt ops) (env.put oi.dst x)=Env.only (o.looksAt ops) env:=only_congr λt ht=>get_put_ne _ _ (λe=>h1 t e ht);rw[e1]at hc;have keep:∀u,Steady P ops oi (env.put o.dst u) x:=λu=>hy.same λt ht=>(get_put_ne _ _ (λe=>h3 t e ht)).symm;have sw:∀u,((env.put oi.dst x).put o.dst u).eqv ((env.put o.dst u).put oi.dst x):=λu=>Env.put_swap env x u h2;exact⟨o,ho,hd,hc.imp (λ⟨a,b⟩=>⟨a,keep _,hK _ _ _ (sw _) b⟩) (λ⟨a,R,b,c⟩=>⟨a,R,b,λy H' hr=>⟨keep _,hK _ _ _ (sw _) (c y H' hr)⟩⟩)⟩
theorem XAny_first{Q:Env→Heap→Prop}{i:Nat}{oi:Oper}{x:AV}(hi:ops[i]?=some oi)(hd:fits n oi.dst=true):
    ∀(fuel:Nat)(listed:Array Bool)(env:Env)(H:Heap),
      (∀j oj,ops[j]?=some oj→j≠i→listed.getD j true=false→(∀e∈oj.after,Region.binds .any e=true→e.on≠i)→oi.apart ops oj=true)→
      i∈Region.ready .any ops listed→Steady P ops oi env x→
      XAny P n ops Q fuel (listed.setIfInBounds i true) (env.put oi.dst x) H→XAny P n ops Q (fuel+1) listed env H:=by
  intro fuel;induction fuel with
  |zero=>
    intro listed env H _ hr hy hC;refine⟨λh=>(by rw[h]at hr;cases hr),λj hj=>?_⟩;by_cases hji:j=i
    · subst hji;exact hy.xop hi hd hC
    have:=ready_mono hj hji;rw[hC.1]at this;cases this
  |succ fuel ih=>
    intro listed env H hfree hr hy hC;refine⟨λh=>(by rw[h]at hr;cases hr),λj hj=>?_⟩;by_cases hji:j=i
    · subst hji;exact hy.xop hi hd hC
    have h1:=hC.2 j (ready_mono hj hji);obtain⟨hjun,oj,hoj,hall⟩:=mem_ready.1 hj;have hnot:∀e∈oj.after,Region.binds .any e=true→e.on≠i:=λe he hb heq=>by
      have h1:=hall e he hb;have h0:=(mem_ready.1 hr).1;rw[heq]at h1;rcases Nat.lt_or_ge i listed.size with h'|h'
      · simp[h']at h0 h1;rw[h0]at h1;cases h1
      simp[Array.getElem?_eq_none h']at h1
    have h2:=XOp.put hoj (hfree j oj hoj hji hjun hnot) (λe e' H he hk=>XAny.eqv fuel _ e e' H he hk) hy h1;have hfree':∀k ok,ops[k]?=some ok→k≠i→(listed.setIfInBounds j true).getD k true=false→
        (∀e∈ok.after,Region.binds .any e=true→e.on≠i)→oi.apart ops ok=true:=λk ok hk hki hun hno=>by
      refine hfree k ok hk hki ?_ hno;by_cases hjk:j=k
      · subst hjk;exact hjun
      rw[getD_set_ne true hjk]at hun;exact hun
    refine XOp.mono (λe H' h3=>ih (listed.setIfInBounds j true) e H' hfree' (ready_mono hr (Ne.symm hji)) h3.1 ?_) h2;rw[Array.setIfInBounds_comm _ _ hji];exact h3.2
def planB(ops:Array Oper):List (Nat×Bool)→Array Bool→Bool
  | [],listed=>(Region.ready .any ops listed).isEmpty
  |(i,p)::r,listed=>(if p then(Region.ready .any ops listed).contains i&&Region.free .any ops listed i else Region.ready .any ops listed==[i])&&planB ops r (listed.setIfInBounds i true)
def APlan(P:Program)(n:Fr)(ops:Array Oper)(Q:Exit→Env→Heap→Prop):List (Nat×Bool)→Env→Heap→Prop
  | [],env,H=>Q .normal env H
  |(i,p)::r,env,H=>∃o,ops[i]?=some o∧fits n o.dst=true∧
      ((p=true∧∃x,Steady P ops o env x∧APlan P n ops Q r (env.put o.dst x) H)∨
       (p=false∧Wanted ops (Env.only (o.looksAt ops) env) o true∧∃R,AStep P o (Env.only (o.looksAt ops) env) H R∧∀x H',R x H'→APlan P n ops Q r (env.put o.dst x) H'))
theorem XAny_of_plan{Q:Exit→Env→Heap→Prop}:∀(r:List (Nat×Bool))(listed:Array Bool)(env:Env)(H:Heap),planB ops r listed=true→APlan P n ops Q r env H→XAny P n ops (Q .normal) r.length listed env H
  | [],listed,env,H,hB,h=>⟨by simpa[planB]using hB,env,λ_=>rfl,h⟩
  |(i,p)::r,listed,env,H,hB,h=>by
    obtain⟨o,hi,hd,hcase⟩:=h;simp only[planB,Bool.and_eq_true]at hB;obtain⟨hB1,hB2⟩:=hB;rcases hcase with⟨rfl,x,hx,hk⟩|⟨rfl,hw,R,hx,hk⟩
    · simp only[if_true,Bool.and_eq_true]at hB1;exact XAny_first hi hd r.length listed env H (Region.free_spec hi hB1.2) (by simpa using hB1.1) hx (XAny_of_plan r _ _ H hB2 hk)
    simp only[Bool.false_eq_true,if_false,beq_iff_eq]at hB1;refine⟨λh0=>(by rw[hB1]at h0;cases h0),λj hj=>?_⟩;rw[hB1]at hj;have hji:j=i:=by simpa using hj
    subst hji;exact⟨o,hi,hd,.inr ⟨hw,R,hx,λy H' hR=>XAny_of_plan r _ _ H' hB2 (hk y H' hR)⟩⟩
theorem AWP.draw{Q:Exit→Env→Heap→Prop}{env:Env}{H:Heap}{id:Nat}{l:List Oper}(plan:List (Nat×Bool))(hm:P.follows .mixedOrders=true)
    (hB:((plan.length==l.length)&&planB l.toArray plan (Array.replicate l.length false))=true)
    (h:APlan P n l.toArray Q plan env H):AWP P n (.region id l.toArray true) Q env H:=by
  intro g a w hr hs;simp only[Bool.and_eq_true,beq_iff_eq]at hB;obtain⟨hlen,hB⟩:=hB;refine wp_region_any hm ?_;have hC:=XAny_of_plan plan _ env H hB h;rw[hlen]at hC;rw[show l.toArray.size=l.length by simp];exact wpAny_of_XAny (g0:=g) (λg' a' w' e H' hle hr' hs' hq=>⟨g',e,H',hle,hr',hs',hq⟩) _ _ g a _ env H (G.le.refl g) hr hs.drew hC
variable{Q:Exit→Env→Heap→Prop}{env:Env}{H:Heap}
theorem APlan.nil(h:Q .normal env H):APlan P n ops Q [] env H:=h
theorem APlan.free{i:Nat}{o:Oper}{r:List (Nat×Bool)}{x:AV}(hi:ops[i]?=some o)(hw:Wanted ops (Env.only (o.looksAt ops) env) o true)(hd:fits n o.dst=true)(h:AFree P o (Env.only (o.looksAt ops) env) x)(hk:APlan P n ops Q r (env.put o.dst x) H):
    APlan P n ops Q ((i,true)::r) env H:=⟨o,hi,hd,.inl ⟨rfl,x,.inl ⟨hw,h⟩,hk⟩⟩
theorem APlan.unwanted{i:Nat}{o:Oper}{r:List (Nat×Bool)}(hi:ops[i]?=some o)(hw:Wanted ops (Env.only (o.looksAt ops) env) o false)(hd:fits n o.dst=true)(hk:APlan P n ops Q r (env.put o.dst (.raw undef)) H):
    APlan P n ops Q ((i,true)::r) env H:=⟨o,hi,hd,.inl ⟨rfl,_,.inr ⟨hw,rfl⟩,hk⟩⟩
theorem APlan.step{i:Nat}{o:Oper}{r:List (Nat×Bool)}{R:AV→Heap→Prop}(hi:ops[i]?=some o)(hw:Wanted ops (Env.only (o.looksAt ops) env) o true)(hd:fits n o.dst=true)(h:AStep P o (Env.only (o.looksAt ops) env) H R)
    (hk:∀x H',R x H'→APlan P n ops Q r (env.put o.dst x) H'):APlan P n ops Q ((i,false)::r) env H:=⟨o,hi,hd,.inr ⟨rfl,hw,R,h,hk⟩⟩
end
/-! ### A call -/
def RelVs(g:G)(xs:List AV)(vs:List Value):Prop:=xs.length=vs.length∧∀(i:Nat) x v,xs[i]?=some x→vs[i]?=some v→RelV g x v
def ACall(P:Program)(f:FuncId)(xs:List AV)(H:Heap)(R:AV→Heap→Prop):Prop:=
  ∀g vs w,RelVs g xs vs→Sat g H w→Calls P f vs.toArray w (λe w'=>∃v,e= .returned v∧∃g' x H',g.le g'∧RelV g' x v∧Sat g' H' w'∧R x H')
theorem ACall.mono{P:Program}{f:FuncId}{xs:List AV}{H:Heap}{R R':AV→Heap→Prop}(h:ACall P f xs H R)(hr:∀x H',R x H'→R' x H'):ACall P f xs H R':=
  λg vs w k s=>(h g vs w k s).mono λ_ _ ⟨v,he,g',x,H',h1,h2,h3,h4⟩=>⟨v,he,g',x,H',h1,h2,h3,hr _ _ h4⟩
inductive Weak:AV→AV→Prop
  |refl (x):Weak x x
  |slice (sz xs tl):Weak (.slice sz xs tl) (.slice sz xs .shared)
theorem Weak.rel{x y:AV}(h:Weak x y){g:G}{v:Value}(k:RelV g x v):RelV g y v:=by
  cases h with
  |refl=>exact k
  |slice sz xs tl=>
    cases k with
    |nilSlice=>exact .nilSlice _ _
    |voidSlice=>exact .voidSlice _ _
    |slice sz xs tl b off cap vs h1 h2 h3 h4 h5 h6=>exact .slice sz xs .shared b off cap vs h1 h2 h3 h4 h5 trivial
inductive Res (P:Program) (env:Env) (H:Heap):ResultVar→AV→Prop
  |tmp (t x) (h:env.get? t=some x):Res P env H (.tmp t) x
  |weak (t x y) (h:env.get? t=some x) (hw:Weak x y):Res P env H (.tmp t) y
  |cell1 (t T b o S cs x) (h:env.get? t=some (.ptr (some ⟨b,o,none⟩))) (hb:H.objs b=some (.box S cs)) (hx:cs[o]?=some x) (ha:∀w,(isAgg T).run P w= .ok false w):Res P env H (.cell t T) x
  |cellN (t T b o k S cs) (h:env.get? t=some (.ptr (some ⟨b,o,none⟩))) (hb:H.objs b=some (.box S cs)) (ha:∀w,(isAgg T).run P w= .ok true w) (hs:∀w,(sizeOf T).run P w= .ok k w) (hk:o+k≤cs.length):
      Res P env H (.cell t T) (.agg ((cs.drop o).take k))
  |cellI (t T k cs) (h:env.get? t=some (.iptr cs)) (ha:∀w,(isAgg T).run P w= .ok true w) (hs:∀w,(sizeOf T).run P w= .ok k w) (hk:Nat.ble k cs.length=true):Res P env H (.cell t T) (.agg (cs.take k))
theorem Addr.add_off(b o n:Nat):(⟨b,o,none⟩:Addr).add n=⟨b,o+n,none⟩:=by
  unfold Addr.add;split
  · rename_i h;subst h;rfl
  rfl
theorem box_load{P:Program}{g:G}{H:Heap}{w:World}(s:Sat g H w){b o k:Nat}{S:TypeId}{cs:List AV}(hb:H.objs b=some (.box S cs))(hk:o+k≤cs.length):
    ∃vs:Array Value,(loadCells ⟨b,o,none⟩ k).run P w= .ok vs w∧RelCells g ((cs.drop o).take k) vs:=by
  obtain⟨us,hu,hn,hr⟩:=s.box b S cs hb;refine⟨us.extract o (o+k),?_,?_,?_⟩
  · have:=run_loadCells_list (P:=P) (w:=w) ⟨b,o,none⟩ (us.extract o (o+k)).toList (λj v hj=>by
      rw[Addr.add_off];rw[hu.cell];simp only[Array.getElem?_toList,Array.getElem?_extract]at hj;split at hj
      · simpa using hj
      cases hj)
    rw[show(us.extract o (o+k)).toList.length=k by simp;omega]at this;simpa only[Array.toArray_toList]using this
  · simp;omega
  intro i c v hc hv;simp only[Array.getElem?_extract]at hv;rw[List.getElem?_take]at hc;split at hc
  · rw[List.getElem?_drop]at hc;split at hv
    · exact hr (o+i) c v hc hv
    cases hv
  cases hc
theorem imm_load{P:Program}{g:G}{b off k:Nat}{cs:List AV}{vs:Nat→Value}(hi:∀i,i<cs.length→g.imm b (off+i)=some (vs i))(hr:∀i c,cs[i]?=some c→RelV g c (vs i))(hk:k≤cs.length):
    RelCells g (cs.take k) (Array.ofFn (n:=k) λi=>vs i)∧∀w,(∀b k u,g.imm b k=some u→w.cell? ⟨b,k,none⟩=some u)→(loadCells ⟨b,off,none⟩ k).run P w= .ok (Array.ofFn (n:=k) λi=>vs i) w:=by
  refine⟨⟨by simp;omega,λi c v hc hv=>?_⟩,λw hw=>?_⟩
  · rw[List.getElem?_take]at hc;split at hc
    · rename_i hlt
      have:v=vs i:=by simpa[hlt]using hv.symm
      subst this;exact hr i c hc
    cases hc
  have:=run_loadCells_list (P:=P) (w:=w) ⟨b,off,none⟩ (Array.ofFn (n:=k) λi=>vs i).toList (λj v hj=>by
    rw[Addr.add_off];simp only[Array.getElem?_toList]at hj;have hj':j<k:=by
      rcases Nat.lt_or_ge j k with h|h
      · exact h
      simp[Nat.not_lt.2 h]at hj
    have:vs j=v:=by simpa[hj']using hj
    subst this;exact hw _ _ _ (hi j (by omega)))
  rw[show(Array.ofFn (n:=k) λi=>vs i).toList.length=k by simp]at this;simpa only[Array.toArray_toList]using this
def resOf(tmps:Array Value):ResultVar→Sem Value
  | .tmp t=>pure (tmps.getD t undef)
  | .cell d t=>do loadVar t (←asAddr (tmps.getD d undef))
theorem results_eq(fn:Func)(tmps:Array Value):results fn tmps=(fn.results.mapM (resOf tmps)>>=λvs=>pure (if h:vs.size=1 then vs[0]else .tuple vs)):=rfl
theorem Res.run{P:Program}{g:G}{n:Fr}{env:Env}{H:Heap}{a:Act}{w:World}(k:RelAct g n env a)(s:Sat g H w){r:ResultVar}{x:AV}(h:Res P env H r x):
    ∃v,RelV g x v∧(resOf a.tmps r).run P w= .ok v w:=by
  cases h with
  |tmp t x h=>
    obtain⟨v,hv,hr⟩:=k.at_ t x h;exact⟨v,hr,by simp[resOf,hv]⟩
  |weak t x y h hw=>
    obtain⟨v,hv,hr⟩:=k.at_ t x h;exact⟨v,hw.rel hr,by simp[resOf,hv]⟩
  |cell1 t T b o S cs x h hb hx ha=>
    obtain⟨v,hv,hr⟩:=k.at_ t _ h;cases hr
    obtain⟨u,hu,hru⟩:=s.box_cell hb hx;exact⟨u,hru,by simp[resOf,hv,asAddr,loadVar,ha,hu]⟩
  |cellN t T b o m S cs h hb ha hs hk=>
    obtain⟨v,hv,hr⟩:=k.at_ t _ h;cases hr
    obtain⟨vs,hrun,hrel⟩:=box_load (P:=P) s hb hk;exact⟨.agg vs,.agg _ vs hrel.1 hrel.2,by simp[resOf,hv,asAddr,loadVar,ha,hs,hrun]⟩
  |cellI t T m cs h ha hs hk=>
    obtain⟨v,hv,hr⟩:=k.at_ t _ h;have hk:=Nat.le_of_ble_eq_true hk;cases hr with
    |iptr cs b off vs hi hr=>
      obtain⟨h1,h2⟩:=imm_load (P:=P) hi hr hk;exact⟨_,.agg _ _ h1.1 h1.2,by simp[resOf,hv,asAddr,loadVar,ha,hs,h2 w s.imm]⟩
inductive Ress (P:Program) (env:Env) (H:Heap):List ResultVar→List AV→Prop
  |nil:Ress P env H [] []
  |cons {r x rs xs} (h:Res P env H r x) (k:Ress P env H rs xs):Ress P env H (r::rs) (x::xs)
def packed:List AV→AV
  | [x]=>x
  |xs=>.tuple xs
theorem Ress.run{P:Program}{g:G}{n:Fr}{env:Env}{H:Heap}{a:Act}{w:World}(k:RelAct g n env a)(s:Sat g H w){fn:Func}{xs:List AV}(h:Ress P env H fn.results.toList xs):
    ∃v,RelV g (packed xs) v∧(results fn a.tmps).run P w= .ok v w:=by
  have key:∀(rs:List ResultVar)(xs:List AV),Ress P env H rs xs→∃vs:List Value,xs.length=vs.length∧(∀(i:Nat) x v,xs[i]?=some x→vs[i]?=some v→RelV g x v)∧
      (rs.mapM (resOf a.tmps)).run P w= .ok vs w:=by
    intro rs xs h;induction h with
    |nil=>exact⟨[],rfl,λi x v hx _=>by simp at hx,by simp⟩
    | @cons r x rs xs h _ ih=>
      obtain⟨vs,h1,h2,h3⟩:=ih;obtain⟨v,hv,hrun⟩:=h.run k s;refine⟨v::vs,by simp[h1],λi y u hy hu=>?_,?_⟩
      · cases i with
        |zero=>simp at hy hu;subst hy;subst hu;exact hv
        |succ i=>simp at hy hu;exact h2 i y u hy hu
      rw[List.mapM_cons,Sem.run_bind,hrun,Result.andThen_ok,Sem.run_bind,h3,Result.andThen_ok,Sem.run_pure]
  obtain⟨vs,h1,h2,h3⟩:=key _ _ h;have hm:(fn.results.mapM (resOf a.tmps)).run P w= .ok vs.toArray w:=by
    rw[Array.mapM_eq_mapM_toList,Sem.run_map,h3];rfl
  rw[results_eq,Sem.run_bind];refine⟨if h:vs.toArray.size=1 then vs.toArray[0]else .tuple vs.toArray,?_,?_⟩
  · by_cases hsz:vs.toArray.size=1
    · rw[dif_pos hsz]
      match vs,xs,h1,h2,hsz with
      | [v],[x],_,h2,_=>exact h2 0 x v rfl rfl
    rw[dif_neg hsz];have hp:packed xs= .tuple xs:=by
      match xs,h1 with
      | [],_=>rfl
      | [x],h1=>simp at hsz;simp at h1;omega
      |x::y::r,_=>rfl
    rw[hp];exact .tuple xs vs.toArray (by simp[h1]) (λi x v hx hv=>h2 i x v hx (by simpa using hv))
  rw[hm];rfl
def argEnv:Nat→List AV→Env
  |_,[]=>[]
  |i,x::xs=>(i,x)::argEnv (i+1) xs
theorem argEnv_get{xs:List AV}:∀{i t:Nat}{x:AV},(argEnv i xs).get? t=some x→i≤t∧xs[t-i]?=some x:=by
  induction xs with
  |nil=>intro i t x h;cases h
  |cons y xs ih=>
    intro i t x h;simp only[argEnv,Env.get?]at h;cases hk:Nat.beq i t with
    |true=>
      rw[hk]at h;have:i=t:=Nat.eq_of_beq_eq_true hk;subst this;cases h
      exact⟨Nat.le_refl _,by simp⟩
    |false=>
      rw[hk]at h;have hne:i≠t:=Nat.ne_of_beq_eq_false hk;obtain⟨h1,h2⟩:=ih h;refine⟨by omega,?_⟩;rw[show t-i=(t-(i+1))+1 by omega,List.getElem?_cons_succ];exact h2
def Ret.q(P:Program)(rs:List ResultVar)(R:AV→Heap→Prop):Exit→Env→Heap→Prop
  | .normal,env,H| .ret,env,H=>∃xs H',Ress P env H rs xs∧H'.le H∧R (packed xs) H'
  |_,_,_=>False
theorem Ret.go{P:Program}{rs:List ResultVar}{R:AV→Heap→Prop}{env:Env}{H:Heap}{xs:List AV}(hr:Ress P env H rs xs)(H':Heap)(hl:H'.le H)(h:R (packed xs) H'):Ret.q P rs R .ret env H:=⟨xs,H',hr,hl,h⟩
theorem Ret.go'{P:Program}{rs:List ResultVar}{R:AV→Heap→Prop}{env:Env}{H:Heap}{xs:List AV}(hr:Ress P env H rs xs)(H':Heap)(hl:H'.le H)(h:R (packed xs) H'):Ret.q P rs R .normal env H:=⟨xs,H',hr,hl,h⟩
theorem ACall.of_body{P:Program}{f:FuncId}{fn:Func}{c:Code}{xs:List AV}{H:Heap}{R:AV→Heap→Prop}{n:Nat}{rs:List ResultVar}(hf:P.funcs[f]?=some fn)(hb:fn.body=some c)(hnt:fn.ntmps=n)(hrs:fn.results=rs.toArray)(hn:Nat.ble xs.length n=true)
    (h:AWP P ⟨n,[]⟩ c (Ret.q P rs R) (argEnv 0 xs) H):ACall P f xs H R:=by
  intro g vs w hvs hs;have hn:=Nat.le_of_ble_eq_true hn;subst hnt;obtain⟨hlen,hrel⟩:=hvs;refine calls_of_wp hf hb ?_;have hsz:(vs.toArray++Array.replicate (fn.ntmps-vs.toArray.size) undef).size=fn.ntmps:=by simp;omega
  refine wp_mono (h g _ w ⟨hsz,rfl,λt x hx=>?_⟩ hs) ?_
  · obtain⟨_,hx⟩:=argEnv_get hx;have ht:t<xs.length:=(List.getElem?_eq_some_iff.1 (by simpa using hx)).1;have htv:t<vs.length:=by omega
    refine⟨vs[t],by simp[Array.getElem?_append,htv],hrel t x _ (by simpa using hx) (List.getElem?_eq_getElem htv)⟩
  rintro e a' w' ⟨g',env',H',hle,hr,hs',hq⟩;cases e with
  |normal|ret=>
    obtain⟨ys,H'',hres,hl,hR⟩:=hq;obtain⟨v,hv,hrun⟩:=Ress.run (fn:=fn) hr hs' (by rw[hrs];exact hres);exact⟨hr.defers,v,hrun,v,rfl,g',packed ys,H'',hle,hv,hs'.weaken hl,hR⟩
  |_=>exact hq.elim
end
section
def imin(a b:Int):Int:=if b<a then b else a
def imax(a b:Int):Int:=if a<b then b else a
theorem G.le.id{g:G}:g.le g:=G.le.refl g
section
variable{P:Program}{env:Env}{dst:Option Tmp}{ty:TypeId}{pos:String}{af:Array Edge}{gd:Option (Nat×Bool)}
theorem ev_int{k:IntKind}{n:Int}:Ev env (.const (.int k n)) (.int k n):=.const _ _ λ_=>.int k n
theorem ev_bool{b:Bool}:Ev env (.const (.bool b)) (.bool b):=.const _ _ λ_=>.bool b
theorem ev_nil{sz:Nat}{tl:Tail}:Ev env (.const (.slice none 0 0)) (.slice sz [] tl):=.const _ _ λ_=>.nilSlice sz tl
theorem ev_nilptr:Ev env (.const (.pointer none)) (.ptr none):=.const _ _ λ_=>.ptr none
theorem pure_of{o:Oper}{x:AV}(h:∀g n a,RelAct g n env a→∃v,RelV g x v∧∀w,(∀b k u,g.imm b k=some u→w.cell? ⟨b,k,none⟩=some u)→(execOp a.eval o).run P w= .ok (.value v) w):APure P o env x:=h
theorem pure_move{x:Operand}{y:AV}(h:Ev env x y):APure P ⟨dst,.move x,ty,pos,af,gd⟩ env y:=
  λ_ _ a k=>⟨a.eval x,h.rel k,λ_ _=>rfl⟩
theorem pure_assign{x:Operand}{y:AV}(h:Ev env x y):APure P ⟨dst,.assign x,ty,pos,af,gd⟩ env y:=
  λ_ _ a k=>⟨a.eval x,h.rel k,λ_ _=>rfl⟩
theorem pure_pick{c x y:Operand}{t:Bool}{z:AV}(hc:Ev env c (.bool t))(hx:t=true→Ev env x z)(hy:t=false→Ev env y z):APure P ⟨dst,.pick c x y,ty,pos,af,gd⟩ env z:=by
  intro g n a k;have hv:=hc.rel k;generalize he:a.eval c=v at hv;cases hv
  cases t with
  |true=>exact⟨a.eval x,(hx rfl).rel k,λw _=>by simp[execOp,he,asBool]⟩
  |false=>exact⟨a.eval y,(hy rfl).rel k,λw _=>by simp[execOp,he,asBool]⟩
/-! integers -/
theorem pure_int2{op:BinOp}{T T':TypeId}{x y:Operand}{k:IntKind}{m q:Int}{r:AV}(hx:Ev env x (.int k m))(hy:Ev env y (.int k q))
    (h:∀g,∃v,RelV g r v∧∀w,(binOp op T (.int k m) (.int k q)).run P w= .ok v w):APure P ⟨dst,.binOp op T x y T',ty,pos,af,gd⟩ env r:=by
  intro g n a ka;have hv:=hx.rel ka;have hu:=hy.rel ka;generalize he:a.eval x=v at hv;generalize hf:a.eval y=u at hu;cases hv;cases hu
  obtain⟨r,h1,h2⟩:=h g;refine⟨r,h1,λw _=>?_⟩;simp only[execOp,he,hf];have hg:(eqGuard op T x y (.int k m) (.int k q)).run P w= .ok () w:=by cases op<;>rfl
  simp[hg,h2]
theorem pure_addW{T T':TypeId}{x y:Operand}{k:IntKind}{m q:Int}(hx:Ev env x (.int k m))(hy:Ev env y (.int k q)):APure P ⟨dst,.binOp .add T x y T',ty,pos,af,gd⟩ env (.int k (k.wrap (m+q))):=
  pure_int2 hx hy λ_=>⟨_,.int _ _,λw=>by simp[binOp,Op.intArith]⟩
theorem pure_subW{T T':TypeId}{x y:Operand}{k:IntKind}{m q:Int}(hx:Ev env x (.int k m))(hy:Ev env y (.int k q)):APure P ⟨dst,.binOp .sub T x y T',ty,pos,af,gd⟩ env (.int k (k.wrap (m-q))):=
  pure_int2 hx hy λ_=>⟨_,.int _ _,λw=>by simp[binOp,Op.intArith]⟩
theorem pure_mulW{T T':TypeId}{x y:Operand}{k:IntKind}{m q:Int}(hx:Ev env x (.int k m))(hy:Ev env y (.int k q)):APure P ⟨dst,.binOp .mul T x y T',ty,pos,af,gd⟩ env (.int k (k.wrap (m*q))):=
  pure_int2 hx hy λ_=>⟨_,.int _ _,λw=>by simp[binOp,Op.intArith]⟩
theorem wrap_of{k:IntKind}{n:Int}(h1:k.min≤n)(h2:n≤k.max):k.wrap n=n:=by
  cases k<;>simp only[IntKind.wrap,IntKind.min,IntKind.max,IntKind.bits,IntKind.signed]at * <;>simp at * <;>omega
theorem pure_add{T T':TypeId}{x y:Operand}{m q:Int}(hx:Ev env x (.int .i64 m))(hy:Ev env y (.int .i64 q))(h: -9223372036854775808≤m+q∧m+q≤9223372036854775807):
    APure P ⟨dst,.binOp .add T x y T',ty,pos,af,gd⟩ env (.int .i64 (m+q)):=by
  have:=pure_addW (P:=P) (dst:=dst) (T:=T) (T':=T') (ty:=ty) (pos:=pos) (af:=af) (gd:=gd) hx hy
  rwa[wrap_of (k:=.i64) h.1 h.2]at this
theorem pure_sub{T T':TypeId}{x y:Operand}{m q:Int}(hx:Ev env x (.int .i64 m))(hy:Ev env y (.int .i64 q))(h: -9223372036854775808≤m-q∧m-q≤9223372036854775807):
    APure P ⟨dst,.binOp .sub T x y T',ty,pos,af,gd⟩ env (.int .i64 (m-q)):=by
  have:=pure_subW (P:=P) (dst:=dst) (T:=T) (T':=T') (ty:=ty) (pos:=pos) (af:=af) (gd:=gd) hx hy
  rwa[wrap_of (k:=.i64) h.1 h.2]at this
theorem pure_mul{T T':TypeId}{x y:Operand}{m q:Int}(hx:Ev env x (.int .i64 m))(hy:Ev env y (.int .i64 q))(h: -9223372036854775808≤m*q∧m*q≤9223372036854775807):
    APure P ⟨dst,.binOp .mul T x y T',ty,pos,af,gd⟩ env (.int .i64 (m*q)):=by
  have:=pure_mulW (P:=P) (dst:=dst) (T:=T) (T':=T') (ty:=ty) (pos:=pos) (af:=af) (gd:=gd) hx hy
  rwa[wrap_of (k:=.i64) h.1 h.2]at this
theorem pure_rem{T T':TypeId}{x y:Operand}{k:IntKind}{m q:Int}(hx:Ev env x (.int k m))(hy:Ev env y (.int k q))(h:q≠0):APure P ⟨dst,.binOp .rem T x y T',ty,pos,af,gd⟩ env (.int k (m.tmod q)):=
  pure_int2 hx hy λ_=>⟨_,.int _ _,λw=>by simp[binOp,Op.intDiv,h]⟩
theorem pure_quoW{T T':TypeId}{x y:Operand}{k:IntKind}{m q:Int}(hx:Ev env x (.int k m))(hy:Ev env y (.int k q))(h:q≠0):APure P ⟨dst,.binOp .quo T x y T',ty,pos,af,gd⟩ env (.int k (k.wrap (m.tdiv q))):=
  pure_int2 hx hy λ_=>⟨_,.int _ _,λw=>by simp[binOp,Op.intDiv,h]⟩
theorem pure_quo{T T':TypeId}{x y:Operand}{m q:Int}(hx:Ev env x (.int .i64 m))(hy:Ev env y (.int .i64 q))(hm: -9223372036854775808≤m∧m≤9223372036854775807)(h:1≤q):
    APure P ⟨dst,.binOp .quo T x y T',ty,pos,af,gd⟩ env (.int .i64 (m.tdiv q)):=by
  have:=pure_quoW (P:=P) (dst:=dst) (T:=T) (T':=T') (ty:=ty) (pos:=pos) (af:=af) (gd:=gd) hx hy (by omega);have h1:(m.tdiv q).natAbs≤m.natAbs:=by rw[Int.natAbs_tdiv];exact Nat.div_le_self _ _
  rwa[wrap_of (k:=.i64) (n:=m.tdiv q) (by
    show(-9223372036854775808:Int)≤_;rcases Int.le_total 0 m with h0|h0
    · have:=Int.tdiv_nonneg h0 (by omega:0≤q);omega
    · omega) (by
    show _≤(9223372036854775807:Int);rcases Int.le_total 0 m with h0|h0
    · omega
    have:=Int.tdiv_nonneg (by omega:0≤ -m) (by omega:0≤q);rw[Int.neg_tdiv]at this;omega)]at this
theorem pure_lss{T T':TypeId}{x y:Operand}{k:IntKind}{m q:Int}(hx:Ev env x (.int k m))(hy:Ev env y (.int k q)):APure P ⟨dst,.binOp .lss T x y T',ty,pos,af,gd⟩ env (.bool (decide (m<q))):=
  pure_int2 hx hy λ_=>⟨_,.bool _,λw=>by simp[binOp,Op.intCmp]⟩
theorem pure_leq{T T':TypeId}{x y:Operand}{k:IntKind}{m q:Int}(hx:Ev env x (.int k m))(hy:Ev env y (.int k q)):APure P ⟨dst,.binOp .leq T x y T',ty,pos,af,gd⟩ env (.bool (decide (m≤q))):=
  pure_int2 hx hy λ_=>⟨_,.bool _,λw=>by simp[binOp,Op.intCmp]⟩
theorem pure_gtr{T T':TypeId}{x y:Operand}{k:IntKind}{m q:Int}(hx:Ev env x (.int k m))(hy:Ev env y (.int k q)):APure P ⟨dst,.binOp .gtr T x y T',ty,pos,af,gd⟩ env (.bool (decide (q<m))):=
  pure_int2 hx hy λ_=>⟨_,.bool _,λw=>by simp[binOp,Op.intCmp]⟩
theorem pure_geq{T T':TypeId}{x y:Operand}{k:IntKind}{m q:Int}(hx:Ev env x (.int k m))(hy:Ev env y (.int k q)):APure P ⟨dst,.binOp .geq T x y T',ty,pos,af,gd⟩ env (.bool (decide (q≤m))):=
  pure_int2 hx hy λ_=>⟨_,.bool _,λw=>by simp[binOp,Op.intCmp]⟩
theorem pure_eql{T T':TypeId}{x y:Operand}{k:IntKind}{m q:Int}(hx:Ev env x (.int k m))(hy:Ev env y (.int k q)):APure P ⟨dst,.binOp .eql T x y T',ty,pos,af,gd⟩ env (.bool (decide (m=q))):=
  pure_int2 hx hy λ_=>⟨_,.bool _,λw=>by simp[binOp,Op.intCmp];rfl⟩
theorem pure_neq{T T':TypeId}{x y:Operand}{k:IntKind}{m q:Int}(hx:Ev env x (.int k m))(hy:Ev env y (.int k q)):APure P ⟨dst,.binOp .neq T x y T',ty,pos,af,gd⟩ env (.bool (decide (m≠q))):=
  pure_int2 hx hy λ_=>⟨_,.bool _,λw=>by simp[binOp,Op.intCmp,bne];rfl⟩
theorem pure_not{T:TypeId}{x:Operand}{b:Bool}(hx:Ev env x (.bool b)):APure P ⟨dst,.unOp .not T x,ty,pos,af,gd⟩ env (.bool !b):=by
  intro g n a ka;have hv:=hx.rel ka;generalize he:a.eval x=v at hv;cases hv
  exact⟨_,.bool _,λw _=>by simp[execOp,he,Op.unary]⟩
theorem pure_negW{T:TypeId}{x:Operand}{k:IntKind}{m:Int}(hx:Ev env x (.int k m)):APure P ⟨dst,.unOp .neg T x,ty,pos,af,gd⟩ env (.int k (k.wrap (0-m))):=by
  intro g n a ka;have hv:=hx.rel ka;generalize he:a.eval x=v at hv;cases hv
  exact⟨_,.int _ _,λw _=>by simp[execOp,he,Op.unary,Op.intArith]⟩
theorem pure_neg{T:TypeId}{x:Operand}{m:Int}(hx:Ev env x (.int .i64 m))(h: -9223372036854775807≤m∧m≤9223372036854775807):APure P ⟨dst,.unOp .neg T x,ty,pos,af,gd⟩ env (.int .i64 (-m)):=by
  have:=pure_negW (P:=P) (dst:=dst) (T:=T) (ty:=ty) (pos:=pos) (af:=af) (gd:=gd) hx
  rwa[wrap_of (k:=.i64) (n:=0-m) (by show(-9223372036854775808:Int)≤_;omega) (by show _≤(9223372036854775807:Int);omega),show(0:Int)-m= -m by omega]at this
/-! len -/
theorem ev1{x:Operand}{y:AV}(hx:Ev env x y){g:G}{n:Fr}{a:Act}(ka:RelAct g n env a):∃v,a.eval x=v∧RelV g y v:=⟨_,rfl,hx.rel ka⟩
theorem execCall_builtin(ρ:Operand→Value)(b:Builtin)(args:Array Operand)(ats:Array TypeId):
    execOp ρ ⟨dst,.call {callee:=.builtin b,args:=args,argTypes:=ats},ty,pos,af,gd⟩=builtin b ats ty (args.map fun| .const _=>true|_=>false) (args.map ρ):=rfl
theorem pure_lenS{T E:TypeId}{x:Operand}{sz:Nat}{xs:List AV}{tl:Tail}(hu:P.underlying T=some (.slice E))(hx:Ev env x (.slice sz xs tl)):
    APure P ⟨dst,.call {callee:=.builtin .len,args:= #[x],argTypes:= #[T]},ty,pos,af,gd⟩ env (.int .i64 xs.length):=by
  intro g n a ka;obtain⟨v,he,hv⟩:=ev1 hx ka;have hu':∀w,(underlying T).run P w= .ok (.slice E) w:=λw=>by simp[underlying,hu]
  cases hv with
  |nilSlice=>exact⟨_,.int _ _,λw _=>by simp[execCall_builtin,builtin,Builtin.len_,he,hu',goInt]⟩
  |voidSlice=>exact⟨_,.int _ _,λw _=>by simp[execCall_builtin,builtin,Builtin.len_,he,hu',goInt]⟩
  |slice=>exact⟨_,.int _ _,λw _=>by simp[execCall_builtin,builtin,Builtin.len_,he,hu',goInt]⟩
theorem pure_lenM{T E:TypeId}{x:Operand}{p:Option Addr}{l c:Nat}(hu:P.underlying T=some (.slice E))(hx:Ev env x (.mslice p l c)):
    APure P ⟨dst,.call {callee:=.builtin .len,args:= #[x],argTypes:= #[T]},ty,pos,af,gd⟩ env (.int .i64 l):=by
  intro g n a ka;obtain⟨v,he,hv⟩:=ev1 hx ka;have hu':∀w,(underlying T).run P w= .ok (.slice E) w:=λw=>by simp[underlying,hu]
  cases hv
  exact⟨_,.int _ _,λw _=>by simp[execCall_builtin,builtin,Builtin.len_,he,hu',goInt]⟩
theorem pure_lenStr{T:TypeId}{x:Operand}{s:List UInt8}(hu:P.underlying T=some .string)(hx:Ev env x (.str s)):
    APure P ⟨dst,.call {callee:=.builtin .len,args:= #[x],argTypes:= #[T]},ty,pos,af,gd⟩ env (.int .i64 s.length):=by
  intro g n a ka;obtain⟨v,he,hv⟩:=ev1 hx ka;have hu':∀w,(underlying T).run P w= .ok .string w:=λw=>by simp[underlying,hu]
  cases hv
  exact⟨_,.int _ _,λw _=>by simp[execCall_builtin,builtin,Builtin.len_,he,hu',goInt];rfl⟩
theorem pure_min2{ts:Array TypeId}{x y:Operand}{k:IntKind}{m q:Int}(hx:Ev env x (.int k m))(hy:Ev env y (.int k q)):
    APure P ⟨dst,.call {callee:=.builtin .min,args:= #[x,y],argTypes:=ts},ty,pos,af,gd⟩ env (.int k (imin m q)):=by
  intro g n a ka;obtain⟨v,he,hv⟩:=ev1 hx ka;obtain⟨u,hf,hu⟩:=ev1 hy ka;cases hv;cases hu
  exact⟨_,.int _ _,λw _=>by simp[execCall_builtin,builtin,Builtin.min_,Builtin.min2,he,hf,imin]⟩
theorem pure_max2{ts:Array TypeId}{x y:Operand}{k:IntKind}{m q:Int}(hx:Ev env x (.int k m))(hy:Ev env y (.int k q)):
    APure P ⟨dst,.call {callee:=.builtin .max,args:= #[x,y],argTypes:=ts},ty,pos,af,gd⟩ env (.int k (imax m q)):=by
  intro g n a ka;obtain⟨v,he,hv⟩:=ev1 hx ka;obtain⟨u,hf,hu⟩:=ev1 hy ka;cases hv;cases hu
  exact⟨_,.int _ _,λw _=>by simp[execCall_builtin,builtin,Builtin.max_,Builtin.max2,he,hf,imax]⟩
end
end
end Go.Proofs.YtojblnldfdeefaaGreatDoor
