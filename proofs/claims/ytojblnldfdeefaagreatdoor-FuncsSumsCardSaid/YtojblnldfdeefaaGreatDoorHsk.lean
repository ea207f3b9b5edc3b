/-
  The functions' names; a name is searched for; closed calls of plain data: what the evaluator says of them, in the frame of the walks.
-/
import Derived.Test.YtojblnldfdeefaaGreatDoorH1
import Derived.Test.YtojblnldfdeefaaGreatDoorG4k
namespace Go.Proofs.YtojblnldfdeefaaGreatDoor
open Go Go.RowKit Go.Shelf
set_option maxRecDepth 100000
def bsAt(ss:List (List UInt8))(x:List UInt8):Nat:=Lib.bsGo (λt=>Op.bytesLess (ss.getD t []) x) ss.length 0 ss.length
def bsHas(ss:List (List UInt8))(x:List UInt8):Bool:=decide (bsAt ss x<ss.length∧ss.getD (bsAt ss x) []=x)
theorem BS_calls(ss:List (List UInt8))(tl:Tail)(x:List UInt8)(h0:0<ss.length)(hn:ss.length<1000)(H:Heap):ACall Tryz.prog 21 [.slice 1 (ss.map .str) tl,.str x] H (λy H'=>y= .tuple [.int .i64 (bsAt ss x),.bool (bsHas ss x)]∧H'=H):=by
  intro g vs w hr hs;obtain⟨v,u,rfl,hv,hu⟩:∃v u,vs=[v,u]∧RelV g (.slice 1 (ss.map .str) tl) v∧RelV g (.str x) u:=by
    obtain⟨hl,hr⟩:=hr
    match vs,hl with
    | [v,u],_=>exact⟨v,u,rfl,hr 0 _ _ rfl rfl,hr 1 _ _ rfl rfl⟩
  cases hu with
  |str x hx=>
  generalize hxs:ss.map AV.str=xs at hv;have hlen:xs.length=ss.length:=by rw[←hxs,List.length_map]
  cases hv with
  |nilSlice=>simp at hlen;omega
  |voidSlice=>simp at hlen;omega
  |slice sz xs tl b off cap us hsz hi hrr hl1 hl2 htl=>
    have hcell:∀j,j<ss.length→w.cell? ⟨b,off+j,none⟩=some (.string ⟨(ss.getD j []).toArray⟩):=λj hj=>by
      have h1:xs[j]?=some (.str (ss.getD j [])):=by
        rw[←hxs,List.getElem?_map,List.getD_eq_getElem?_getD,List.getElem?_eq_getElem hj];rfl
      have h2:=hrr j 0 _ _ h1 (show(AV.str (ss.getD j [])).cells[0]?=some (.str (ss.getD j []))from rfl);have h3:=hi j (by omega);have h4:=hs.imm b (off+j) _ h3;rw[show j*1+0=j by omega]at h2;generalize us j=z at *;generalize ss.getD j []=q at *;cases h2
      exact h4
    rw[hlen];refine Calls.mono (Go.Proofs.Any2.slices_BinarySearch_string Cc.searchL b off ss.length cap (λj=>⟨(ss.getD j []).toArray⟩) ⟨x.toArray⟩ w (by omega) hcell) ?_;rintro e w' ⟨rfl,k,rfl⟩;simp only[Lib.toList_data];have eq1:∀a b:List UInt8,((⟨a.toArray⟩:ByteArray)=⟨b.toArray⟩)=(a=b):=λa b=>by simp
    simp only[eq1];exact⟨_,rfl,g,_,H,G.le.refl g,.tuple _ _ rfl (λi c v hc hv=>by
      match i with
      |0=>cases hc;cases hv;exact .int _ _
      |1=>cases hc;cases hv;exact .bool _
      |i+2=>simp at hc),hs.grow (below_drawn _ _ _),rfl,rfl⟩
def flB:Cc.V→Bool
  | .int _ _=>true
  | .str _=>true
  | .bool _=>true
  |_=>false
def flC:Cc.V→AV
  | .int k n=>.int k n
  | .str s=>.str s
  | .bool b=>.bool b
  |_=>.raw undef
def flOK:Cc.V→Bool
  | .agg cs=>cs.all flB
  | .tuple cs=>cs.all flB
  |x=>flB x
def flA:Cc.V→AV
  | .agg cs=>.agg (cs.map flC)
  | .tuple cs=>.tuple (cs.map flC)
  |x=>flC x
theorem fl_in1{gc:Cc.G}{g:G}{x:Cc.V}{v:Value}(h:flB x=true)(r:RelV g (flC x) v):Cc.RelV gc x v:=by
  cases x<;>first|(cases h;done)|(cases r;first|exact .int _ _|exact .bool _|exact .str _ (by assumption))
theorem fl_out1{gc:Cc.G}{g:G}{x:Cc.V}{v:Value}(h:flB x=true)(r:Cc.RelV gc x v):RelV g (flC x) v:=by
  cases r<;>first|exact .int _ _|exact .bool _|exact .str _ (by assumption)|cases h
theorem fl_in{gc:Cc.G}{g:G}{x:Cc.V}{v:Value}(h:flOK x=true)(r:RelV g (flA x) v):Cc.RelV gc x v:=by
  cases x with
  |agg cs=>
    cases r with
    |agg _ vs hn hr=>
      refine .agg cs vs (by rw[←hn,List.length_map]) λi c v hc hv=>?_;exact fl_in1 (List.all_eq_true.1 h c (List.mem_of_getElem? hc)) (hr i _ v (by rw[List.getElem?_map,hc];rfl) hv)
  |tuple cs=>
    cases r with
    |tuple _ vs hn hr=>
      refine .tuple cs vs (by rw[←hn,List.length_map]) λi c v hc hv=>?_;exact fl_in1 (List.all_eq_true.1 h c (List.mem_of_getElem? hc)) (hr i _ v (by rw[List.getElem?_map,hc];rfl) hv)
  |_=>exact fl_in1 h r
theorem fl_out{gc:Cc.G}{g:G}{x:Cc.V}{v:Value}(h:flOK x=true)(r:Cc.RelV gc x v):RelV g (flA x) v:=by
  cases x with
  |agg cs=>
    cases r with
    |agg _ vs hn hr=>
      refine .agg _ vs (by rw[List.length_map];exact hn) λi c v hc hv=>?_;rw[List.getElem?_map]at hc;cases hx:cs[i]? with
      |none=>rw[hx]at hc;cases hc
      |some x=>
        rw[hx]at hc;cases hc
        exact fl_out1 (List.all_eq_true.1 h x (List.mem_of_getElem? hx)) (hr i x v hx hv)
  |tuple cs=>
    cases r with
    |tuple _ vs hn hr=>
      refine .tuple _ vs (by rw[List.length_map];exact hn) λi c v hc hv=>?_;rw[List.getElem?_map]at hc;cases hx:cs[i]? with
      |none=>rw[hx]at hc;cases hc
      |some x=>
        rw[hx]at hc;cases hc
        exact fl_out1 (List.all_eq_true.1 h x (List.mem_of_getElem? hx)) (hr i x v hx hv)
  |bool b=>exact fl_out1 (x:=.bool b) h r
  |int k n=>exact fl_out1 (x:=.int k n) h r
  |str s=>exact fl_out1 (x:=.str s) h r
  |_=>cases h
theorem closed_flat{f:FuncId}{fn:Func}{c:Code}{k:Nat}{xs:List Cc.V}{y:Cc.V}(hf:Tryz.prog.funcs[f]?=some fn)(hb:fn.body=some c)(h:Cc.comes (Cc.run0 k f xs Cc.h0) y=true)(hx:xs.all flOK=true)(hy:flOK y=true)(H:Heap):
    ACall Tryz.prog f (xs.map flA) H (λz H'=>z=flA y∧H'=H):=by
  intro g vs w hr hs;have hI:Inv w:=g.hinv.grow hs.below.size hs.below.block;obtain⟨gc,h1,h2⟩:=ev_of hI;obtain⟨H',hrun⟩:=Cc.comes_spec h;have hvs:Cc.RelVs (gc.alone Cc.consts w h1 (h1▸h2.inv)) xs vs:=⟨(List.length_map ..).symm.trans hr.1,λi x v hxi hv=>fl_in (List.all_eq_true.1 hx x (List.mem_of_getElem? hxi)) (hr.2 i _ v (by rw[List.getElem?_map,hxi];rfl) hv)⟩;rcases Cc.run0_ok k f _ Cc.h0 _ H' hrun with⟨hc,_⟩|hv
  · refine(hc _ _ w rfl hvs (Cc.alone_sat Cc.consts h1 h2)).mono ?_;rintro e w' ⟨v,rfl,g',q1,q2,q3⟩;have hg:Cc.Grow w w':=by have:=q3.keep;rw[q1.base]at this;exact this
    have hs':Sat g H w':=hs.grow ⟨hg.os,hg.tape,hg.output,hg.size,hg.block⟩;exact⟨_,rfl,g,_,H,G.le.refl g,fl_out hy q2,hs',rfl,rfl⟩
  obtain⟨v,w',hrun,_⟩:=hv _ _ w rfl hvs (Cc.alone_sat Cc.consts h1 h2);rw[Cc.enters Cc.noNG hf hb _ w]at hrun;cases hrun
def nameL:List (List UInt8):=[[65,66,83],[65,78,68],[65,86,69,82,65,71,69],[67,69,73,76,73,78,71],[67,72,79,79,83,69],[67,79,76,85,77,78,83],[67,79,78,67,65,84],[67,79,85,78,84],[67,79,85,78,84,65],[67,79,85,78,84,66,76,65,78,75],[69,86,69,78],[69,88,65,67,84],[70,65,67,84],[70,65,76,83,69],[70,73,78,68],[70,76,79,79,82],[71,67,68],[73,70],[73,70,69,82,82,79,82],[73,70,78,65],[73,78,68,69,88],[73,78,84],[73,83,66,76,65,78,75],[73,83,69,82,82,79,82],[73,83,76,79,71,73,67,65,76],[73,83,78,65],[73,83,78,85,77,66,69,82],[73,83,84,69,88,84],[76,65,82,71,69],[76,67,77],[76,69,70,84],[76,69,78],[76,79,87,69,82],[77,65,84,67,72],[77,65,88],[77,69,68,73,65,78],[77,73,68],[77,73,78],[77,79,68],[78],[78,65],[78,79,84],[79,68,68],[79,82],[80,73],[80,79,87,69,82],[80,82,79,68,85,67,84],[81,85,79,84,73,69,78,84],[82,69,80,84],[82,73,71,72,84],[82,79,85,78,68],[82,79,85,78,68,68,79,87,78],[82,79,85,78,68,85,80],[82,79,87,83],[83,73,71,78],[83,77,65,76,76],[83,81,82,84],[83,85,66,83,84,73,84,85,84,69],[83,85,77],[83,85,77,83,81],[84],[84,69,88,84],[84,82,73,77],[84,82,85,69],[84,82,85,78,67],[85,80,80,69,82],[86,65,76,85,69],[88,79,82]]
def strV0(l:List UInt8):Value:=.string ⟨l.toArray⟩
theorem flat_fnames:flatV 4 Rows.laid_tabard_funcs_names=some (nameL.map strV0):=by kernel_rfl
theorem short_fname{i:Nat}{s:List UInt8}(h:nameL[i]?=some s):s.length≤maxLen:=by
  have:∀l∈nameL,l.length≤20:=by decide
  have:=this s (List.mem_of_getElem? h);rw[maxLen_eq];omega
theorem inv_fnames:∀W,Inv W→∃vs:List Value,vs.length=68∧(∀(i:Nat) v,vs[i]?=some v→W.cell? ⟨2,i,none⟩=some v)∧∀g(i:Nat) c v,(nameL.map AV.str)[i]?=some c→vs[i]?=some v→RelV g c v:=by
  intro W h;refine⟨nameL.map strV0,by rw[List.length_map];rfl,λi v hv=>inv_cell h (by simp[laidT]) flat_fnames hv,λg i c v hc hv=>?_⟩;rw[List.getElem?_map]at hc hv;cases hs:nameL[i]? with
  |none=>rw[hs]at hc;cases hc
  |some s=>
    rw[hs]at hc hv;cases hc;cases hv
    exact .str _ (short_fname hs)
end Go.Proofs.YtojblnldfdeefaaGreatDoor
